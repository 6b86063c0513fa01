import Derived.Test.YtmollikhdbaikaaGreatZW3
set_option linter.unusedVariables false
set_option linter.unusedSimpArgs false
set_option maxRecDepth 100000
set_option maxHeartbeats 1000000
namespace Go.Proofs.YtmollikhdbaikaaGreat
open Go.L Go.Sh
theorem DC {F:Nat} {p0:aK} {p1:Int} {r:Int} (h:ux F p0 p1=some r):aM Tryz.prog 40 [.agg [.ak 5 (p0.aa.map al.lv)],.I p1] (Mem.of []) (.I r) (Mem.of []):=by
  unfold ux at h
  refine br Tryz.func40 R (nT Tryz.ntmps40 R) (LH.wk (aS [(0,.agg [.ak 5 (p0.aa.map al.lv)]),(1,.I p1)] []) (LH.aj [(1,.I p1),(2,.ag [.ak 5 (p0.aa.map al.lv)])] [] R (sB (c7 R R R R (bo R zS))) (LH.seq (LH.aj [(1,.I p1),(2,.ag [.ak 5 (p0.aa.map al.lv)]),(5,.I 0)] [] R (bo R zS) (LH.block (LH.loop (fun n e m=>∃ (n1:Int),DB p0 p1 n n1=some r∧e=Env.of [(1,.I p1),(2,.ag [.ak 5 (p0.aa.map al.lv)]),(5,.I n1)]∧m=Mem.of []) F ⟨0,h,R,R⟩ ?_))))))
  clear h
  rintro n e m ⟨n1,h,rfl,rfl⟩
  rcases n with _ | n
  · cases (show Option.none=some _ from h)
  obtain ⟨aJ,a7⟩:∃ f,f=DB p0 p1 n:=⟨_,rfl⟩
  replace h:yg p0 p1 aJ n1=some r:=a7 ▸ h
  unfold yg at h
  refine LH.seq (LH.aj [(1,.I p1),(2,.ag [.ak 5 (p0.aa.map al.lv)]),(5,.I n1),(10,.bool (decide (n1<(p0.aa.length:Int))))] [] R (bj R (sN (aw cd cm dC R R R (sN (bb R cm fA (sN (bW (f:=al.lv) dW R (sN (fi R R zS))))))))) (LH.cond (t:=(decide (n1<(p0.aa.length:Int)))) R (fun eZ=>?_) (fun eZ=>?_)))
  ·replace h:=aB h eZ
   refine LH.skip (au (LH.wk (aS [(1,.I p1),(2,.ag [.ak 5 (p0.aa.map al.lv)]),(5,.I n1)] []) (LH.seq (LH.block ?_))))
   obtain ⟨x3,fz,h⟩:=ao h
   refine LH.aj [(1,.I p1),(2,.ag [.ak 5 (p0.aa.map al.lv)]),(5,.I n1),(20,.bool (x3.ID == p1))] [] R (sN (aw cd cm dC R R R (sN (bb R cm fA (bj R (sN (eG (f:=al.lv) dW cC b8 R R al.ok fz R (sN (aw e8 aD ba R R R (sN (bb R aD bQ (bj R (sN (gp R R zS)))))))))))))) (LH.cond (t:=(x3.ID == p1)) R (fun im=>?_) (fun im=>?_))
   ·replace h:=aB h im
    refine LH.aj [(4,.I n1)] [] R (bj R (bo R zS)) (LH.ret (bB (aW (dF (bB (aW ?_))))))
    obtain rfl:=oI h
    exact aO (aT Tryz.results40) (bU R (bS ⟨aN mN,R,aZ R,Sub.rfl⟩))
   replace h:=aA h im
   refine LH.skip (aY (au (LH.aU [(1,.I p1),(2,.ag [.ak 5 (p0.aa.map al.lv)]),(5,.I (i64 (n1+1)))] [] R (bj R (sN (cD R R (bo R zS)))) ?_)))
   exact bh ⟨(i64 (n1+1)),a7 ▸ h,R,R⟩ (Wk.eq R R R R)
  replace h:=aA h eZ
  refine LH.exit (cw (bY (bO (au (LH.aj [(4,.I (-1))] [] R (bo R zS) (LH.ret ?_))))))
  obtain rfl:=oI h
  exact aO (aT Tryz.results40) (bU R (bS ⟨aN mN,R,aZ R,Sub.rfl⟩))
theorem aq.rel {q:Bool} (z:aq):Rel q (aq.lv z) (aq.lv z):=Rel.agg (eT Rel.int (eT Rel.int (eT Rel.int (eT Rel.int (eT Rel.int (eT Rel.int lK))))))
theorem ai.rel {q:Bool} (z:ai):Rel q (ai.lv z) (ai.lv z):=Rel.agg (eT Rel.int (eT Rel.int (eT Rel.str (eT (Rel.ak aq.rel (fun _=>rfl)) (eT (Rel.ak (fun _=>Rel.int) (fun _=>rfl)) lK)))))
theorem ay.rel {q:Bool} (z:ay):Rel q (ay.lv z) (ay.lv z):=Rel.agg (eT Rel.int (eT Rel.int (eT Rel.int lK)))
theorem al.rel {q:Bool} (z:al):Rel q (al.lv z) (al.lv z):=Rel.agg (eT Rel.int (eT (Rel.ak ai.rel (fun _=>rfl)) (eT (Rel.ak (fun _=>Rel.bool) (fun _=>rfl)) (eT (Rel.ak ay.rel (fun _=>rfl)) (eT Rel.bool lK)))))
def al.lt (T:Bool) (x:al):LV:=.agg [.I x.ID,.ak 5 (x.ab.map ai.lv),.aI T 4 1 (x.ah.map LV.bool),.aI T 88 3 (x.Uses.map ay.lv),.bool x.ae]
theorem al.B3 {T:Bool}:p5 5 (al.lt T):=fun _=>⟨rfl,rfl,rfl⟩
theorem al.pP {T:Bool} (x:al):Rel true (al.lt T x) (al.lv x):=Rel.agg (eT Rel.int (eT (Rel.ak ai.rel (fun _=>rfl)) (eT (Rel.aI (fun _=>Rel.bool) (fun _=>rfl)) (eT (Rel.aI ay.rel (fun _=>rfl)) (eT Rel.bool lK)))))
theorem yw {T:Bool} {F:Nat} {p0:aK} {p1:al} {r:aK} (h:uy F p0 p1=some r):aM Tryz.prog 71 [.agg [.aI T 49 5 (List.map (al.lt T) p0.aa)],.agg [.I p1.ID,.ak 5 (p1.ab.map ai.lv),.aI T 4 1 (p1.ah.map LV.bool),.aI T 88 3 (p1.Uses.map ay.lv),.bool p1.ae]] (Mem.of []) (.agg [.aI T 49 5 (List.map (al.lt T) r.aa)]) (Mem.of []):=by
  unfold uy at h
  refine br Tryz.func71 R (nT Tryz.ntmps71 R) (LH.wk (aS [(0,.agg [.aI T 49 5 (List.map (al.lt T) p0.aa)]),(1,.agg [.I p1.ID,.ak 5 (p1.ab.map ai.lv),.aI T 4 1 (p1.ah.map LV.bool),.aI T 88 3 (p1.Uses.map ay.lv),.bool p1.ae])] []) (LH.aj [(2,.ag [.aI T 49 5 (List.map (al.lt T) p0.aa)]),(3,.ag [.I p1.ID,.ak 5 (p1.ab.map ai.lv),.aI T 4 1 (p1.ah.map LV.bool),.aI T 88 3 (p1.Uses.map ay.lv),.bool p1.ae]),(4,.ptr 104 0)] [(104,.box [.nil])] R (sB (c7 R R R R (sB (c7 R R R R (sN (iE (id:=104) R fM R R zS)))))) (LH.aj [(2,.ag [.aI T 49 5 (List.map (al.lt T) p0.aa)]),(3,.ag [.I p1.ID,.ak 5 (p1.ab.map ai.lv),.aI T 4 1 (p1.ah.map LV.bool),.aI T 88 3 (p1.Uses.map ay.lv),.bool p1.ae]),(4,.ptr 104 0),(5,.ptr 105 0)] [(104,.box [.nil]),(105,.box [.nil])] R (sN (iE (id:=105) R fM R R zS)) (LH.aj [(2,.ag [.aI T 49 5 (List.map (al.lt T) p0.aa)]),(3,.ag [.I p1.ID,.ak 5 (p1.ab.map ai.lv),.aI T 4 1 (p1.ah.map LV.bool),.aI T 88 3 (p1.Uses.map ay.lv),.bool p1.ae]),(4,.ptr 104 0),(5,.ptr 105 0),(6,.bool false)] [(104,.box [.nil]),(105,.box [.nil])] R (b4 R zS) (LH.seq (LH.aj [(2,.ag [.aI T 49 5 (List.map (al.lt T) p0.aa)]),(3,.ag [.I p1.ID,.ak 5 (p1.ab.map ai.lv),.aI T 4 1 (p1.ah.map LV.bool),.aI T 88 3 (p1.Uses.map ay.lv),.bool p1.ae]),(4,.ptr 104 0),(5,.ptr 105 0),(6,.bool false),(7,.I 0)] [(104,.box [.nil]),(105,.box [.nil])] R (bo R zS) (LH.block (LH.wk ((Wk.trans (aS [(2,.ag [.aI T 49 5 (List.map (al.lt T) p0.aa)]),(3,.ag [.I p1.ID,.ak 5 (p1.ab.map ai.lv),.aI T 4 1 (p1.ah.map LV.bool),.aI T 88 3 (p1.Uses.map ay.lv),.bool p1.ae]),(4,.ptr 104 0),(5,.ptr 105 0),(6,.bool false),(7,.I 0)] [(104,.box [.nil]),(105,.box [.nil])]) (Wk.trans (aS [(2,.ag [.aI T 49 5 (List.map (al.lt T) p0.aa)]),(3,.ag [.I p1.ID,.ak 5 (p1.ab.map ai.lv),.aI T 4 1 (p1.ah.map LV.bool),.aI T 88 3 (p1.Uses.map ay.lv),.bool p1.ae]),(4,.ptr 104 0),(5,.ptr 105 0),(6,.bool false),(7,.I 0)] [(104,.box [.nil]),(105,.box [.nil])]) (Wk.trans (Wk.u3 132 49 5 105 0 R R R R R (bM R)) (aS [(2,.ag [.aI T 49 5 (List.map (al.lt T) p0.aa)]),(3,.ag [.I p1.ID,.ak 5 (p1.ab.map ai.lv),.aI T 4 1 (p1.ah.map LV.bool),.aI T 88 3 (p1.Uses.map ay.lv),.bool p1.ae]),(4,.ptr 104 0),(5,.ptr 105 0),(6,.bool false),(7,.I 0)] [(104,.box [.nil]),(105,.box [.arr 132 (List.length ([]:List al))]),(132,.arr 49 5 (List.map (al.lt T) ([]:List al)))]))))) (LH.loop (fun n e m=>∃ (b1:Bool) (n2:Int) (l3:List al),yU p0 p1 n b1 n2 l3=some r∧e=Env.of [(2,.ag [.aI T 49 5 (List.map (al.lt T) p0.aa)]),(3,.ag [.I p1.ID,.ak 5 (p1.ab.map ai.lv),.aI T 4 1 (p1.ah.map LV.bool),.aI T 88 3 (p1.Uses.map ay.lv),.bool p1.ae]),(4,.ptr 104 0),(5,.ptr 105 0),(6,.bool b1),(7,.I n2)]∧m=Mem.of [(104,.box [.nil]),(105,.box [.arr 132 l3.length]),(132,.arr 49 5 (List.map (al.lt T) l3))]) F ⟨false,0,([]:List al),h,R,R⟩ ?_)))))))))
  clear h
  rintro n e m ⟨b1,n2,l3,h,rfl,rfl⟩
  rcases n with _ | n
  · cases (show Option.none=some _ from h)
  obtain ⟨aJ,a7⟩:∃ f,f=yU p0 p1 n:=⟨_,rfl⟩
  replace h:yo p0 p1 aJ b1 n2 l3=some r:=a7 ▸ h
  unfold yo at h
  refine LH.seq (LH.aj [(2,.ag [.aI T 49 5 (List.map (al.lt T) p0.aa)]),(3,.ag [.I p1.ID,.ak 5 (p1.ab.map ai.lv),.aI T 4 1 (p1.ah.map LV.bool),.aI T 88 3 (p1.Uses.map ay.lv),.bool p1.ae]),(4,.ptr 104 0),(5,.ptr 105 0),(6,.bool b1),(7,.I n2),(12,.bool (decide (n2<(p0.aa.length:Int))))] [(104,.box [.nil]),(105,.box [.arr 132 l3.length]),(132,.arr 49 5 (List.map (al.lt T) l3))] R (bj R (sN (aw cd cm dC R R R (sN (bb R cm fA (sX ((tk (f:=(al.lt T)) dW R).ok) (sN (fi R R zS)))))))) (LH.cond (t:=(decide (n2<(p0.aa.length:Int)))) R (fun im=>?_) (fun im=>?_)))
  ·replace h:=aB h im
   refine LH.skip (au (LH.wk (aS [(2,.ag [.aI T 49 5 (List.map (al.lt T) p0.aa)]),(3,.ag [.I p1.ID,.ak 5 (p1.ab.map ai.lv),.aI T 4 1 (p1.ah.map LV.bool),.aI T 88 3 (p1.Uses.map ay.lv),.bool p1.ae]),(4,.ptr 104 0),(5,.ptr 105 0),(6,.bool b1),(7,.I n2)] [(104,.box [.nil]),(105,.box [.arr 132 l3.length]),(132,.arr 49 5 (List.map (al.lt T) l3))]) (LH.seq (LH.block (LH.mid (fun e m=>∃ (b5:Bool) (l6:List al),vh aJ p0 p1 n2 b5 l6=some r∧Wk (fun id=>Mem.of [] id ≠ .none) e m (Env.of [(2,.ag [.aI T 49 5 (List.map (al.lt T) p0.aa)]),(3,.ag [.I p1.ID,.ak 5 (p1.ab.map ai.lv),.aI T 4 1 (p1.ah.map LV.bool),.aI T 88 3 (p1.Uses.map ay.lv),.bool p1.ae]),(4,.ptr 104 0),(5,.ptr 105 0),(6,.bool b5),(7,.I n2)]) (Mem.of [(104,.box [.nil]),(105,.box [.arr 132 l6.length]),(132,.arr 49 5 (List.map (al.lt T) l6))])) ?_ ?_)))))
   ·obtain ⟨DT,hv,h⟩:=ao h
    refine LH.di mixed [] [0,0,0,0,0,0,4,4,4,0,0,0,0] [(2,.ag [.aI T 49 5 (List.map (al.lt T) p0.aa)]),(3,.ag [.I p1.ID,.ak 5 (p1.ab.map ai.lv),.aI T 4 1 (p1.ah.map LV.bool),.aI T 88 3 (p1.Uses.map ay.lv),.bool p1.ae]),(4,.ptr 104 0),(5,.ptr 105 0),(6,.bool b1),(7,.I n2),(27,.bool DT)] [(104,.box [.nil]),(105,.box [.arr 132 l3.length]),(132,.arr 49 5 (List.map (al.lt T) l3))] R R (by kernel_rfl) ?_ ?_
    ·refine iO R (aF (kB R ⟨R,iO R ?_⟩))
     by_cases bX:(!b1)=true
     ·replace hv:=aB hv bX
      refine mT R (cB bX) (aF (aw cd cm dC R R R ⟨R,mT R (cB bX) (aF (bb R cm fA ⟨R,mT R (cB bX) (fF R ?_)⟩))⟩))
      obtain ⟨nP,FA,hv⟩:=ao hv
      refine mT R (cB bX) (mM (fun _=>iQ (f:=(al.lt T)) dW cC b8 R R al.B3 FA R) (mT R (cB bX) (mM (fun _=>tj e8 aD ba R R R) (mT R (cB bX) (mM (fun _=>oN R aD bQ) (mT R (cB bX) (aF (aw e8 aD ba R R R ⟨R,mT R (cB bX) (aF (bb R aD bQ ⟨R,mT R (cB bX) (aF (pJ R R ⟨R,aF (aX (cB bX) (v:=(.bool _)) R ⟨R,?_⟩)⟩))⟩))⟩))))))))
      obtain rfl:=oI hv
      exact zM
     ·replace bX:=bF bX
      replace hv:=aA hv bX
      refine mF R R bX (mF R R bX (mF R R bX (mF R R bX (mF R R bX (mF R R bX (mF R R bX (mF R R bX (mF R R bX (aF (aQ (cB bX) (v:=(.bool _)) R ⟨R,?_⟩))))))))))
      obtain rfl:=oI hv
      exact zM
    clear hv
    refine LH.cond (t:=DT) R (fun kx=>?_) (fun kx=>?_)
    ·replace h:=aB h kx
     obtain ⟨Ec,Lb,h⟩:=ao h
     exact LH.aj [(2,.ag [.aI T 49 5 (List.map (al.lt T) p0.aa)]),(3,.ag [.I p1.ID,.ak 5 (p1.ab.map ai.lv),.aI T 4 1 (p1.ah.map LV.bool),.aI T 88 3 (p1.Uses.map ay.lv),.bool p1.ae]),(4,.ptr 104 0),(5,.ptr 105 0),(7,.I n2)] [(104,.box [.nil]),(105,.box [.arr 132 Ec.length]),(132,.arr 49 5 (List.map (al.lt T) Ec))] R (sN (dD cd cm dC R R (sN (dM R R R R cm fA (sN (bd R cC fR b8 R R (sN (jZ (f:=(al.lt T)) (ys:=[p1]) dW qq b8 R R R al.B3 (sN (nw (f:=(al.lt T)) dW qq b8 R R (bM R) R Lb (sN (dD cd cm dC R R (s_ (cG R R R cm dC R R R zS)))))))))))))) (LH.aU [(2,.ag [.aI T 49 5 (List.map (al.lt T) p0.aa)]),(3,.ag [.I p1.ID,.ak 5 (p1.ab.map ai.lv),.aI T 4 1 (p1.ah.map LV.bool),.aI T 88 3 (p1.Uses.map ay.lv),.bool p1.ae]),(4,.ptr 104 0),(5,.ptr 105 0),(6,.bool true),(7,.I n2)] [(104,.box [.nil]),(105,.box [.arr 132 Ec.length]),(132,.arr 49 5 (List.map (al.lt T) Ec))] R (b4 R zS) (au ⟨true,Ec,h,Wk.eq R R R R⟩))
    replace h:=aA h kx
    exact LH.skip (au ⟨b1,l3,h,Wk.eq R R R R⟩)
   clear h
   rintro e m ⟨b5,l6,h,hw⟩
   refine LH.wk hw ?_
   clear hw
   unfold vh at h
   obtain ⟨x7,AF,h⟩:=ao h
   refine LH.di mixed [] [0,0,0,4,4,4,0,0,0] [(2,.ag [.aI T 49 5 (List.map (al.lt T) p0.aa)]),(3,.ag [.I p1.ID,.ak 5 (p1.ab.map ai.lv),.aI T 4 1 (p1.ah.map LV.bool),.aI T 88 3 (p1.Uses.map ay.lv),.bool p1.ae]),(4,.ptr 104 0),(5,.ptr 105 0),(6,.bool b5),(7,.I n2),(42,.bool (x7.ID != p1.ID))] [(104,.box [.nil]),(105,.box [.arr 132 l6.length]),(132,.arr 49 5 (List.map (al.lt T) l6))] R R (by kernel_rfl) (aF (aw cd cm dC R R R ⟨R,aF (bb R cm fA ⟨R,fF R (mM (fun _=>iQ (f:=(al.lt T)) dW cC b8 R R al.B3 AF R) (mM (fun _=>tj e8 aD ba R R R) (mM (fun _=>oN R aD bQ) (aF (aw e8 aD ba R R R ⟨R,aF (bb R aD bQ ⟨R,aF (jR R R ⟨R,zM⟩)⟩)⟩)))))⟩)⟩)) (LH.cond (t:=(x7.ID != p1.ID)) R (fun kS=>?_) (fun kS=>?_))
   ·replace h:=aB h kS
    obtain ⟨x9,wZ,h⟩:=ao h
    obtain ⟨v10,Fs,h⟩:=ao h
    refine LH.s9 mixed [] [0,1105,0,0,0,4,4,0,2,0,100105] [(2,.ag [.aI T 49 5 (List.map (al.lt T) p0.aa)]),(3,.ag [.I p1.ID,.ak 5 (p1.ab.map ai.lv),.aI T 4 1 (p1.ah.map LV.bool),.aI T 88 3 (p1.Uses.map ay.lv),.bool p1.ae]),(4,.ptr 104 0),(5,.ptr 105 0),(6,.bool b5),(7,.I n2)] [(104,.box [.nil]),(105,.box [.arr 132 v10.length]),(132,.arr 49 5 (List.map (al.lt T) v10))] R R (by kernel_rfl) ?_ ?_
    ·refine aF (dD cd cm dC R R ⟨R,mD R R R (fun _ b _ d=>dM R b R R cm fA d) (aF (aw cd cm dC R R R ⟨R,aF (bb R cm fA ⟨R,fF R (mM (fun _=>iQ (f:=(al.lt T)) dW cC b8 R R al.B3 wZ R) (mM (fun _=>nz R cC fR b8 R R) ?_))⟩)⟩))⟩)
     exact aF (jZ (f:=(al.lt T)) (ys:=[x9]) dW qq b8 R R R al.B3 ⟨R,Ht (nw (f:=(al.lt T)) dW qq b8 R R (bM R) R Fs (aF (dD cd cm dC R R ⟨R,mS R R R (fun _ b _ d=>cG R R R cm dC b R R d) zM⟩)))⟩)
    refine aY (au (LH.aU [(2,.ag [.aI T 49 5 (List.map (al.lt T) p0.aa)]),(3,.ag [.I p1.ID,.ak 5 (p1.ab.map ai.lv),.aI T 4 1 (p1.ah.map LV.bool),.aI T 88 3 (p1.Uses.map ay.lv),.bool p1.ae]),(4,.ptr 104 0),(5,.ptr 105 0),(6,.bool b5),(7,.I (i64 (n2+1)))] [(104,.box [.nil]),(105,.box [.arr 132 v10.length]),(132,.arr 49 5 (List.map (al.lt T) v10))] R (bj R (sN (cD R R (bo R zS)))) ?_))
    exact bh ⟨b5,(i64 (n2+1)),v10,a7 ▸ h,R,R⟩ (Wk.eq R R R R)
   replace h:=aA h kS
   refine LH.skip (aY (au (LH.aU [(2,.ag [.aI T 49 5 (List.map (al.lt T) p0.aa)]),(3,.ag [.I p1.ID,.ak 5 (p1.ab.map ai.lv),.aI T 4 1 (p1.ah.map LV.bool),.aI T 88 3 (p1.Uses.map ay.lv),.bool p1.ae]),(4,.ptr 104 0),(5,.ptr 105 0),(6,.bool b5),(7,.I (i64 (n2+1)))] [(104,.box [.nil]),(105,.box [.arr 132 l6.length]),(132,.arr 49 5 (List.map (al.lt T) l6))] R (bj R (sN (cD R R (bo R zS)))) ?_)))
   exact bh ⟨b5,(i64 (n2+1)),l6,a7 ▸ h,R,R⟩ (Wk.eq R R R R)
  replace h:=aA h im
  refine LH.exit (cw (bY (bO (au (LH.wk (aS [(3,.ag [.I p1.ID,.ak 5 (p1.ab.map ai.lv),.aI T 4 1 (p1.ah.map LV.bool),.aI T 88 3 (p1.Uses.map ay.lv),.bool p1.ae]),(4,.ptr 104 0),(5,.ptr 105 0),(6,.bool b1)] [(104,.box [.nil]),(105,.box [.arr 132 l3.length]),(132,.arr 49 5 (List.map (al.lt T) l3))]) (LH.seq (LH.aj [(3,.ag [.I p1.ID,.ak 5 (p1.ab.map ai.lv),.aI T 4 1 (p1.ah.map LV.bool),.aI T 88 3 (p1.Uses.map ay.lv),.bool p1.ae]),(4,.ptr 104 0),(5,.ptr 105 0),(54,.bool (!b1))] [(104,.box [.nil]),(105,.box [.arr 132 l3.length]),(132,.arr 49 5 (List.map (al.lt T) l3))] R (bD R (sN (kB R zS))) (LH.cond (t:=(!b1)) R (fun lF=>?_) (fun lF=>?_)))))))))
  ·replace h:=aB h lF
   obtain ⟨pV,Fv,h⟩:=ao h
   refine LH.aU [(4,.ptr 104 0),(5,.ag [.aI T 49 5 (List.map (al.lt T) pV)])] [(104,.box [.nil])] R (sN (dD cd cm dC R R (sN (dM R R R R cm fA (sN (bd R cC fR b8 R R (sN (jZ (f:=(al.lt T)) (ys:=[p1]) dW qq b8 R R R al.B3 (sN (nw (f:=(al.lt T)) dW qq b8 R R (bM R) R Fv (sN (dD cd cm dC R R (s_ (cG R R R cm dC R R R (s0 ((Wk.trans (aS [(4,.ptr 104 0),(5,.ptr 105 0)] [(104,.box [.nil]),(105,.box [.arr 132 pV.length]),(132,.arr 49 5 (List.map (al.lt T) pV))]) (Wk.trans (aS [(4,.ptr 104 0),(5,.ptr 105 0)] [(104,.box [.nil]),(105,.box [.arr 132 pV.length]),(132,.arr 49 5 (List.map (al.lt T) pV))]) (Wk.trans (Wk.trans (Wk.sH (f:=(al.lt T)) T 132 49 5 pV 105 R R R (MV MU) R R (bM R)) (aS [(4,.ptr 104 0),(5,.ptr 105 0)] [(104,.box [.nil]),(105,.box [.aI T 49 5 (List.map (al.lt T) pV)])])) (Wk.trans (Wk.bg 105 [.aI T 49 5 (List.map (al.lt T) pV)] R R R (bM R)) (Wk.eq R R R R))))))))))))))))))))) (au (LH.aj [(4,.ag [.aI T 49 5 (List.map (al.lt T) pV)])] [] R (sN (bd R bw cF bx R R (s_ (cG R R R bw bx R R R (s0 ((Wk.trans (aS [(4,.ptr 104 0)] [(104,.box [.aI T 49 5 (List.map (al.lt T) pV)])]) (Wk.trans (Wk.bg 104 [.aI T 49 5 (List.map (al.lt T) pV)] R R R (bM R)) (Wk.eq R R R R))))))))) (LH.ret ?_)))
   obtain rfl:=oI h
   exact aO (aT Tryz.results71) (cT R bw cF bx R R (bS ⟨aN mN,R,aZ R,Sub.rfl⟩))
  replace h:=aA h lF
  refine LH.skip (au (LH.wk ((Wk.trans (aS [(4,.ptr 104 0),(5,.ptr 105 0)] [(104,.box [.nil]),(105,.box [.arr 132 l3.length]),(132,.arr 49 5 (List.map (al.lt T) l3))]) (Wk.trans (aS [(4,.ptr 104 0),(5,.ptr 105 0)] [(104,.box [.nil]),(105,.box [.arr 132 l3.length]),(132,.arr 49 5 (List.map (al.lt T) l3))]) (Wk.trans (Wk.trans (Wk.sH (f:=(al.lt T)) T 132 49 5 l3 105 R R R (MV MU) R R (bM R)) (aS [(4,.ptr 104 0),(5,.ptr 105 0)] [(104,.box [.nil]),(105,.box [.aI T 49 5 (List.map (al.lt T) l3)])])) (Wk.trans (Wk.bg 105 [.aI T 49 5 (List.map (al.lt T) l3)] R R R (bM R)) (aS [(4,.ptr 104 0),(5,.ag [.aI T 49 5 (List.map (al.lt T) l3)])] [(104,.box [.nil])])))))) (LH.aj [(4,.ag [.aI T 49 5 (List.map (al.lt T) l3)])] [] R (sN (bd R bw cF bx R R (s_ (cG R R R bw bx R R R (s0 ((Wk.trans (aS [(4,.ptr 104 0)] [(104,.box [.aI T 49 5 (List.map (al.lt T) l3)])]) (Wk.trans (Wk.bg 104 [.aI T 49 5 (List.map (al.lt T) l3)] R R R (bM R)) (Wk.eq R R R R))))))))) (LH.ret ?_))))
  obtain rfl:=oI h
  exact aO (aT Tryz.results71) (cT R bw cF bx R R (bS ⟨aN mN,R,aZ R,Sub.rfl⟩))
theorem P0 {T:Bool} {F:Nat} {p0:aK} {p1:ai} {r:aK × Int} (h:yJ F p0 p1=some r):aM Tryz.prog 45 [.agg [.aI T 49 5 (List.map (al.lt T) p0.aa)],ai.lv p1] (Mem.of []) (.cX [.agg [.aI T 49 5 (List.map (al.lt T) r.1.aa)],.I r.2]) (Mem.of []):=by
  unfold yJ at h
  refine br Tryz.func45 R (nT Tryz.ntmps45 R) (LH.wk (aS [(0,.agg [.aI T 49 5 (List.map (al.lt T) p0.aa)]),(1,ai.lv p1)] []) (LH.aj [(2,.ag [.aI T 49 5 (List.map (al.lt T) p0.aa)]),(3,.ag (ai.lv p1).cells),(4,.ptr 104 0)] [(104,.box [.nil])] R (sB (c7 R R R R (sB (c7 R R R R (sN (iE (id:=104) R fM R R (bo R zS))))))) (LH.seq ?_)))
  obtain ⟨r1,ee,h⟩:=ao h
  refine LH.aj [(2,.ag [.aI T 49 5 (List.map (al.lt T) p0.aa)]),(3,.ag (ai.lv p1).cells),(4,.ptr 104 0),(6,.I r1)] [(104,.box [.nil])] R (sN (bd R bT dO bN R R (sN (dQ (args:=[ai.lv p1]) R FF R (aH bn) (Ge ee) R (bo R zS))))) (LH.aj [(2,.ag [.aI T 49 5 (List.map (al.lt T) p0.aa)]),(3,.ag (ai.lv p1).cells),(4,.ptr 104 0),(6,.I r1),(10,.bool (r1 != 0))] [(104,.box [.nil])] R (bj R (sN (jR R R zS))) (LH.cond (t:=(r1 != 0)) R (fun eZ=>?_) (fun eZ=>?_)))
  ·replace h:=aB h eZ
   refine LH.aj [(4,.ag [.nil]),(5,.I r1)] [] R (sN (fU (vs:=[]) ly fM R fT (bj R (s_ (cG R R R bw bx R R R (bo R (s0 ((Wk.trans (aS [(4,.ptr 104 0),(5,.I r1)] [(104,.box [.nil])]) (Wk.trans (Wk.bg 104 [.nil] R R R (bM R)) (Wk.eq R R R R))))))))))) (LH.ret (aW ?_))
   obtain rfl:=oI h
   exact aO (aT Tryz.results45) (cT R bw cF bx R R (bU R (bS ⟨aN mN,R,aZ R,(Sub.cX (o7 (Sub.agg (vq R bn)) (aH bn)))⟩)))
  replace h:=aA h eZ
  refine LH.skip (au (LH.wk (aS [(2,.ag [.aI T 49 5 (List.map (al.lt T) p0.aa)]),(3,.ag (ai.lv p1).cells),(4,.ptr 104 0)] [(104,.box [.nil])]) (LH.seq (LH.aj [(2,.ag [.aI T 49 5 (List.map (al.lt T) p0.aa)]),(3,.ag (ai.lv p1).cells),(4,.ptr 104 0),(15,.bool (p1.Version != 1))] [(104,.box [.nil])] R (sN (aw fL aD ba R R R (sN (bb R aD bQ (sN (jR R R zS)))))) (LH.cond (t:=(p1.Version != 1)) R (fun iK=>?_) (fun iK=>?_))))))
  ·replace h:=aB h iK
   refine LH.aj [(4,.ag [.nil]),(5,.I 8)] [] R (sN (fU (vs:=[]) ly fM R fT (s_ (cG R R R bw bx R R R (bo R (s0 ((Wk.trans (aS [(4,.ptr 104 0),(5,.I 8)] [(104,.box [.nil])]) (Wk.trans (Wk.bg 104 [.nil] R R R (bM R)) (Wk.eq R R R R)))))))))) (LH.ret (aW ?_))
   obtain rfl:=oI h
   exact aO (aT Tryz.results45) (cT R bw cF bx R R (bU R (bS ⟨aN mN,R,aZ R,(Sub.cX (o7 (Sub.agg (vq R bn)) (aH bn)))⟩)))
  replace h:=aA h iK
  refine LH.skip (au (LH.wk (aS [(2,.ag [.aI T 49 5 (List.map (al.lt T) p0.aa)]),(3,.ag (ai.lv p1).cells),(4,.ptr 104 0)] [(104,.box [.nil])]) (LH.seq ?_)))
  obtain ⟨r4,C0,h⟩:=ao h
  refine LH.aj [(2,.ag [.aI T 49 5 (List.map (al.lt T) p0.aa)]),(3,.ag (ai.lv p1).cells),(4,.ptr 104 0),(21,.bool (decide (r4 ≥ 0)))] [(104,.box [.nil])] R (sN (bd R bw cF bx R R (sN (aw e9 aD ba R R R (sN (bb R aD bQ (sN (dQ (args:=[.agg [.aI T 49 5 (List.map (al.lt T) p0.aa)],.I p1.ID]) R uW R (aH (aH bn)) (aM.view (DC C0) (eT (Rel.agg (eT (Rel.aI al.pP (fun _=>R)) lK)) (eT Rel.int lK)) R R) R (sN (pJ R R zS)))))))))) (LH.cond (t:=(decide (r4 ≥ 0))) R (fun jY=>?_) (fun jY=>?_))
  ·replace h:=aB h jY
   refine LH.aj [(4,.ag [.nil]),(5,.I 5)] [] R (sN (fU (vs:=[]) ly fM R fT (s_ (cG R R R bw bx R R R (bo R (s0 ((Wk.trans (aS [(4,.ptr 104 0),(5,.I 5)] [(104,.box [.nil])]) (Wk.trans (Wk.bg 104 [.nil] R R R (bM R)) (Wk.eq R R R R)))))))))) (LH.ret (aW ?_))
   obtain rfl:=oI h
   exact aO (aT Tryz.results45) (cT R bw cF bx R R (bU R (bS ⟨aN mN,R,aZ R,(Sub.cX (o7 (Sub.agg (vq R bn)) (aH bn)))⟩)))
  replace h:=aA h jY
  refine LH.skip (au (LH.wk (aS [(2,.ag [.aI T 49 5 (List.map (al.lt T) p0.aa)]),(3,.ag (ai.lv p1).cells),(4,.ptr 104 0)] [(104,.box [.nil])]) (LH.seq (LH.aj [(2,.ag [.aI T 49 5 (List.map (al.lt T) p0.aa)]),(3,.ag (ai.lv p1).cells),(4,.ptr 104 0),(26,.bool ((p0.aa.length:Int) == 40))] [(104,.box [.nil])] R (sN (aw cd cm dC R R R (sN (bb R cm fA (sX ((tk (f:=(al.lt T)) dW R).ok) (sN (gp R R zS))))))) (LH.cond (t:=((p0.aa.length:Int) == 40)) R (fun fP=>?_) (fun fP=>?_))))))
  ·replace h:=aB h fP
   refine LH.aj [(4,.ag [.nil]),(5,.I 3)] [] R (sN (fU (vs:=[]) ly fM R fT (s_ (cG R R R bw bx R R R (bo R (s0 ((Wk.trans (aS [(4,.ptr 104 0),(5,.I 3)] [(104,.box [.nil])]) (Wk.trans (Wk.bg 104 [.nil] R R R (bM R)) (Wk.eq R R R R)))))))))) (LH.ret (aW ?_))
   obtain rfl:=oI h
   exact aO (aT Tryz.results45) (cT R bw cF bx R R (bU R (bS ⟨aN mN,R,aZ R,(Sub.cX (o7 (Sub.agg (vq R bn)) (aH bn)))⟩)))
  replace h:=aA h fP
  refine LH.skip (au ?_)
  obtain ⟨r7,Az,h⟩:=ao h
  refine LH.aj [(4,.ag [.aI T 49 5 (List.map (al.lt T) r7.aa)]),(5,.I 0)] [] R (sN (bd R bw cF bx R R (sN (aw e9 aD ba R R R (sN (bb R aD bQ (sN (bd R bT dO bN R R (sN (jZ (f:=ai.lv) (ys:=[p1]) eU zh bN R R R ai.ok (sX ((bl.Kd (T:=T) (id:=133) (xs:=[false]) (by simp [Op.operands,c9,Env.of,Env.put,LV.pure,D9,uu]) (cr.TP [] (by simp [Op.operands]) (AO (g:=LV.bool) (ys:=[false]) (id:=133) jo Hv lC R R R okB R)) R _).ok) (sN (fU (vs:=[(0,.I p1.ID),(1,.ak 5 (List.map ai.lv [p1])),(2,.aI T 4 1 (List.map LV.bool [false]))]) IB lz R (lf e8 ba aD R R R (lf cH eY cL R R R (lf dG gJ dX R R R fT))) (sN (dQ (args:=[.agg [.aI T 49 5 (List.map (al.lt T) p0.aa)],.agg [.I p1.ID,.ak 5 (List.map ai.lv [p1]),.aI T 4 1 (List.map LV.bool [false]),.nil,.bool false]]) R xM R (aH (o7 (Sub.agg (aH (aH (aH (vq R (aH bn)))))) bn)) (yw (T:=T) Az) R (s_ (cG R R R bw bx R R R (bo R (s0 ((Wk.trans (aS [(4,.ptr 104 0),(5,.I 0)] [(104,.box [.aI T 49 5 (List.map (al.lt T) r7.aa)])]) (Wk.trans (Wk.bg 104 [.aI T 49 5 (List.map (al.lt T) r7.aa)] R R R (bM R)) (Wk.eq R R R R))))))))))))))))))))))) (LH.ret ?_)
  obtain rfl:=oI h
  exact aO (aT Tryz.results45) (cT R bw cF bx R R (bU R (bS ⟨aN mN,R,aZ R,(Sub.cX (aH (aH bn)))⟩)))
theorem PU {T:Bool} {F:Nat} {p0:aK} {p1:ai} {r:aK × Int} (h:yD F p0 p1=some r):aM Tryz.prog 46 [.agg [.aI T 49 5 (List.map (al.lt T) p0.aa)],ai.lv p1] (Mem.of []) (.cX [.agg [.aI T 49 5 (List.map (al.lt T) r.1.aa)],.I r.2]) (Mem.of []):=by
  unfold yD at h
  refine br Tryz.func46 R (nT Tryz.ntmps46 R) (LH.wk (aS [(0,.agg [.aI T 49 5 (List.map (al.lt T) p0.aa)]),(1,ai.lv p1)] []) (LH.aj [(2,.ag [.aI T 49 5 (List.map (al.lt T) p0.aa)]),(3,.ag (ai.lv p1).cells),(4,.ptr 104 0)] [(104,.box [.nil])] R (sB (c7 R R R R (sB (c7 R R R R (sN (iE (id:=104) R fM R R (bo R zS))))))) (LH.seq ?_)))
  obtain ⟨r1,ee,h⟩:=ao h
  refine LH.aj [(2,.ag [.aI T 49 5 (List.map (al.lt T) p0.aa)]),(3,.ag (ai.lv p1).cells),(4,.ptr 104 0),(6,.I r1)] [(104,.box [.nil])] R (sN (bd R bT dO bN R R (sN (dQ (args:=[ai.lv p1]) R FF R (aH bn) (Ge ee) R (bo R zS))))) (LH.aj [(2,.ag [.aI T 49 5 (List.map (al.lt T) p0.aa)]),(3,.ag (ai.lv p1).cells),(4,.ptr 104 0),(6,.I r1),(14,.bool (r1 != 0))] [(104,.box [.nil])] R (bj R (sN (jR R R zS))) (LH.cond (t:=(r1 != 0)) R (fun eZ=>?_) (fun eZ=>?_)))
  ·replace h:=aB h eZ
   refine LH.aj [(4,.ag [.nil]),(5,.I r1)] [] R (sN (fU (vs:=[]) ly fM R fT (bj R (s_ (cG R R R bw bx R R R (bo R (s0 ((Wk.trans (aS [(4,.ptr 104 0),(5,.I r1)] [(104,.box [.nil])]) (Wk.trans (Wk.bg 104 [.nil] R R R (bM R)) (Wk.eq R R R R))))))))))) (LH.ret (aW ?_))
   obtain rfl:=oI h
   exact aO (aT Tryz.results46) (cT R bw cF bx R R (bU R (bS ⟨aN mN,R,aZ R,(Sub.cX (o7 (Sub.agg (vq R bn)) (aH bn)))⟩)))
  replace h:=aA h eZ
  refine LH.skip (au ?_)
  obtain ⟨r3,nW,h⟩:=ao h
  refine LH.aj [(2,.ag [.aI T 49 5 (List.map (al.lt T) p0.aa)]),(3,.ag (ai.lv p1).cells),(4,.ptr 104 0),(7,.I r3)] [(104,.box [.nil])] R (sN (bd R bw cF bx R R (sN (aw e9 aD ba R R R (sN (bb R aD bQ (sN (dQ (args:=[.agg [.aI T 49 5 (List.map (al.lt T) p0.aa)],.I p1.ID]) R uW R (aH (aH bn)) (aM.view (DC nW) (eT (Rel.agg (eT (Rel.aI al.pP (fun _=>R)) lK)) (eT Rel.int lK)) R R) R (bo R zS))))))))) (LH.seq (LH.aj [(2,.ag [.aI T 49 5 (List.map (al.lt T) p0.aa)]),(3,.ag (ai.lv p1).cells),(4,.ptr 104 0),(7,.I r3),(22,.bool (decide (r3<0)))] [(104,.box [.nil])] R (bj R (sN (fi R R zS))) (LH.cond (t:=(decide (r3<0))) R (fun im=>?_) (fun im=>?_))))
  ·replace h:=aB h im
   refine LH.aj [(4,.ag [.nil]),(5,.I 4)] [] R (sN (fU (vs:=[]) ly fM R fT (s_ (cG R R R bw bx R R R (bo R (s0 ((Wk.trans (aS [(4,.ptr 104 0),(5,.I 4)] [(104,.box [.nil])]) (Wk.trans (Wk.bg 104 [.nil] R R R (bM R)) (Wk.eq R R R R)))))))))) (LH.ret (aW ?_))
   obtain rfl:=oI h
   exact aO (aT Tryz.results46) (cT R bw cF bx R R (bU R (bS ⟨aN mN,R,aZ R,(Sub.cX (o7 (Sub.agg (vq R bn)) (aH bn)))⟩)))
  replace h:=aA h im
  refine LH.skip (au ?_)
  obtain ⟨x5,nJ,h⟩:=ao h
  refine LH.aj [(2,.ag [.aI T 49 5 (List.map (al.lt T) p0.aa)]),(3,.ag (ai.lv p1).cells),(4,.ptr 104 0),(8,.ptr 108 0)] [(104,.box [.nil]),(108,.box [.I x5.ID,.ak 5 (x5.ab.map ai.lv),.aI T 4 1 (x5.ah.map LV.bool),.aI T 88 3 (x5.Uses.map ay.lv),.bool x5.ae])] R ?_ ?_
  ·refine sN (aw cd cm dC R R R (sN (bb R cm fA (bj R (sX ((iQ (f:=(al.lt T)) dW cC b8 R R al.B3 nJ R).ok) (sX ((nz R cC fR b8 R R).ok) ?_))))))
   exact sN (iE (id:=108) R lz R R (s_ (cG R R R cC b8 R R R zS)))
  refine LH.seq (LH.aj [(2,.ag [.aI T 49 5 (List.map (al.lt T) p0.aa)]),(3,.ag (ai.lv p1).cells),(4,.ptr 104 0),(8,.ptr 108 0),(39,.bool (x5.ae || (p1.Version != (i64 ((x5.ab.length:Int)+1)))))] [(104,.box [.nil]),(108,.box [.I x5.ID,.ak 5 (x5.ab.map ai.lv),.aI T 4 1 (x5.ah.map LV.bool),.aI T 88 3 (x5.Uses.map ay.lv),.bool x5.ae])] R ?_ ?_)
  ·refine sN (dD iW jC lC R R (sN (dM R R R R jC uC (bD R ?_))))
   by_cases cc:x5.ae=true
   ·exact sF R R cc (sF R R cc (sF R R cc (sF R R cc (sF R R cc (sF R R cc (sF R R cc (sN (aX (cB cc) (v:=(.bool _)) R (s0 (Wk.to (eC R (eC R (eC R (eC R (eC (cB (nL cc)) eN))))) ⟨R,R,trivial⟩ R (aZ R)))))))))))
   ·replace cc:=bF cc
    exact sT R (cB cc) (aw fL aD ba R R R (sT R (cB cc) (bb R aD bQ (sT R (cB cc) (dD cH cL eY R R (sT R (cB cc) (dM R R R R cL gr (sT R (cB cc) (bW (f:=ai.lv) eU R (sT R (cB cc) (cD R R (sT R (cB cc) (jR R R (sN (aQ (cB cc) (v:=(.bool _)) R (s0 (Wk.to (eC R (eC R (eC R (eC R (eC (cB (gz cc)) eN))))) ⟨R,R,trivial⟩ R (aZ R))))))))))))))))))
  refine LH.cond (t:=(x5.ae || (p1.Version != (i64 ((x5.ab.length:Int)+1))))) R (fun kS=>?_) (fun kS=>?_)
  ·replace h:=aB h kS
   refine LH.aj [(4,.ag [.nil]),(5,.I 8)] [] R (sN (fU (vs:=[]) ly fM R fT (s_ (cG R R R bw bx R R R (bo R (s0 ((Wk.trans (aS [(4,.ptr 104 0),(5,.I 8)] [(104,.box [.nil])]) (Wk.trans (Wk.bg 104 [.nil] R R R (bM R)) (Wk.eq R R R R)))))))))) (LH.ret (aW ?_))
   obtain rfl:=oI h
   exact aO (aT Tryz.results46) (cT R bw cF bx R R (bU R (bS ⟨aN mN,R,aZ R,(Sub.cX (o7 (Sub.agg (vq R bn)) (aH bn)))⟩)))
  replace h:=aA h kS
  refine LH.skip (au (LH.aj [(2,.ag [.aI T 49 5 (List.map (al.lt T) p0.aa)]),(3,.ag (ai.lv p1).cells),(4,.ptr 104 0),(8,.ptr 108 0),(9,.nil)] [(104,.box [.nil]),(108,.box [.I x5.ID,.ak 5 (x5.ab.map ai.lv),.aI T 4 1 (x5.ah.map LV.bool),.aI T 88 3 (x5.Uses.map ay.lv),.bool x5.ae])] R (kX R zS) (LH.aj [(2,.ag [.aI T 49 5 (List.map (al.lt T) p0.aa)]),(3,.ag (ai.lv p1).cells),(4,.ptr 104 0),(8,.ptr 108 0),(9,.nil),(10,.nil)] [(104,.box [.nil]),(108,.box [.I x5.ID,.ak 5 (x5.ab.map ai.lv),.aI T 4 1 (x5.ah.map LV.bool),.aI T 88 3 (x5.Uses.map ay.lv),.bool x5.ae])] R (kX R zS) ?_)))
  obtain ⟨v9,S8,h⟩:=ao h
  refine LH.aj [(2,.ag [.aI T 49 5 (List.map (al.lt T) p0.aa)]),(3,.ag (ai.lv p1).cells),(4,.ptr 104 0),(8,.ptr 108 0),(9,.arr 144 v9.length),(10,.nil)] [(104,.box [.nil]),(108,.box [.I x5.ID,.ak 5 (x5.ab.map ai.lv),.aI T 4 1 (x5.ah.map LV.bool),.aI T 88 3 (x5.Uses.map ay.lv),.bool x5.ae]),(144,.arr 54 5 (v9.map ai.lv))] R (Iv R (sN (dD cH cL eY R R (sN (dM R R R R cL gr (sN (C9 (f:=ai.lv) (id:=144) R eU zh bN R R S8 R (nM R zS)))))))) ?_
  obtain ⟨v10,Fs,h⟩:=ao h
  refine LH.aj [(2,.ag [.aI T 49 5 (List.map (al.lt T) p0.aa)]),(3,.ag (ai.lv p1).cells),(4,.ptr 104 0),(8,.ptr 108 0),(9,.arr 144 v9.length),(10,.arr 148 v10.length)] [(104,.box [.nil]),(108,.box [.I x5.ID,.ak 5 (x5.ab.map ai.lv),.aI T 4 1 (x5.ah.map LV.bool),.aI T 88 3 (x5.Uses.map ay.lv),.bool x5.ae]),(144,.arr 54 5 (v9.map ai.lv)),(148,.arr 4 1 (v10.map LV.bool))] R (Iv R (sN (dD dG dX gJ R R (sN (dM R R R R dX lu (sN (FU (f:=LV.bool) (id:=148) R jo Hv lC R R Fs R (nM R zS)))))))) ?_
  obtain ⟨v11,La,h⟩:=ao h
  refine LH.aj [(2,.ag [.aI T 49 5 (List.map (al.lt T) p0.aa)]),(4,.ptr 104 0),(8,.ptr 108 0),(10,.arr 148 v10.length)] [(104,.box [.nil]),(108,.box [.I x5.ID,.arr 144 v11.length,.aI T 4 1 (x5.ah.map LV.bool),.aI T 88 3 (x5.Uses.map ay.lv),.bool x5.ae]),(144,.arr 54 5 (v11.map ai.lv)),(148,.arr 4 1 (v10.map LV.bool))] R (j0 R (sN (bd R bT dO bN R R (sN (jZ (f:=ai.lv) (ys:=[p1]) eU zh bN R R R ai.ok (sN (nw (f:=ai.lv) eU zh bN R R (bM R) R La (sN (dD cH cL eY R R (s_ (cG R R R cL eY R R R zS))))))))))) ?_
  obtain ⟨v12,Ft,h⟩:=ao h
  refine LH.aj [(2,.ag [.aI T 49 5 (List.map (al.lt T) p0.aa)]),(4,.ptr 104 0),(8,.ag [.I x5.ID,.ak 5 (v11.map ai.lv),.aI T 4 1 (v12.map LV.bool),.aI T 88 3 (x5.Uses.map ay.lv),.bool x5.ae])] [(104,.box [.nil])] R (j0 R (sN (jZ (f:=LV.bool) (ys:=[false]) jo Hv lC R R R okB (sN (nw (f:=LV.bool) jo Hv lC R R (bM R) R Ft (sN (dD dG dX gJ R R (s_ (cG R R R dX gJ R R R (s0 ((Wk.trans (aS [(2,.ag [.aI T 49 5 (List.map (al.lt T) p0.aa)]),(4,.ptr 104 0),(8,.ptr 108 0)] [(104,.box [.nil]),(108,.box [.I x5.ID,.arr 144 v11.length,.arr 148 v12.length,.aI T 88 3 (x5.Uses.map ay.lv),.bool x5.ae]),(144,.arr 54 5 (v11.map ai.lv)),(148,.arr 4 1 (v12.map LV.bool))]) (Wk.trans (aS [(2,.ag [.aI T 49 5 (List.map (al.lt T) p0.aa)]),(4,.ptr 104 0),(8,.ptr 108 0)] [(104,.box [.nil]),(108,.box [.I x5.ID,.arr 144 v11.length,.arr 148 v12.length,.aI T 88 3 (x5.Uses.map ay.lv),.bool x5.ae]),(144,.arr 54 5 (v11.map ai.lv)),(148,.arr 4 1 (v12.map LV.bool))]) (Wk.trans (Wk.trans (Wk.fY (f:=ai.lv) 144 54 5 v11 108 R R R (b6 R (kb (b6 R (b6 R (b6 R ka))))) R R (bM R)) (aS [(2,.ag [.aI T 49 5 (List.map (al.lt T) p0.aa)]),(4,.ptr 104 0),(8,.ptr 108 0)] [(104,.box [.nil]),(108,.box [.I x5.ID,.ak 5 (v11.map ai.lv),.arr 148 v12.length,.aI T 88 3 (x5.Uses.map ay.lv),.bool x5.ae]),(148,.arr 4 1 (v12.map LV.bool))])) (Wk.trans (aS [(2,.ag [.aI T 49 5 (List.map (al.lt T) p0.aa)]),(4,.ptr 104 0),(8,.ptr 108 0)] [(104,.box [.nil]),(108,.box [.I x5.ID,.ak 5 (v11.map ai.lv),.arr 148 v12.length,.aI T 88 3 (x5.Uses.map ay.lv),.bool x5.ae]),(148,.arr 4 1 (v12.map LV.bool))]) (Wk.trans (Wk.trans (Wk.sH (f:=LV.bool) T 148 4 1 v12 108 R R R (IU R (IU R (MV (IU R (IU R MU))))) R R (bM R)) (aS [(2,.ag [.aI T 49 5 (List.map (al.lt T) p0.aa)]),(4,.ptr 104 0),(8,.ptr 108 0)] [(104,.box [.nil]),(108,.box [.I x5.ID,.ak 5 (v11.map ai.lv),.aI T 4 1 (v12.map LV.bool),.aI T 88 3 (x5.Uses.map ay.lv),.bool x5.ae])])) (Wk.trans (Wk.bg 108 [.I x5.ID,.ak 5 (v11.map ai.lv),.aI T 4 1 (v12.map LV.bool),.aI T 88 3 (x5.Uses.map ay.lv),.bool x5.ae] R R R (bM R)) (Wk.eq R R R R)))))))))))))))))) ?_
  obtain ⟨pN,Fg,h⟩:=ao h
  refine LH.aj [(4,.ag [.aI T 49 5 (List.map (al.lt T) pN.aa)]),(5,.I 0)] [] R (sN (bd R bw cF bx R R (sN (bd R cC fR b8 R R (sN (dQ (args:=[.agg [.aI T 49 5 (List.map (al.lt T) p0.aa)],.agg [.I x5.ID,.ak 5 (v11.map ai.lv),.aI T 4 1 (v12.map LV.bool),.aI T 88 3 (x5.Uses.map ay.lv),.bool x5.ae]]) R xM R (aH (aH bn)) (yw (T:=T) Fg) R (s_ (cG R R R bw bx R R R (bo R (s0 ((Wk.trans (aS [(4,.ptr 104 0),(5,.I 0)] [(104,.box [.aI T 49 5 (List.map (al.lt T) pN.aa)])]) (Wk.trans (Wk.bg 104 [.aI T 49 5 (List.map (al.lt T) pN.aa)] R R R (bM R)) (Wk.eq R R R R)))))))))))))) (LH.ret ?_)
  obtain rfl:=oI h
  exact aO (aT Tryz.results46) (cT R bw cF bx R R (bU R (bS ⟨aN mN,R,aZ R,(Sub.cX (aH (aH bn)))⟩)))
theorem PO {T:Bool} {F:Nat} {p0:aK} {p1:bG} {r:aK × Int} (h:yz F p0 p1=some r):aM Tryz.prog 47 [.agg [.aI T 49 5 (List.map (al.lt T) p0.aa)],.agg [.I p1.ID,.I p1.Version]] (Mem.of []) (.cX [.agg [.aI T 49 5 (List.map (al.lt T) r.1.aa)],.I r.2]) (Mem.of []):=by
  unfold yz at h
  refine br Tryz.func47 R (nT Tryz.ntmps47 R) (LH.wk (aS [(0,.agg [.aI T 49 5 (List.map (al.lt T) p0.aa)]),(1,.agg [.I p1.ID,.I p1.Version])] []) (LH.aj [(2,.ag [.aI T 49 5 (List.map (al.lt T) p0.aa)]),(3,.ag [.I p1.ID,.I p1.Version]),(4,.ptr 104 0)] [(104,.box [.nil])] R (sB (c7 R R R R (sB (c7 R R R R (sN (iE (id:=104) R fM R R (bo R zS))))))) ?_))
  obtain ⟨r1,ee,h⟩:=ao h
  refine LH.aj [(2,.ag [.aI T 49 5 (List.map (al.lt T) p0.aa)]),(3,.ag [.I p1.ID,.I p1.Version]),(4,.ptr 104 0),(6,.I r1)] [(104,.box [.nil])] R (sN (bd R bw cF bx R R (sN (aw fJ aD ba R R R (sN (bb R aD bQ (sN (dQ (args:=[.agg [.aI T 49 5 (List.map (al.lt T) p0.aa)],.I p1.ID]) R uW R (aH (aH bn)) (aM.view (DC ee) (eT (Rel.agg (eT (Rel.aI al.pP (fun _=>R)) lK)) (eT Rel.int lK)) R R) R (bo R zS))))))))) (LH.seq ?_)
  obtain ⟨w3,hv,h⟩:=ao h
  refine LH.di mixed [] [0,0,0,0,0,0,0,0,0,0,0,0,0,4,4,4,0,0,0] [(2,.ag [.aI T 49 5 (List.map (al.lt T) p0.aa)]),(3,.ag [.I p1.ID,.I p1.Version]),(4,.ptr 104 0),(6,.I r1),(31,.bool w3)] [(104,.box [.nil])] R R (by kernel_rfl) ?_ ?_
  ·refine fF R (aF (fi R R ⟨R,iO R ?_⟩))
   by_cases bu:(decide (r1<0))=true
   ·replace hv:=aB hv bu
    refine mF R R bu (mF R R bu (mF R R bu (aF (aX (cB bu) (v:=(.bool _)) R ⟨R,iO R (mF R R R (mF R R R (mF R R R (mF R R R (mF R R R (mF R R R (mF R R R (mF R R R (mF R R R (mF R R R (aF (aX R (v:=(.bool _)) R ⟨R,?_⟩))))))))))))⟩))))
    obtain rfl:=oI hv
    exact zM
   ·replace bu:=bF bu
    replace hv:=aA hv bu
    refine mT R (cB bu) (aF (aw dm aD ba R R R ⟨R,mT R (cB bu) (aF (bb R aD bQ ⟨R,mT R (cB bu) (aF (fi R R ⟨R,aF (aQ (cB bu) (v:=(.bool _)) R ⟨R,iO R ?_⟩)⟩))⟩))⟩))
    by_cases bH:(decide (p1.Version<1))=true
    ·replace hv:=aB hv bH
     refine mF R R bH (mF R R bH (mF R R bH (mF R R bH (mF R R bH (mF R R bH (mF R R bH (mF R R bH (mF R R bH (mF R R bH (aF (aX (cB bH) (v:=(.bool _)) R ⟨R,?_⟩)))))))))))
     obtain rfl:=oI hv
     exact zM
    ·replace bH:=bF bH
     replace hv:=aA hv bH
     refine mT R (cB bH) (aF (aw dm aD ba R R R ⟨R,mT R (cB bH) (aF (bb R aD bQ ⟨R,mT R (cB bH) (aF (aw cd cm dC R R R ⟨R,mT R (cB bH) (aF (bb R cm fA ⟨R,mT R (cB bH) (fF R ?_)⟩))⟩))⟩))⟩))
     obtain ⟨x6,Lo,hv⟩:=ao hv
     refine mT R (cB bH) (mM (fun _=>iQ (f:=(al.lt T)) dW cC b8 R R al.B3 Lo R) (mT R (cB bH) (mM (fun _=>tj cH cL eY R R R) (mT R (cB bH) (mM (fun _=>oN R cL gr) (mT R (cB bH) (aF (bW (f:=ai.lv) eU R ⟨R,mT R (cB bH) (aF (iP R R ⟨R,aF (aQ (cB bH) (v:=(.bool _)) R ⟨R,?_⟩)⟩))⟩))))))))
     obtain rfl:=oI hv
     exact zM
  clear hv
  refine LH.cond (t:=w3) R (fun jG=>?_) (fun jG=>?_)
  ·replace h:=aB h jG
   refine LH.aj [(4,.ag [.nil]),(5,.I 4)] [] R (sN (fU (vs:=[]) ly fM R fT (s_ (cG R R R bw bx R R R (bo R (s0 ((Wk.trans (aS [(4,.ptr 104 0),(5,.I 4)] [(104,.box [.nil])]) (Wk.trans (Wk.bg 104 [.nil] R R R (bM R)) (Wk.eq R R R R)))))))))) (LH.ret (aW ?_))
   obtain rfl:=oI h
   exact aO (aT Tryz.results47) (cT R bw cF bx R R (bU R (bS ⟨aN mN,R,aZ R,(Sub.cX (o7 (Sub.agg (vq R bn)) (aH bn)))⟩)))
  replace h:=aA h jG
  refine LH.skip (au ?_)
  obtain ⟨x8,s6,h⟩:=ao h
  refine LH.aj [(2,.ag [.aI T 49 5 (List.map (al.lt T) p0.aa)]),(3,.ag [.I p1.ID,.I p1.Version]),(4,.ptr 104 0),(7,.ptr 107 0)] [(104,.box [.nil]),(107,.box [.I x8.ID,.ak 5 (x8.ab.map ai.lv),.aI T 4 1 (x8.ah.map LV.bool),.aI T 88 3 (x8.Uses.map ay.lv),.bool x8.ae])] R ?_ ?_
  ·refine sN (aw cd cm dC R R R (sN (bb R cm fA (bj R (sX ((iQ (f:=(al.lt T)) dW cC b8 R R al.B3 s6 R).ok) (sX ((nz R cC fR b8 R R).ok) ?_))))))
   exact sN (iE (id:=107) R lz R R (s_ (cG R R R cC b8 R R R zS)))
  refine LH.seq (LH.aj [(2,.ag [.aI T 49 5 (List.map (al.lt T) p0.aa)]),(3,.ag [.I p1.ID,.I p1.Version]),(4,.ptr 104 0),(7,.ptr 107 0),(39,.bool x8.ae)] [(104,.box [.nil]),(107,.box [.I x8.ID,.ak 5 (x8.ab.map ai.lv),.aI T 4 1 (x8.ah.map LV.bool),.aI T 88 3 (x8.Uses.map ay.lv),.bool x8.ae])] R (sN (dD iW jC lC R R (sN (dM R R R R jC uC zS)))) (LH.cond (t:=x8.ae) R (fun vT=>?_) (fun vT=>?_)))
  ·replace h:=aB h vT
   refine LH.aj [(4,.ag [.nil]),(5,.I 8)] [] R (sN (fU (vs:=[]) ly fM R fT (s_ (cG R R R bw bx R R R (bo R (s0 ((Wk.trans (aS [(4,.ptr 104 0),(5,.I 8)] [(104,.box [.nil])]) (Wk.trans (Wk.bg 104 [.nil] R R R (bM R)) (Wk.eq R R R R)))))))))) (LH.ret (aW ?_))
   obtain rfl:=oI h
   exact aO (aT Tryz.results47) (cT R bw cF bx R R (bU R (bS ⟨aN mN,R,aZ R,(Sub.cX (o7 (Sub.agg (vq R bn)) (aH bn)))⟩)))
  replace h:=aA h vT
  refine LH.skip (au (LH.wk (aS [(2,.ag [.aI T 49 5 (List.map (al.lt T) p0.aa)]),(3,.ag [.I p1.ID,.I p1.Version]),(4,.ptr 104 0),(7,.ptr 107 0)] [(104,.box [.nil]),(107,.box [.I x8.ID,.ak 5 (x8.ab.map ai.lv),.aI T 4 1 (x8.ah.map LV.bool),.aI T 88 3 (x8.Uses.map ay.lv),.bool x8.ae])]) (LH.seq ?_)))
  obtain ⟨o9,ru,h⟩:=ao h
  refine LH.aj [(2,.ag [.aI T 49 5 (List.map (al.lt T) p0.aa)]),(3,.ag [.I p1.ID,.I p1.Version]),(4,.ptr 104 0),(7,.ptr 107 0),(47,.bool o9)] [(104,.box [.nil]),(107,.box [.I x8.ID,.ak 5 (x8.ab.map ai.lv),.aI T 4 1 (x8.ah.map LV.bool),.aI T 88 3 (x8.Uses.map ay.lv),.bool x8.ae])] R (sN (dD dG dX gJ R R (sN (dM R R R R dX lu (sN (aw dm aD ba R R R (sN (bb R aD bQ (sN (iA R R (sX ((iQ (f:=LV.bool) jo jC lC R R okB ru R).ok) (sX ((oN R jC uC).ok) zS)))))))))))) (LH.cond (t:=o9) R (fun iI=>?_) (fun iI=>?_))
  ·replace h:=aB h iI
   refine LH.aj [(4,.ag [.nil]),(5,.I 5)] [] R (sN (fU (vs:=[]) ly fM R fT (s_ (cG R R R bw bx R R R (bo R (s0 ((Wk.trans (aS [(4,.ptr 104 0),(5,.I 5)] [(104,.box [.nil])]) (Wk.trans (Wk.bg 104 [.nil] R R R (bM R)) (Wk.eq R R R R)))))))))) (LH.ret (aW ?_))
   obtain rfl:=oI h
   exact aO (aT Tryz.results47) (cT R bw cF bx R R (bU R (bS ⟨aN mN,R,aZ R,(Sub.cX (o7 (Sub.agg (vq R bn)) (aH bn)))⟩)))
  replace h:=aA h iI
  refine LH.skip (au (LH.aj [(2,.ag [.aI T 49 5 (List.map (al.lt T) p0.aa)]),(3,.ag [.I p1.ID,.I p1.Version]),(4,.ptr 104 0),(7,.ptr 107 0),(8,.nil)] [(104,.box [.nil]),(107,.box [.I x8.ID,.ak 5 (x8.ab.map ai.lv),.aI T 4 1 (x8.ah.map LV.bool),.aI T 88 3 (x8.Uses.map ay.lv),.bool x8.ae])] R (kX R zS) ?_))
  obtain ⟨v12,Ft,h⟩:=ao h
  refine LH.aj [(2,.ag [.aI T 49 5 (List.map (al.lt T) p0.aa)]),(3,.ag [.I p1.ID,.I p1.Version]),(4,.ptr 104 0),(7,.ptr 107 0),(8,.arr 152 v12.length)] [(104,.box [.nil]),(107,.box [.I x8.ID,.ak 5 (x8.ab.map ai.lv),.aI T 4 1 (x8.ah.map LV.bool),.aI T 88 3 (x8.Uses.map ay.lv),.bool x8.ae]),(152,.arr 4 1 (v12.map LV.bool))] R (Iv R (sN (dD dG dX gJ R R (sN (dM R R R R dX lu (sN (FU (f:=LV.bool) (id:=152) R jo Hv lC R R Ft R (nM R zS)))))))) ?_
  obtain ⟨fe,nI,h⟩:=ao h
  refine LH.aj [(2,.ag [.aI T 49 5 (List.map (al.lt T) p0.aa)]),(4,.ptr 104 0),(7,.ptr 107 0),(8,.aI T 4 1 (List.map LV.bool (v12.set ((i64 (p1.Version - 1)).toNat) true)))] [(104,.box [.nil]),(107,.box [.I x8.ID,.ak 5 (x8.ab.map ai.lv),.aI T 4 1 (x8.ah.map LV.bool),.aI T 88 3 (x8.Uses.map ay.lv),.bool x8.ae])] R (j0 R (sN (aw dm aD ba R R R (sN (bb R aD bQ (sN (iA R R (sN (gS (f:=LV.bool) jo jC lC R R R nI (s_ (qd (f:=LV.bool) (z':=true) R R R R jC lC R (dB nI).2 R (s0 ((Wk.trans (Wk.to (el:=[(2,.ag [.aI T 49 5 (List.map (al.lt T) p0.aa)]),(4,.ptr 104 0),(7,.ptr 107 0),(8,.arr 152 (List.length (v12.set ((i64 (p1.Version - 1)).toNat) true)))]) (ml:=[(104,.box [.nil]),(107,.box [.I x8.ID,.ak 5 (x8.ab.map ai.lv),.aI T 4 1 (x8.ah.map LV.bool),.aI T 88 3 (x8.Uses.map ay.lv),.bool x8.ae]),(152,.arr 4 1 (List.map LV.bool (v12.set ((i64 (p1.Version - 1)).toNat) true)))]) (eC R (eC R (eC R (eC (congrArg (LV.arr 152) (by simp)) eN)))) ⟨R,R,R,trivial⟩ R (aZ R)) (Wk.trans (Wk.Kd (f:=LV.bool) (fy:=[(2,.ag [.aI T 49 5 (List.map (al.lt T) p0.aa)]),(4,.ptr 104 0),(7,.ptr 107 0),(8,.aI T 4 1 (List.map LV.bool (v12.set ((i64 (p1.Version - 1)).toNat) true)))]) T 152 4 1 (v12.set ((i64 (p1.Version - 1)).toNat) true) R R (bM R) (fK R (fK R (fK R (fZ fN))))) (Wk.eq R R R R)))))))))))))))) (LH.aj [(2,.ag [.aI T 49 5 (List.map (al.lt T) p0.aa)]),(4,.ptr 104 0),(7,.ag [.I x8.ID,.ak 5 (x8.ab.map ai.lv),.aI T 4 1 (List.map LV.bool (v12.set ((i64 (p1.Version - 1)).toNat) true)),.aI T 88 3 (x8.Uses.map ay.lv),.bool x8.ae])] [(104,.box [.nil])] R (sN (oM (v:=(.aI _ _ _ _)) R (sN (dD dG dX gJ R R (s_ (cG R R R dX gJ R R R (s0 ((Wk.trans (aS [(2,.ag [.aI T 49 5 (List.map (al.lt T) p0.aa)]),(4,.ptr 104 0),(7,.ptr 107 0)] [(104,.box [.nil]),(107,.box [.I x8.ID,.ak 5 (x8.ab.map ai.lv),.aI T 4 1 (List.map LV.bool (v12.set ((i64 (p1.Version - 1)).toNat) true)),.aI T 88 3 (x8.Uses.map ay.lv),.bool x8.ae])]) (Wk.trans (Wk.bg 107 [.I x8.ID,.ak 5 (x8.ab.map ai.lv),.aI T 4 1 (List.map LV.bool (v12.set ((i64 (p1.Version - 1)).toNat) true)),.aI T 88 3 (x8.Uses.map ay.lv),.bool x8.ae] R R R (bM R)) (Wk.eq R R R R))))))))))) ?_)
  obtain ⟨fg,vX,h⟩:=ao h
  refine LH.aj [(4,.ag [.aI T 49 5 (List.map (al.lt T) fg.aa)]),(5,.I 0)] [] R (sN (bd R bw cF bx R R (sN (bd R cC fR b8 R R (sN (dQ (args:=[.agg [.aI T 49 5 (List.map (al.lt T) p0.aa)],.agg [.I x8.ID,.ak 5 (x8.ab.map ai.lv),.aI T 4 1 (List.map LV.bool (v12.set ((i64 (p1.Version - 1)).toNat) true)),.aI T 88 3 (x8.Uses.map ay.lv),.bool x8.ae]]) R xM R (aH (aH bn)) (yw (T:=T) vX) R (s_ (cG R R R bw bx R R R (bo R (s0 ((Wk.trans (aS [(4,.ptr 104 0),(5,.I 0)] [(104,.box [.aI T 49 5 (List.map (al.lt T) fg.aa)])]) (Wk.trans (Wk.bg 104 [.aI T 49 5 (List.map (al.lt T) fg.aa)] R R R (bM R)) (Wk.eq R R R R)))))))))))))) (LH.ret ?_)
  obtain rfl:=oI h
  exact aO (aT Tryz.results47) (cT R bw cF bx R R (bU R (bS ⟨aN mN,R,aZ R,(Sub.cX (aH (aH bn)))⟩)))
theorem Qc {T:Bool} {F:Nat} {p0:aK} {p1:bG} {p2:Int} {p3:Int} {r:aK × Int} (h:lq F p0 p1 p2 p3=some r):aM Tryz.prog 48 [.agg [.aI T 49 5 (List.map (al.lt T) p0.aa)],.agg [.I p1.ID,.I p1.Version],.I p2,.I p3] (Mem.of []) (.cX [.agg [.aI T 49 5 (List.map (al.lt T) r.1.aa)],.I r.2]) (Mem.of []):=by
  unfold lq at h
  refine br Tryz.func48 R (nT Tryz.ntmps48 R) (LH.wk (aS [(0,.agg [.aI T 49 5 (List.map (al.lt T) p0.aa)]),(1,.agg [.I p1.ID,.I p1.Version]),(2,.I p2),(3,.I p3)] []) (LH.aj [(2,.I p2),(3,.I p3),(4,.ag [.aI T 49 5 (List.map (al.lt T) p0.aa)]),(5,.ag [.I p1.ID,.I p1.Version]),(8,.ptr 108 0)] [(108,.box [.nil])] R (sB (c7 R R R R (sB (c7 R R R R (sN (iE (id:=108) R fM R R (bo R zS))))))) ?_))
  obtain ⟨r1,ee,h⟩:=ao h
  refine LH.aj [(2,.I p2),(3,.I p3),(4,.ag [.aI T 49 5 (List.map (al.lt T) p0.aa)]),(5,.ag [.I p1.ID,.I p1.Version]),(8,.ptr 108 0),(10,.I r1)] [(108,.box [.nil])] R (sN (bd R bw cF bx R R (sN (aw fJ aD ba R R R (sN (bb R aD bQ (sN (dQ (args:=[.agg [.aI T 49 5 (List.map (al.lt T) p0.aa)],.I p1.ID]) R uW R (aH (aH bn)) (aM.view (DC ee) (eT (Rel.agg (eT (Rel.aI al.pP (fun _=>R)) lK)) (eT Rel.int lK)) R R) R (bo R zS))))))))) (LH.seq ?_)
  obtain ⟨w3,hv,h⟩:=ao h
  refine LH.di mixed [] [0,0,0,0,0,0,0,0,0,0,0,0,0,4,4,4,0,0,0] [(2,.I p2),(3,.I p3),(4,.ag [.aI T 49 5 (List.map (al.lt T) p0.aa)]),(5,.ag [.I p1.ID,.I p1.Version]),(8,.ptr 108 0),(10,.I r1),(36,.bool w3)] [(108,.box [.nil])] R R (by kernel_rfl) ?_ ?_
  ·refine fF R (aF (fi R R ⟨R,iO R ?_⟩))
   by_cases bu:(decide (r1<0))=true
   ·replace hv:=aB hv bu
    refine mF R R bu (mF R R bu (mF R R bu (aF (aX (cB bu) (v:=(.bool _)) R ⟨R,iO R (mF R R R (mF R R R (mF R R R (mF R R R (mF R R R (mF R R R (mF R R R (mF R R R (mF R R R (mF R R R (aF (aX R (v:=(.bool _)) R ⟨R,?_⟩))))))))))))⟩))))
    obtain rfl:=oI hv
    exact zM
   ·replace bu:=bF bu
    replace hv:=aA hv bu
    refine mT R (cB bu) (aF (aw dm aD ba R R R ⟨R,mT R (cB bu) (aF (bb R aD bQ ⟨R,mT R (cB bu) (aF (fi R R ⟨R,aF (aQ (cB bu) (v:=(.bool _)) R ⟨R,iO R ?_⟩)⟩))⟩))⟩))
    by_cases bH:(decide (p1.Version<1))=true
    ·replace hv:=aB hv bH
     refine mF R R bH (mF R R bH (mF R R bH (mF R R bH (mF R R bH (mF R R bH (mF R R bH (mF R R bH (mF R R bH (mF R R bH (aF (aX (cB bH) (v:=(.bool _)) R ⟨R,?_⟩)))))))))))
     obtain rfl:=oI hv
     exact zM
    ·replace bH:=bF bH
     replace hv:=aA hv bH
     refine mT R (cB bH) (aF (aw dm aD ba R R R ⟨R,mT R (cB bH) (aF (bb R aD bQ ⟨R,mT R (cB bH) (aF (aw cd cm dC R R R ⟨R,mT R (cB bH) (aF (bb R cm fA ⟨R,mT R (cB bH) (fF R ?_)⟩))⟩))⟩))⟩))
     obtain ⟨x6,Lo,hv⟩:=ao hv
     refine mT R (cB bH) (mM (fun _=>iQ (f:=(al.lt T)) dW cC b8 R R al.B3 Lo R) (mT R (cB bH) (mM (fun _=>tj cH cL eY R R R) (mT R (cB bH) (mM (fun _=>oN R cL gr) (mT R (cB bH) (aF (bW (f:=ai.lv) eU R ⟨R,mT R (cB bH) (aF (iP R R ⟨R,aF (aQ (cB bH) (v:=(.bool _)) R ⟨R,?_⟩)⟩))⟩))))))))
     obtain rfl:=oI hv
     exact zM
  clear hv
  refine LH.cond (t:=w3) R (fun jG=>?_) (fun jG=>?_)
  ·replace h:=aB h jG
   refine LH.aj [(8,.ag [.nil]),(9,.I 4)] [] R (sN (fU (vs:=[]) ly fM R fT (s_ (cG R R R bw bx R R R (bo R (s0 ((Wk.trans (aS [(8,.ptr 108 0),(9,.I 4)] [(108,.box [.nil])]) (Wk.trans (Wk.bg 108 [.nil] R R R (bM R)) (Wk.eq R R R R)))))))))) (LH.ret (aW ?_))
   obtain rfl:=oI h
   exact aO (aT Tryz.results48) (cT R bw cF bx R R (bU R (bS ⟨aN mN,R,aZ R,(Sub.cX (o7 (Sub.agg (vq R bn)) (aH bn)))⟩)))
  replace h:=aA h jG
  refine LH.skip (au ?_)
  obtain ⟨x8,s6,h⟩:=ao h
  refine LH.aj [(2,.I p2),(3,.I p3),(4,.ag [.aI T 49 5 (List.map (al.lt T) p0.aa)]),(5,.ag [.I p1.ID,.I p1.Version]),(8,.ptr 108 0),(11,.ptr 111 0)] [(108,.box [.nil]),(111,.box [.I x8.ID,.ak 5 (x8.ab.map ai.lv),.aI T 4 1 (x8.ah.map LV.bool),.aI T 88 3 (x8.Uses.map ay.lv),.bool x8.ae])] R ?_ ?_
  ·refine sN (aw cd cm dC R R R (sN (bb R cm fA (bj R (sX ((iQ (f:=(al.lt T)) dW cC b8 R R al.B3 s6 R).ok) (sX ((nz R cC fR b8 R R).ok) ?_))))))
   exact sN (iE (id:=111) R lz R R (s_ (cG R R R cC b8 R R R zS)))
  refine LH.seq ?_
  obtain ⟨IJ,hv,h⟩:=ao h
  refine LH.aj [(2,.I p2),(3,.I p3),(4,.ag [.aI T 49 5 (List.map (al.lt T) p0.aa)]),(5,.ag [.I p1.ID,.I p1.Version]),(8,.ptr 108 0),(11,.ptr 111 0),(54,.bool IJ)] [(108,.box [.nil]),(111,.box [.I x8.ID,.ak 5 (x8.ab.map ai.lv),.aI T 4 1 (x8.ah.map LV.bool),.aI T 88 3 (x8.Uses.map ay.lv),.bool x8.ae])] R ?_ ?_
  ·refine sN (dD iW jC lC R R (sN (dM R R R R jC uC (bD R ?_))))
   by_cases eP:x8.ae=true
   ·replace hv:=aB hv eP
    refine sF R R eP (sF R R eP (sF R R eP (sF R R eP (sF R R eP (sF R R eP (sF R R eP (sF R R eP (sN (aX (cB eP) (v:=(.bool _)) R ?_)))))))))
    obtain rfl:=oI hv
    exact zS
   ·replace eP:=bF eP
    replace hv:=aA hv eP
    refine sT R (cB eP) (dD dG dX gJ R R (sT R (cB eP) (dM R R R R dX lu (sT R (cB eP) (aw dm aD ba R R R (sT R (cB eP) (bb R aD bQ (sT R (cB eP) (iA R R ?_)))))))))
    obtain ⟨gC,pF,hv⟩:=ao hv
    refine L4 R (cB eP) ((iQ (f:=LV.bool) jo jC lC R R okB pF R).ok) (L4 R (cB eP) ((oN R jC uC).ok) (sT R (cB eP) (kB R (sN (aQ (cB eP) (v:=(.bool _)) R ?_)))))
    obtain rfl:=oI hv
    exact zS
  clear hv
  refine LH.cond (t:=IJ) R (fun ou=>?_) (fun ou=>?_)
  ·replace h:=aB h ou
   refine LH.aj [(8,.ag [.nil]),(9,.I 8)] [] R (sN (fU (vs:=[]) ly fM R fT (s_ (cG R R R bw bx R R R (bo R (s0 ((Wk.trans (aS [(8,.ptr 108 0),(9,.I 8)] [(108,.box [.nil])]) (Wk.trans (Wk.bg 108 [.nil] R R R (bM R)) (Wk.eq R R R R)))))))))) (LH.ret (aW ?_))
   obtain rfl:=oI h
   exact aO (aT Tryz.results48) (cT R bw cF bx R R (bU R (bS ⟨aN mN,R,aZ R,(Sub.cX (o7 (Sub.agg (vq R bn)) (aH bn)))⟩)))
  replace h:=aA h ou
  refine LH.skip (au (LH.wk (aS [(2,.I p2),(3,.I p3),(4,.ag [.aI T 49 5 (List.map (al.lt T) p0.aa)]),(5,.ag [.I p1.ID,.I p1.Version]),(8,.ptr 108 0),(11,.ptr 111 0)] [(108,.box [.nil]),(111,.box [.I x8.ID,.ak 5 (x8.ab.map ai.lv),.aI T 4 1 (x8.ah.map LV.bool),.aI T 88 3 (x8.Uses.map ay.lv),.bool x8.ae])]) (LH.seq (LH.aj [(2,.I p2),(3,.I p3),(4,.ag [.aI T 49 5 (List.map (al.lt T) p0.aa)]),(5,.ag [.I p1.ID,.I p1.Version]),(8,.ptr 108 0),(11,.ptr 111 0),(12,.I 0)] [(108,.box [.nil]),(111,.box [.I x8.ID,.ak 5 (x8.ab.map ai.lv),.aI T 4 1 (x8.ah.map LV.bool),.aI T 88 3 (x8.Uses.map ay.lv),.bool x8.ae])] R (bo R zS) (LH.block (LH.loop (fun n e m=>∃ (n14:Int),tB F p0 p1 p2 p3 x8 n n14=some r∧e=Env.of [(2,.I p2),(3,.I p3),(4,.ag [.aI T 49 5 (List.map (al.lt T) p0.aa)]),(5,.ag [.I p1.ID,.I p1.Version]),(8,.ptr 108 0),(11,.ptr 111 0),(12,.I n14)]∧m=Mem.of [(108,.box [.nil]),(111,.box [.I x8.ID,.ak 5 (x8.ab.map ai.lv),.aI T 4 1 (x8.ah.map LV.bool),.aI T 88 3 (x8.Uses.map ay.lv),.bool x8.ae])]) F ⟨0,h,R,R⟩ ?_))))))
  clear h
  rintro n e m ⟨n14,h,rfl,rfl⟩
  rcases n with _ | n
  · cases (show Option.none=some _ from h)
  obtain ⟨aJ,a7⟩:∃ f,f=tB F p0 p1 p2 p3 x8 n:=⟨_,rfl⟩
  replace h:yv F p0 p1 p2 p3 x8 aJ n14=some r:=a7 ▸ h
  unfold yv at h
  refine LH.seq (LH.aj [(2,.I p2),(3,.I p3),(4,.ag [.aI T 49 5 (List.map (al.lt T) p0.aa)]),(5,.ag [.I p1.ID,.I p1.Version]),(8,.ptr 108 0),(11,.ptr 111 0),(12,.I n14),(60,.bool (decide (n14<(x8.Uses.length:Int))))] [(108,.box [.nil]),(111,.box [.I x8.ID,.ak 5 (x8.ab.map ai.lv),.aI T 4 1 (x8.ah.map LV.bool),.aI T 88 3 (x8.Uses.map ay.lv),.bool x8.ae])] R (bj R (sN (dD dH dP gW R R (sN (dM R R R R dP km (sX ((tk (f:=ay.lv) iV R).ok) (sN (fi R R zS)))))))) (LH.cond (t:=(decide (n14<(x8.Uses.length:Int)))) R (fun kx=>?_) (fun kx=>?_)))
  ·replace h:=aB h kx
   refine LH.skip (au (LH.wk (aS [(2,.I p2),(3,.I p3),(4,.ag [.aI T 49 5 (List.map (al.lt T) p0.aa)]),(5,.ag [.I p1.ID,.I p1.Version]),(8,.ptr 108 0),(11,.ptr 111 0),(12,.I n14)] [(108,.box [.nil]),(111,.box [.I x8.ID,.ak 5 (x8.ab.map ai.lv),.aI T 4 1 (x8.ah.map LV.bool),.aI T 88 3 (x8.Uses.map ay.lv),.bool x8.ae])]) (LH.seq (LH.block ?_))))
   obtain ⟨Cn,wb,h⟩:=ao h
   refine LH.aj [(2,.I p2),(3,.I p3),(4,.ag [.aI T 49 5 (List.map (al.lt T) p0.aa)]),(5,.ag [.I p1.ID,.I p1.Version]),(8,.ptr 108 0),(11,.ptr 111 0),(12,.I n14),(70,.bool (Cn.Form == p2))] [(108,.box [.nil]),(111,.box [.I x8.ID,.ak 5 (x8.ab.map ai.lv),.aI T 4 1 (x8.ah.map LV.bool),.aI T 88 3 (x8.Uses.map ay.lv),.bool x8.ae])] R (sN (dD dH dP gW R R (sN (dM R R R R dP km (bj R (sX ((iQ (f:=ay.lv) iV rF lN R R ay.ok wb R).ok) (sX ((tj wR aD ba R R R).ok) (sX ((oN R aD bQ).ok) (bj R (sN (gp R R zS))))))))))) (LH.cond (t:=(Cn.Form == p2)) R (fun lF=>?_) (fun lF=>?_))
   ·replace h:=aB h lF
    refine LH.aj [(8,.ag [.nil]),(9,.I 5)] [] R (sN (fU (vs:=[]) ly fM R fT (s_ (cG R R R bw bx R R R (bo R (s0 ((Wk.trans (aS [(8,.ptr 108 0),(9,.I 5)] [(108,.box [.nil])]) (Wk.trans (Wk.bg 108 [.nil] R R R (bM R)) (Wk.eq R R R R)))))))))) (LH.ret (bB (aW (dF (bB (aW ?_))))))
    obtain rfl:=oI h
    exact aO (aT Tryz.results48) (cT R bw cF bx R R (bU R (bS ⟨aN mN,R,aZ R,(Sub.cX (o7 (Sub.agg (vq R bn)) (aH bn)))⟩)))
   replace h:=aA h lF
   refine LH.skip (aY (au (LH.aU [(2,.I p2),(3,.I p3),(4,.ag [.aI T 49 5 (List.map (al.lt T) p0.aa)]),(5,.ag [.I p1.ID,.I p1.Version]),(8,.ptr 108 0),(11,.ptr 111 0),(12,.I (i64 (n14+1)))] [(108,.box [.nil]),(111,.box [.I x8.ID,.ak 5 (x8.ab.map ai.lv),.aI T 4 1 (x8.ah.map LV.bool),.aI T 88 3 (x8.Uses.map ay.lv),.bool x8.ae])] R (bj R (sN (cD R R (bo R zS)))) ?_)))
   exact bh ⟨(i64 (n14+1)),a7 ▸ h,R,R⟩ (Wk.eq R R R R)
  replace h:=aA h kx
  refine LH.exit (cw (bY (bO (au (LH.wk (aS [(2,.I p2),(3,.I p3),(4,.ag [.aI T 49 5 (List.map (al.lt T) p0.aa)]),(5,.ag [.I p1.ID,.I p1.Version]),(8,.ptr 108 0),(11,.ptr 111 0)] [(108,.box [.nil]),(111,.box [.I x8.ID,.ak 5 (x8.ab.map ai.lv),.aI T 4 1 (x8.ah.map LV.bool),.aI T 88 3 (x8.Uses.map ay.lv),.bool x8.ae])]) (LH.seq (LH.aj [(2,.I p2),(3,.I p3),(4,.ag [.aI T 49 5 (List.map (al.lt T) p0.aa)]),(5,.ag [.I p1.ID,.I p1.Version]),(8,.ptr 108 0),(11,.ptr 111 0),(75,.bool ((x8.Uses.length:Int) == 300))] [(108,.box [.nil]),(111,.box [.I x8.ID,.ak 5 (x8.ab.map ai.lv),.aI T 4 1 (x8.ah.map LV.bool),.aI T 88 3 (x8.Uses.map ay.lv),.bool x8.ae])] R (sN (dD dH dP gW R R (sN (dM R R R R dP km (sX ((tk (f:=ay.lv) iV R).ok) (sN (gp R R zS))))))) (LH.cond (t:=((x8.Uses.length:Int) == 300)) R (fun ke=>?_) (fun ke=>?_)))))))))
  ·replace h:=aB h ke
   refine LH.aj [(8,.ag [.nil]),(9,.I 3)] [] R (sN (fU (vs:=[]) ly fM R fT (s_ (cG R R R bw bx R R R (bo R (s0 ((Wk.trans (aS [(8,.ptr 108 0),(9,.I 3)] [(108,.box [.nil])]) (Wk.trans (Wk.bg 108 [.nil] R R R (bM R)) (Wk.eq R R R R)))))))))) (LH.ret (aW ?_))
   obtain rfl:=oI h
   exact aO (aT Tryz.results48) (cT R bw cF bx R R (bU R (bS ⟨aN mN,R,aZ R,(Sub.cX (o7 (Sub.agg (vq R bn)) (aH bn)))⟩)))
  replace h:=aA h ke
  refine LH.skip (au (LH.aj [(2,.I p2),(3,.I p3),(4,.ag [.aI T 49 5 (List.map (al.lt T) p0.aa)]),(5,.ag [.I p1.ID,.I p1.Version]),(8,.ptr 108 0),(11,.ptr 111 0),(13,.nil)] [(108,.box [.nil]),(111,.box [.I x8.ID,.ak 5 (x8.ab.map ai.lv),.aI T 4 1 (x8.ah.map LV.bool),.aI T 88 3 (x8.Uses.map ay.lv),.bool x8.ae])] R (kX R zS) ?_))
  obtain ⟨qY,Fw,h⟩:=ao h
  refine LH.aj [(2,.I p2),(3,.I p3),(4,.ag [.aI T 49 5 (List.map (al.lt T) p0.aa)]),(5,.ag [.I p1.ID,.I p1.Version]),(8,.ptr 108 0),(11,.ptr 111 0),(13,.arr 180 qY.length)] [(108,.box [.nil]),(111,.box [.I x8.ID,.ak 5 (x8.ab.map ai.lv),.aI T 4 1 (x8.ah.map LV.bool),.aI T 88 3 (x8.Uses.map ay.lv),.bool x8.ae]),(180,.arr 88 3 (qY.map ay.lv))] R (Iv R (sN (dD dH dP gW R R (sN (dM R R R R dP km (sN (FU (f:=ay.lv) (id:=180) R iV Bm lN R R Fw R (nM R zS)))))))) ?_
  obtain ⟨v20,Lc,h⟩:=ao h
  refine LH.aj [(4,.ag [.aI T 49 5 (List.map (al.lt T) p0.aa)]),(8,.ptr 108 0),(11,.ag [.I x8.ID,.ak 5 (x8.ab.map ai.lv),.aI T 4 1 (x8.ah.map LV.bool),.aI T 88 3 (v20.map ay.lv),.bool x8.ae])] [(108,.box [.nil])] R (j0 R (sN (aw dm aD ba R R R (sN (bb R aD bQ (bj R (bj R (sN (fU (vs:=[(0,.I p1.Version),(1,.I p2),(2,.I p3)]) Mb IE R (lf oZ ba aD R R R (lf wR ba aD R R R (lf Bk ba aD R R R fT))) (sN (jZ (f:=ay.lv) (ys:=[(ay.mk p1.Version p2 p3)]) iV Bm lN R R R ay.ok (sN (nw (f:=ay.lv) iV Bm lN R R (bM R) R Lc (sN (dD dH dP gW R R (s_ (cG R R R dP gW R R R (s0 ((Wk.trans (aS [(4,.ag [.aI T 49 5 (List.map (al.lt T) p0.aa)]),(8,.ptr 108 0),(11,.ptr 111 0)] [(108,.box [.nil]),(111,.box [.I x8.ID,.ak 5 (x8.ab.map ai.lv),.aI T 4 1 (x8.ah.map LV.bool),.arr 180 v20.length,.bool x8.ae]),(180,.arr 88 3 (v20.map ay.lv))]) (Wk.trans (aS [(4,.ag [.aI T 49 5 (List.map (al.lt T) p0.aa)]),(8,.ptr 108 0),(11,.ptr 111 0)] [(108,.box [.nil]),(111,.box [.I x8.ID,.ak 5 (x8.ab.map ai.lv),.aI T 4 1 (x8.ah.map LV.bool),.arr 180 v20.length,.bool x8.ae]),(180,.arr 88 3 (v20.map ay.lv))]) (Wk.trans (Wk.trans (Wk.sH (f:=ay.lv) T 180 88 3 v20 111 R R R (IU R (IU R (IU R (MV (IU R MU))))) R R (bM R)) (aS [(4,.ag [.aI T 49 5 (List.map (al.lt T) p0.aa)]),(8,.ptr 108 0),(11,.ptr 111 0)] [(108,.box [.nil]),(111,.box [.I x8.ID,.ak 5 (x8.ab.map ai.lv),.aI T 4 1 (x8.ah.map LV.bool),.aI T 88 3 (v20.map ay.lv),.bool x8.ae])])) (Wk.trans (Wk.bg 111 [.I x8.ID,.ak 5 (x8.ab.map ai.lv),.aI T 4 1 (x8.ah.map LV.bool),.aI T 88 3 (v20.map ay.lv),.bool x8.ae] R R R (bM R)) (Wk.eq R R R R)))))))))))))))))))))))) ?_
  obtain ⟨hT,Aw,h⟩:=ao h
  refine LH.aj [(8,.ag [.aI T 49 5 (List.map (al.lt T) hT.aa)]),(9,.I 0)] [] R (sN (bd R bw cF bx R R (sN (bd R cC fR b8 R R (sN (dQ (args:=[.agg [.aI T 49 5 (List.map (al.lt T) p0.aa)],.agg [.I x8.ID,.ak 5 (x8.ab.map ai.lv),.aI T 4 1 (x8.ah.map LV.bool),.aI T 88 3 (v20.map ay.lv),.bool x8.ae]]) R xM R (aH (aH bn)) (yw (T:=T) Aw) R (s_ (cG R R R bw bx R R R (bo R (s0 ((Wk.trans (aS [(8,.ptr 108 0),(9,.I 0)] [(108,.box [.aI T 49 5 (List.map (al.lt T) hT.aa)])]) (Wk.trans (Wk.bg 108 [.aI T 49 5 (List.map (al.lt T) hT.aa)] R R R (bM R)) (Wk.eq R R R R)))))))))))))) (LH.ret ?_)
  obtain rfl:=oI h
  exact aO (aT Tryz.results48) (cT R bw cF bx R R (bU R (bS ⟨aN mN,R,aZ R,(Sub.cX (aH (aH bn)))⟩)))
theorem JG {T:Bool} {F:Nat} {p0:aK} {p1:Int} {p2:Bool} {r:aK × Int} (h:DD F p0 p1 p2=some r):aM Tryz.prog 49 [.agg [.aI T 49 5 (List.map (al.lt T) p0.aa)],.I p1,.bool p2] (Mem.of []) (.cX [.agg [.aI T 49 5 (List.map (al.lt T) r.1.aa)],.I r.2]) (Mem.of []):=by
  unfold DD at h
  refine br Tryz.func49 R (nT Tryz.ntmps49 R) (LH.wk (aS [(0,.agg [.aI T 49 5 (List.map (al.lt T) p0.aa)]),(1,.I p1),(2,.bool p2)] []) (LH.aj [(1,.I p1),(2,.bool p2),(3,.ag [.aI T 49 5 (List.map (al.lt T) p0.aa)]),(6,.ptr 106 0)] [(106,.box [.nil])] R (sB (c7 R R R R (sN (iE (id:=106) R fM R R (bo R zS))))) ?_))
  obtain ⟨r1,ee,h⟩:=ao h
  refine LH.aj [(2,.bool p2),(3,.ag [.aI T 49 5 (List.map (al.lt T) p0.aa)]),(6,.ptr 106 0),(8,.I r1)] [(106,.box [.nil])] R (sN (bd R bw cF bx R R (bj R (sN (dQ (args:=[.agg [.aI T 49 5 (List.map (al.lt T) p0.aa)],.I p1]) R uW R (aH (aH bn)) (aM.view (DC ee) (eT (Rel.agg (eT (Rel.aI al.pP (fun _=>R)) lK)) (eT Rel.int lK)) R R) R (bo R zS)))))) (LH.seq (LH.aj [(2,.bool p2),(3,.ag [.aI T 49 5 (List.map (al.lt T) p0.aa)]),(6,.ptr 106 0),(8,.I r1),(14,.bool (decide (r1<0)))] [(106,.box [.nil])] R (bj R (sN (fi R R zS))) (LH.cond (t:=(decide (r1<0))) R (fun eZ=>?_) (fun eZ=>?_))))
  ·replace h:=aB h eZ
   refine LH.aj [(6,.ag [.nil]),(7,.I 4)] [] R (sN (fU (vs:=[]) ly fM R fT (s_ (cG R R R bw bx R R R (bo R (s0 ((Wk.trans (aS [(6,.ptr 106 0),(7,.I 4)] [(106,.box [.nil])]) (Wk.trans (Wk.bg 106 [.nil] R R R (bM R)) (Wk.eq R R R R)))))))))) (LH.ret (aW ?_))
   obtain rfl:=oI h
   exact aO (aT Tryz.results49) (cT R bw cF bx R R (bU R (bS ⟨aN mN,R,aZ R,(Sub.cX (o7 (Sub.agg (vq R bn)) (aH bn)))⟩)))
  replace h:=aA h eZ
  refine LH.skip (au ?_)
  obtain ⟨x3,fz,h⟩:=ao h
  refine LH.aj [(2,.bool p2),(3,.ag [.aI T 49 5 (List.map (al.lt T) p0.aa)]),(6,.ptr 106 0),(9,.ptr 109 0)] [(106,.box [.nil]),(109,.box [.I x3.ID,.ak 5 (x3.ab.map ai.lv),.aI T 4 1 (x3.ah.map LV.bool),.aI T 88 3 (x3.Uses.map ay.lv),.bool x3.ae])] R ?_ ?_
  ·refine sN (aw cd cm dC R R R (sN (bb R cm fA (bj R (sX ((iQ (f:=(al.lt T)) dW cC b8 R R al.B3 fz R).ok) (sX ((nz R cC fR b8 R R).ok) ?_))))))
   exact sN (iE (id:=109) R lz R R (s_ (cG R R R cC b8 R R R zS)))
  refine LH.seq (LH.aj [(2,.bool p2),(3,.ag [.aI T 49 5 (List.map (al.lt T) p0.aa)]),(6,.ptr 106 0),(9,.ptr 109 0),(24,.bool (x3.ae == p2))] [(106,.box [.nil]),(109,.box [.I x3.ID,.ak 5 (x3.ab.map ai.lv),.aI T 4 1 (x3.ah.map LV.bool),.aI T 88 3 (x3.Uses.map ay.lv),.bool x3.ae])] R (sN (dD iW jC lC R R (sN (dM R R R R jC uC (bD R (sN (FV R R L8 zS))))))) (LH.cond (t:=(x3.ae == p2)) R (fun im=>?_) (fun im=>?_)))
  ·replace h:=aB h im
   refine LH.aj [(6,.ag [.nil]),(7,.I 8)] [] R (sN (fU (vs:=[]) ly fM R fT (s_ (cG R R R bw bx R R R (bo R (s0 ((Wk.trans (aS [(6,.ptr 106 0),(7,.I 8)] [(106,.box [.nil])]) (Wk.trans (Wk.bg 106 [.nil] R R R (bM R)) (Wk.eq R R R R)))))))))) (LH.ret (aW ?_))
   obtain rfl:=oI h
   exact aO (aT Tryz.results49) (cT R bw cF bx R R (bU R (bS ⟨aN mN,R,aZ R,(Sub.cX (o7 (Sub.agg (vq R bn)) (aH bn)))⟩)))
  replace h:=aA h im
  refine LH.skip (au (LH.aj [(3,.ag [.aI T 49 5 (List.map (al.lt T) p0.aa)]),(6,.ptr 106 0),(9,.ag [.I x3.ID,.ak 5 (x3.ab.map ai.lv),.aI T 4 1 (x3.ah.map LV.bool),.aI T 88 3 (x3.Uses.map ay.lv),.bool p2])] [(106,.box [.nil])] R (bD R (sN (dD iW jC lC R R (s_ (cG R R R jC lC R R R (s0 ((Wk.trans (aS [(3,.ag [.aI T 49 5 (List.map (al.lt T) p0.aa)]),(6,.ptr 106 0),(9,.ptr 109 0)] [(106,.box [.nil]),(109,.box [.I x3.ID,.ak 5 (x3.ab.map ai.lv),.aI T 4 1 (x3.ah.map LV.bool),.aI T 88 3 (x3.Uses.map ay.lv),.bool p2])]) (Wk.trans (Wk.bg 109 [.I x3.ID,.ak 5 (x3.ab.map ai.lv),.aI T 4 1 (x3.ah.map LV.bool),.aI T 88 3 (x3.Uses.map ay.lv),.bool p2] R R R (bM R)) (Wk.eq R R R R)))))))))) ?_))
  obtain ⟨r5,Ay,h⟩:=ao h
  refine LH.aj [(6,.ag [.aI T 49 5 (List.map (al.lt T) r5.aa)]),(7,.I 0)] [] R (sN (bd R bw cF bx R R (sN (bd R cC fR b8 R R (sN (dQ (args:=[.agg [.aI T 49 5 (List.map (al.lt T) p0.aa)],.agg [.I x3.ID,.ak 5 (x3.ab.map ai.lv),.aI T 4 1 (x3.ah.map LV.bool),.aI T 88 3 (x3.Uses.map ay.lv),.bool p2]]) R xM R (aH (aH bn)) (yw (T:=T) Ay) R (s_ (cG R R R bw bx R R R (bo R (s0 ((Wk.trans (aS [(6,.ptr 106 0),(7,.I 0)] [(106,.box [.aI T 49 5 (List.map (al.lt T) r5.aa)])]) (Wk.trans (Wk.bg 106 [.aI T 49 5 (List.map (al.lt T) r5.aa)] R R R (bM R)) (Wk.eq R R R R)))))))))))))) (LH.ret ?_)
  obtain rfl:=oI h
  exact aO (aT Tryz.results49) (cT R bw cF bx R R (bU R (bS ⟨aN mN,R,aZ R,(Sub.cX (aH (aH bn)))⟩)))
theorem PZ {T:Bool} {F:Nat} {p0:aK} {p1:ax} {r:aK × Int} (h:yH F p0 p1=some r):aM Tryz.prog 26 [.agg [.aI T 49 5 (List.map (al.lt T) p0.aa)],ax.lv p1] (Mem.of []) (.cX [.agg [.aI T 49 5 (List.map (al.lt T) r.1.aa)],.I r.2]) (Mem.of []):=by
  unfold yH at h
  refine br Tryz.func26 R (nT Tryz.ntmps26 R) (LH.wk (aS [(0,.agg [.aI T 49 5 (List.map (al.lt T) p0.aa)]),(1,ax.lv p1)] []) (LH.aj [(2,.ag [.aI T 49 5 (List.map (al.lt T) p0.aa)]),(3,.ag (ax.lv p1).cells),(4,.ptr 104 0)] [(104,.box [.nil])] R (sB (c7 R R R R (sB (c7 R R R R (sN (iE (id:=104) R fM R R (bo R zS))))))) (LH.seq ?_)))
  obtain ⟨r1,ee,h⟩:=ao h
  refine LH.aj [(2,.ag [.aI T 49 5 (List.map (al.lt T) p0.aa)]),(3,.ag (ax.lv p1).cells),(4,.ptr 104 0),(8,.bool (!r1))] [(104,.box [.nil])] R (sN (bd R bw cF bx R R (sN (dQ (args:=[.agg [.aI T 49 5 (List.map (al.lt T) p0.aa)]]) R Ow R (aH bn) (aM.view (P5 ee) (eT (Rel.agg (eT (Rel.aI al.pP (fun _=>R)) lK)) lK) R R) R (sN (kB R zS)))))) (LH.cond (t:=(!r1)) R (fun eZ=>?_) (fun eZ=>?_))
  ·replace h:=aB h eZ
   refine LH.aj [(4,.ag [.nil]),(5,.I 1)] [] R (sN (fU (vs:=[]) ly fM R fT (s_ (cG R R R bw bx R R R (bo R (s0 ((Wk.trans (aS [(4,.ptr 104 0),(5,.I 1)] [(104,.box [.nil])]) (Wk.trans (Wk.bg 104 [.nil] R R R (bM R)) (Wk.eq R R R R)))))))))) (LH.ret (aW ?_))
   obtain rfl:=oI h
   exact aO (aT Tryz.results26) (cT R bw cF bx R R (bU R (bS ⟨aN mN,R,aZ R,(Sub.cX (o7 (Sub.agg (vq R bn)) (aH bn)))⟩)))
  replace h:=aA h eZ
  refine LH.skip (au (LH.wk (aS [(2,.ag [.aI T 49 5 (List.map (al.lt T) p0.aa)]),(3,.ag (ax.lv p1).cells),(4,.ptr 104 0)] [(104,.box [.nil])]) (LH.seq (LH.aj [(2,.ag [.aI T 49 5 (List.map (al.lt T) p0.aa)]),(3,.ag (ax.lv p1).cells),(4,.ptr 104 0),(11,.I p1.Kind)] [(104,.box [.nil])] R (sN (aw fb aD ba R R R (sN (bb R aD bQ zS)))) (LH.block (LH.aj [(2,.ag [.aI T 49 5 (List.map (al.lt T) p0.aa)]),(3,.ag (ax.lv p1).cells),(4,.ptr 104 0),(11,.I p1.Kind),(12,.bool (p1.Kind == 1))] [(104,.box [.nil])] R (sN (gp R R (b4 R zS))) (LH.cond (t:=(p1.Kind == 1)) R (fun iK=>?_) (fun iK=>?_))))))))
  ·replace h:=aB h iK
   obtain ⟨r4,C0,h⟩:=ao h
   refine LH.aj [(4,.ag [.aI T 49 5 (List.map (al.lt T) r4.1.aa)]),(5,.I r4.2)] [] R (sN (bd R bw cF bx R R (sN (aw fc bT bN R R R (sN (bd R bT dO bN R R (sN (dQ (args:=[.agg [.aI T 49 5 (List.map (al.lt T) p0.aa)],ai.lv p1.Item]) R OA R (aH (aH bn)) (P0 (T:=T) C0) R (sN (gy R R (sN (gy R R (s_ (cG R R R bw bx R R R (bo R (s0 ((Wk.trans (aS [(4,.ptr 104 0),(5,.I r4.2)] [(104,.box [.aI T 49 5 (List.map (al.lt T) r4.1.aa)])]) (Wk.trans (Wk.bg 104 [.aI T 49 5 (List.map (al.lt T) r4.1.aa)] R R R (bM R)) (Wk.eq R R R R)))))))))))))))))))) (LH.ret (bB (aW ?_)))
   obtain rfl:=oI h
   exact aO (aT Tryz.results26) (cT R bw cF bx R R (bU R (bS ⟨aN mN,R,aZ R,(Sub.cX (aH (aH bn)))⟩)))
  replace h:=aA h iK
  refine LH.aj [(2,.ag [.aI T 49 5 (List.map (al.lt T) p0.aa)]),(3,.ag (ax.lv p1).cells),(4,.ptr 104 0),(11,.I p1.Kind),(20,.bool (p1.Kind == 2))] [(104,.box [.nil])] R (sN (gp R R (b4 R zS))) (LH.cond (t:=(p1.Kind == 2)) R (fun jY=>?_) (fun jY=>?_))
  ·replace h:=aB h jY
   obtain ⟨r6,HY,h⟩:=ao h
   refine LH.aj [(4,.ag [.aI T 49 5 (List.map (al.lt T) r6.1.aa)]),(5,.I r6.2)] [] R (sN (bd R bw cF bx R R (sN (aw fc bT bN R R R (sN (bd R bT dO bN R R (sN (dQ (args:=[.agg [.aI T 49 5 (List.map (al.lt T) p0.aa)],ai.lv p1.Item]) R OB R (aH (aH bn)) (PU (T:=T) HY) R (sN (gy R R (sN (gy R R (s_ (cG R R R bw bx R R R (bo R (s0 ((Wk.trans (aS [(4,.ptr 104 0),(5,.I r6.2)] [(104,.box [.aI T 49 5 (List.map (al.lt T) r6.1.aa)])]) (Wk.trans (Wk.bg 104 [.aI T 49 5 (List.map (al.lt T) r6.1.aa)] R R R (bM R)) (Wk.eq R R R R)))))))))))))))))))) (LH.ret (bB (aW ?_)))
   obtain rfl:=oI h
   exact aO (aT Tryz.results26) (cT R bw cF bx R R (bU R (bS ⟨aN mN,R,aZ R,(Sub.cX (aH (aH bn)))⟩)))
  replace h:=aA h jY
  refine LH.aj [(2,.ag [.aI T 49 5 (List.map (al.lt T) p0.aa)]),(3,.ag (ax.lv p1).cells),(4,.ptr 104 0),(11,.I p1.Kind),(28,.bool (p1.Kind == 3))] [(104,.box [.nil])] R (sN (gp R R (b4 R zS))) (LH.cond (t:=(p1.Kind == 3)) R (fun jG=>?_) (fun jG=>?_))
  ·replace h:=aB h jG
   obtain ⟨r8,K3,h⟩:=ao h
   refine LH.aj [(4,.ag [.aI T 49 5 (List.map (al.lt T) r8.1.aa)]),(5,.I r8.2)] [] R (sN (bd R bw cF bx R R (sN (aw eV gH gv R R R (sN (bd R gH wL gv R R (sN (dQ (args:=[.agg [.aI T 49 5 (List.map (al.lt T) p0.aa)],.agg [.I p1.Ref.ID,.I p1.Ref.Version]]) R OC R (aH (aH bn)) (PO (T:=T) K3) R (sN (gy R R (sN (gy R R (s_ (cG R R R bw bx R R R (bo R (s0 ((Wk.trans (aS [(4,.ptr 104 0),(5,.I r8.2)] [(104,.box [.aI T 49 5 (List.map (al.lt T) r8.1.aa)])]) (Wk.trans (Wk.bg 104 [.aI T 49 5 (List.map (al.lt T) r8.1.aa)] R R R (bM R)) (Wk.eq R R R R)))))))))))))))))))) (LH.ret (bB (aW ?_)))
   obtain rfl:=oI h
   exact aO (aT Tryz.results26) (cT R bw cF bx R R (bU R (bS ⟨aN mN,R,aZ R,(Sub.cX (aH (aH bn)))⟩)))
  replace h:=aA h jG
  refine LH.aj [(2,.ag [.aI T 49 5 (List.map (al.lt T) p0.aa)]),(3,.ag (ax.lv p1).cells),(4,.ptr 104 0),(11,.I p1.Kind),(36,.bool (p1.Kind == 4))] [(104,.box [.nil])] R (sN (gp R R (b4 R zS))) (LH.cond (t:=(p1.Kind == 4)) R (fun vT=>?_) (fun vT=>?_))
  ·replace h:=aB h vT
   obtain ⟨dy,qb,h⟩:=ao h
   refine LH.aj [(4,.ag [.aI T 49 5 (List.map (al.lt T) dy.1.aa)]),(5,.I dy.2)] [] R (sN (bd R bw cF bx R R (sN (aw eV gH gv R R R (sN (bd R gH wL gv R R (sN (aw kY aD ba R R R (sN (bb R aD bQ (sN (aw dh cg b7 R R R (sN (aw fa aD ba R R R (sN (bb R aD bQ (sN (dQ (args:=[.agg [.aI T 49 5 (List.map (al.lt T) p0.aa)],.agg [.I p1.Ref.ID,.I p1.Ref.Version],.I p1.Form,.I p1.ar.Time]) R OD R (aH (aH (aH (aH bn)))) (Qc (T:=T) qb) R (sN (gy R R (sN (gy R R (s_ (cG R R R bw bx R R R (bo R (s0 ((Wk.trans (aS [(4,.ptr 104 0),(5,.I dy.2)] [(104,.box [.aI T 49 5 (List.map (al.lt T) dy.1.aa)])]) (Wk.trans (Wk.bg 104 [.aI T 49 5 (List.map (al.lt T) dy.1.aa)] R R R (bM R)) (Wk.eq R R R R)))))))))))))))))))))))))))))) (LH.ret (bB (aW ?_)))
   obtain rfl:=oI h
   exact aO (aT Tryz.results26) (cT R bw cF bx R R (bU R (bS ⟨aN mN,R,aZ R,(Sub.cX (aH (aH bn)))⟩)))
  replace h:=aA h vT
  refine LH.aj [(2,.ag [.aI T 49 5 (List.map (al.lt T) p0.aa)]),(3,.ag (ax.lv p1).cells),(4,.ptr 104 0),(11,.I p1.Kind),(49,.bool (p1.Kind == 5))] [(104,.box [.nil])] R (sN (gp R R (b4 R zS))) (LH.cond (t:=(p1.Kind == 5)) R (fun iI=>?_) (fun iI=>?_))
  ·replace h:=aB h iI
   obtain ⟨dz,Ff,h⟩:=ao h
   refine LH.aj [(4,.ag [.aI T 49 5 (List.map (al.lt T) dz.1.aa)]),(5,.I dz.2)] [] R (sN (bd R bw cF bx R R (sN (aw eV gH gv R R R (sN (aw fJ aD ba R R R (sN (bb R aD bQ (sN (dQ (args:=[.agg [.aI T 49 5 (List.map (al.lt T) p0.aa)],.I p1.Ref.ID,.bool true]) R Jk R (aH (aH (aH bn))) (JG (T:=T) Ff) R (sN (gy R R (sN (gy R R (s_ (cG R R R bw bx R R R (bo R (s0 ((Wk.trans (aS [(4,.ptr 104 0),(5,.I dz.2)] [(104,.box [.aI T 49 5 (List.map (al.lt T) dz.1.aa)])]) (Wk.trans (Wk.bg 104 [.aI T 49 5 (List.map (al.lt T) dz.1.aa)] R R R (bM R)) (Wk.eq R R R R)))))))))))))))))))))) (LH.ret (bB (aW ?_)))
   obtain rfl:=oI h
   exact aO (aT Tryz.results26) (cT R bw cF bx R R (bU R (bS ⟨aN mN,R,aZ R,(Sub.cX (aH (aH bn)))⟩)))
  replace h:=aA h iI
  refine LH.aj [(2,.ag [.aI T 49 5 (List.map (al.lt T) p0.aa)]),(3,.ag (ax.lv p1).cells),(4,.ptr 104 0),(58,.bool (p1.Kind == 6))] [(104,.box [.nil])] R (sN (gp R R (b4 R zS))) (LH.cond (t:=(p1.Kind == 6)) R (fun ou=>?_) (fun ou=>?_))
  ·replace h:=aB h ou
   obtain ⟨fg,vX,h⟩:=ao h
   refine LH.aj [(4,.ag [.aI T 49 5 (List.map (al.lt T) fg.1.aa)]),(5,.I fg.2)] [] R (sN (bd R bw cF bx R R (sN (aw eV gH gv R R R (sN (aw fJ aD ba R R R (sN (bb R aD bQ (sN (dQ (args:=[.agg [.aI T 49 5 (List.map (al.lt T) p0.aa)],.I p1.Ref.ID,.bool false]) R Jk R (aH (aH (aH bn))) (JG (T:=T) vX) R (sN (gy R R (sN (gy R R (s_ (cG R R R bw bx R R R (bo R (s0 ((Wk.trans (aS [(4,.ptr 104 0),(5,.I fg.2)] [(104,.box [.aI T 49 5 (List.map (al.lt T) fg.1.aa)])]) (Wk.trans (Wk.bg 104 [.aI T 49 5 (List.map (al.lt T) fg.1.aa)] R R R (bM R)) (Wk.eq R R R R)))))))))))))))))))))) (LH.ret (bB (aW ?_)))
   obtain rfl:=oI h
   exact aO (aT Tryz.results26) (cT R bw cF bx R R (bU R (bS ⟨aN mN,R,aZ R,(Sub.cX (aH (aH bn)))⟩)))
  replace h:=aA h ou
  refine LH.skip (aY (au (LH.aj [(4,.ag [.nil]),(5,.I 2)] [] R (sN (fU (vs:=[]) ly fM R fT (s_ (cG R R R bw bx R R R (bo R (s0 ((Wk.trans (aS [(4,.ptr 104 0),(5,.I 2)] [(104,.box [.nil])]) (Wk.trans (Wk.bg 104 [.nil] R R R (bM R)) (Wk.eq R R R R)))))))))) (LH.ret ?_))))
  obtain rfl:=oI h
  exact aO (aT Tryz.results26) (cT R bw cF bx R R (bU R (bS ⟨aN mN,R,aZ R,(Sub.cX (o7 (Sub.agg (vq R bn)) (aH bn)))⟩)))
theorem P4 {T:Bool} {F:Nat} {p0:List ax} {p1:Int} {r:aK × List cj × Int} (h:yN F p0 p1=some r):aM Tryz.prog 11 [.ak 12 (p0.map ax.lv),.I p1] (Mem.of []) (.cX [.agg [.aI T 49 5 (List.map (al.lt T) r.1.aa)],.ak 3 (r.2.1.map cj.lv),.I r.2.2]) (Mem.of []):=by
  unfold yN at h
  refine br Tryz.func11 R (nT Tryz.ntmps11 R) (LH.wk (aS [(0,.ak 12 (p0.map ax.lv)),(1,.I p1)] []) (LH.aj [(0,.ak 12 (p0.map ax.lv)),(1,.I p1),(4,.ptr 104 0)] [(104,.box [.nil])] R (sN (iE (id:=104) R fM R R (kX R (bo R zS)))) ?_))
  obtain ⟨r1,ee,h⟩:=ao h
  refine LH.aj [(1,.I p1),(4,.ptr 104 0),(7,.ak 12 (r1.1.map ax.lv)),(8,.I r1.2)] [(104,.box [.nil])] R (fp R (sN (dQ (args:=[.ak 12 (p0.map ax.lv)]) R Ot R (aH bn) (PH ee) R (rR R (sN (gy R R (sN (gy R R (qR R (bo R zS)))))))))) (LH.seq (LH.aj [(1,.I p1),(4,.ptr 104 0),(7,.ak 12 (r1.1.map ax.lv)),(8,.I r1.2),(20,.bool (r1.2 != 0))] [(104,.box [.nil])] R (bj R (sN (jR R R zS))) (LH.cond (t:=(r1.2 != 0)) R (fun eZ=>?_) (fun eZ=>?_))))
  ·replace h:=aB h eZ
   refine LH.aj [(4,.ag [.nil]),(5,.nil),(6,.I r1.2)] [] R (sN (fU (vs:=[]) ly fM R fT (bj R (s_ (cG R R R bw bx R R R (kX R (bo R (s0 ((Wk.trans (aS [(4,.ptr 104 0),(5,.nil),(6,.I r1.2)] [(104,.box [.nil])]) (Wk.trans (Wk.bg 104 [.nil] R R R (bM R)) (Wk.eq R R R R)))))))))))) (LH.ret (aW ?_))
   obtain rfl:=oI h
   exact aO (aT Tryz.results11) (cT R bw cF bx R R (bU R (bU R (bS ⟨aN mN,R,aZ R,(Sub.cX (o7 (Sub.agg (vq R bn)) (oV (aH bn))))⟩))))
  replace h:=aA h eZ
  refine LH.skip (au (LH.aj [(1,.I p1),(4,.ptr 104 0),(7,.ak 12 (r1.1.map ax.lv)),(9,.ptr 109 0)] [(104,.box [.nil]),(109,.box [.nil])] R (sN (iE (id:=109) R fM R R zS)) (LH.aj [(1,.I p1),(4,.ptr 104 0),(7,.ak 12 (r1.1.map ax.lv)),(9,.ptr 109 0),(10,.nil)] [(104,.box [.nil]),(109,.box [.nil])] R (kX R zS) (LH.seq (LH.aj [(1,.I p1),(4,.ptr 104 0),(7,.ak 12 (r1.1.map ax.lv)),(9,.ptr 109 0),(10,.nil),(11,.I 0)] [(104,.box [.nil]),(109,.box [.nil])] R (bo R zS) (LH.block (LH.wk ((Wk.trans (aS [(1,.I p1),(4,.ptr 104 0),(7,.ak 12 (r1.1.map ax.lv)),(9,.ptr 109 0),(10,.nil),(11,.I 0)] [(104,.box [.nil]),(109,.box [.nil])]) (Wk.trans (aS [(1,.I p1),(4,.ptr 104 0),(7,.ak 12 (r1.1.map ax.lv)),(9,.ptr 109 0),(10,.nil),(11,.I 0)] [(104,.box [.nil]),(109,.box [.nil])]) (Wk.trans (Wk.tt (fy:=[(1,.I p1),(4,.ptr 104 0),(7,.ak 12 (r1.1.map ax.lv)),(9,.ptr 109 0),(10,.arr 165 (List.length ([]:List cj))),(11,.I 0)]) 165 84 3 R R (wK (wK (wK (wK (wO (wK wN))))))) (Wk.trans (aS [(1,.I p1),(4,.ptr 104 0),(7,.ak 12 (r1.1.map ax.lv)),(9,.ptr 109 0),(10,.arr 165 (List.length ([]:List cj))),(11,.I 0)] [(104,.box [.nil]),(109,.box [.nil]),(165,.arr 84 3 (List.map cj.lv ([]:List cj)))]) (Wk.trans (Wk.u3 10090 49 5 109 0 R R R R R (bM R)) (Wk.trans (aS [(1,.I p1),(4,.ptr 104 0),(7,.ak 12 (r1.1.map ax.lv)),(9,.ptr 109 0),(10,.arr 165 (List.length ([]:List cj))),(11,.I 0)] [(104,.box [.nil]),(109,.box [.arr 10090 (List.length ([]:List al))]),(165,.arr 84 3 (List.map cj.lv ([]:List cj))),(10090,.arr 49 5 (List.map (al.lt T) ([]:List al)))]) (Wk.trans (Wk.trans (Wk.sH (f:=(al.lt T)) T 10090 49 5 ([]:List al) 109 R R R (MV MU) R R (bM R)) (aS [(1,.I p1),(4,.ptr 104 0),(7,.ak 12 (r1.1.map ax.lv)),(9,.ptr 109 0),(10,.arr 165 (List.length ([]:List cj))),(11,.I 0)] [(104,.box [.nil]),(109,.box [.aI T 49 5 (List.map (al.lt T) ([]:List al))]),(165,.arr 84 3 (List.map cj.lv ([]:List cj)))])) (aS [(1,.I p1),(4,.ptr 104 0),(7,.ak 12 (r1.1.map ax.lv)),(9,.ptr 109 0),(10,.arr 165 (List.length ([]:List cj))),(11,.I 0)] [(104,.box [.nil]),(109,.box [.aI T 49 5 (List.map (al.lt T) ([]:List al))]),(165,.arr 84 3 (List.map cj.lv ([]:List cj)))]))))))))) (LH.loop (fun n e m=>∃ (n3:Int) (l4:List al) (l5:List cj),A8 F p1 r1 n n3 l4 l5=some r∧e=Env.of [(1,.I p1),(4,.ptr 104 0),(7,.ak 12 (r1.1.map ax.lv)),(9,.ptr 109 0),(10,.arr 165 l5.length),(11,.I n3)]∧m=Mem.of [(104,.box [.nil]),(109,.box [.aI T 49 5 (List.map (al.lt T) l4)]),(165,.arr 84 3 (l5.map cj.lv))]) F ⟨0,([]:List al),([]:List cj),h,R,R⟩ ?_))))))))
  clear h
  rintro n e m ⟨n3,l4,l5,h,rfl,rfl⟩
  rcases n with _ | n
  · cases (show Option.none=some _ from h)
  obtain ⟨aJ,a7⟩:∃ f,f=A8 F p1 r1 n:=⟨_,rfl⟩
  replace h:yn F p1 r1 aJ n3 l4 l5=some r:=a7 ▸ h
  unfold yn at h
  refine LH.seq (LH.aj [(1,.I p1),(4,.ptr 104 0),(7,.ak 12 (r1.1.map ax.lv)),(9,.ptr 109 0),(10,.arr 165 l5.length),(11,.I n3),(26,.bool (decide (n3<(r1.1.length:Int))))] [(104,.box [.nil]),(109,.box [.aI T 49 5 (List.map (al.lt T) l4)]),(165,.arr 84 3 (l5.map cj.lv))] R (bj R (fp R (sN (bW (f:=ax.lv) gA R (sN (fi R R zS)))))) (LH.cond (t:=(decide (n3<(r1.1.length:Int)))) R (fun fP=>?_) (fun fP=>?_)))
  ·replace h:=aB h fP
   refine LH.skip (au (LH.wk (aS [(1,.I p1),(4,.ptr 104 0),(7,.ak 12 (r1.1.map ax.lv)),(9,.ptr 109 0),(10,.arr 165 l5.length),(11,.I n3)] [(104,.box [.nil]),(109,.box [.aI T 49 5 (List.map (al.lt T) l4)]),(165,.arr 84 3 (l5.map cj.lv))]) (LH.seq (LH.block (LH.seq ?_)))))
   obtain ⟨x7,AF,h⟩:=ao h
   refine LH.aj [(1,.I p1),(4,.ptr 104 0),(7,.ak 12 (r1.1.map ax.lv)),(9,.ptr 109 0),(10,.arr 165 l5.length),(11,.I n3),(36,.bool (decide (x7.ar.Time > p1)))] [(104,.box [.nil]),(109,.box [.aI T 49 5 (List.map (al.lt T) l4)]),(165,.arr 84 3 (l5.map cj.lv))] R (fp R (bj R (sN (eG (f:=ax.lv) gA fB eA R R ax.ok AF R (sN (aw dh cg b7 R R R (sN (aw fa aD ba R R R (sN (bb R aD bQ (bj R (sN (iP R R zS))))))))))))) (LH.cond (t:=(decide (x7.ar.Time > p1))) R (fun kS=>?_) (fun kS=>?_))
   ·replace h:=aB h kS
    refine LH.exit (cw (bO (au (LH.aU [(1,.I p1),(4,.ptr 104 0),(7,.ak 12 (r1.1.map ax.lv)),(9,.ptr 109 0),(10,.arr 165 l5.length),(11,.I (i64 (n3+1)))] [(104,.box [.nil]),(109,.box [.aI T 49 5 (List.map (al.lt T) l4)]),(165,.arr 84 3 (l5.map cj.lv))] R (bj R (sN (cD R R (bo R zS)))) ?_))))
    exact bh ⟨(i64 (n3+1)),l4,l5,a7 ▸ h,R,R⟩ (Wk.eq R R R R)
   replace h:=aA h kS
   refine LH.skip (au ?_)
   obtain ⟨x9,wZ,h⟩:=ao h
   obtain ⟨dy,qb,h⟩:=ao h
   refine LH.di mixed [] [1109,0,0,0,0,0,0,0,0,2,100112,0] [(1,.I p1),(4,.ptr 104 0),(7,.ak 12 (r1.1.map ax.lv)),(9,.ptr 109 0),(10,.arr 165 l5.length),(11,.I n3),(12,.ag [.aI T 49 5 (List.map (al.lt T) dy.1.aa)]),(13,.I dy.2)] [(104,.box [.nil]),(109,.box [.aI T 49 5 (List.map (al.lt T) l4)]),(165,.arr 84 3 (l5.map cj.lv))] R R (by kernel_rfl) (mD R R R (fun _ b _ d=>tg R b R bw cF bx R R d) (rM R (fF R (aF (eG (f:=ax.lv) gA fB eA R R ax.ok wZ R ⟨R,aF (bd R fB mq eA R R ⟨R,aF (dQ (args:=[.agg [.aI T 49 5 (List.map (al.lt T) l4)],ax.lv x9]) R Ol R (aH (aH bn)) (PZ (T:=T) qb) R ⟨R,Wu R (aF (gy R R ⟨R,aF (gy R R ⟨R,Ht (iE (id:=112) R fM R R (mS R R R (fun _ b _ d=>cG R R R bw bx b R R d) (MB R (m0 ((Wk.trans (aS [(1,.I p1),(4,.ptr 104 0),(7,.ak 12 (r1.1.map ax.lv)),(9,.ptr 109 0),(10,.arr 165 l5.length),(11,.I n3),(12,.ptr 112 0),(13,.I dy.2)] [(104,.box [.nil]),(109,.box [.aI T 49 5 (List.map (al.lt T) l4)]),(112,.box [.aI T 49 5 (List.map (al.lt T) dy.1.aa)]),(165,.arr 84 3 (l5.map cj.lv))]) (Wk.trans (Wk.bg 112 [.aI T 49 5 (List.map (al.lt T) dy.1.aa)] R R R (bM R)) (Wk.eq R R R R))))))))⟩)⟩))⟩)⟩)⟩))))) (LH.seq (LH.aj [(1,.I p1),(4,.ptr 104 0),(7,.ak 12 (r1.1.map ax.lv)),(9,.ptr 109 0),(10,.arr 165 l5.length),(11,.I n3),(12,.ag [.aI T 49 5 (List.map (al.lt T) dy.1.aa)]),(13,.I dy.2),(47,.bool (dy.2 != 0))] [(104,.box [.nil]),(109,.box [.aI T 49 5 (List.map (al.lt T) l4)]),(165,.arr 84 3 (l5.map cj.lv))] R (bj R (sN (jR R R zS))) (LH.cond (t:=(dy.2 != 0)) R (fun iI=>?_) (fun iI=>?_))))
   ·replace h:=aB h iI
    obtain ⟨gC,pF,h⟩:=ao h
    obtain ⟨fe,nI,h⟩:=ao h
    obtain ⟨kL,AB,h⟩:=ao h
    refine LH.di mixed [] [0,0,0,0,0,0,0,0,0,0,0,0,0,0,0,0,0,2,0] [(1,.I p1),(4,.ptr 104 0),(7,.ak 12 (r1.1.map ax.lv)),(9,.ptr 109 0),(10,.arr 165 kL.length),(11,.I n3)] [(104,.box [.nil]),(109,.box [.aI T 49 5 (List.map (al.lt T) l4)]),(165,.arr 84 3 (kL.map cj.lv))] R R (by kernel_rfl) ?_ ?_
    ·exact Pk R (rM R (fF R (aF (eG (f:=ax.lv) gA fB eA R R ax.ok pF R ⟨R,aF (aw dh cg b7 R R R ⟨R,aF (aw eu aD ba R R R ⟨R,aF (bb R aD bQ ⟨R,rM R (fF R (aF (eG (f:=ax.lv) gA fB eA R R ax.ok nI R ⟨R,aF (aw dh cg b7 R R R ⟨R,aF (aw dI aD ba R R R ⟨R,aF (bb R aD bQ ⟨R,aF (fU (vs:=[(0,.I gC.ar.Source),(1,.I fe.ar.Seq)]) zl zo R (lf mP ba aD R R R (lf mQ ba aD R R R fT)) ⟨R,fF R (aF (fU (vs:=[(0,.agg [.I gC.ar.Source,.I fe.ar.Seq]),(1,.I dy.2)]) zm zp R (lf mR zk zf R R R (lf mV zj ze R R R fT)) ⟨R,aF (jZ (f:=cj.lv) (ys:=[(cj.mk (rX.mk gC.ar.Source fe.ar.Seq) dy.2)]) mO nN nO R R R cj.ok ⟨R,Ht (nw (f:=cj.lv) mO nN nO R R (bM R) R AB (Ws R zM))⟩)⟩))⟩)⟩)⟩)⟩)⟩)))⟩)⟩)⟩)⟩))))
    refine LH.exit (cw (bO (au (LH.aU [(1,.I p1),(4,.ptr 104 0),(7,.ak 12 (r1.1.map ax.lv)),(9,.ptr 109 0),(10,.arr 165 kL.length),(11,.I (i64 (n3+1)))] [(104,.box [.nil]),(109,.box [.aI T 49 5 (List.map (al.lt T) l4)]),(165,.arr 84 3 (kL.map cj.lv))] R (bj R (sN (cD R R (bo R zS)))) ?_))))
    exact bh ⟨(i64 (n3+1)),l4,kL,a7 ▸ h,R,R⟩ (Wk.eq R R R R)
   replace h:=aA h iI
   refine LH.skip (au (LH.aU [(1,.I p1),(4,.ptr 104 0),(7,.ak 12 (r1.1.map ax.lv)),(9,.ptr 109 0),(10,.arr 165 l5.length),(11,.I n3)] [(104,.box [.nil]),(109,.box [.aI T 49 5 (List.map (al.lt T) dy.1.aa)]),(165,.arr 84 3 (l5.map cj.lv))] R (sN (bd R bw cF bx R R (s_ (cG R R R bw bx R R R zS)))) (aY (au (LH.aU [(1,.I p1),(4,.ptr 104 0),(7,.ak 12 (r1.1.map ax.lv)),(9,.ptr 109 0),(10,.arr 165 l5.length),(11,.I (i64 (n3+1)))] [(104,.box [.nil]),(109,.box [.aI T 49 5 (List.map (al.lt T) dy.1.aa)]),(165,.arr 84 3 (l5.map cj.lv))] R (bj R (sN (cD R R (bo R zS)))) ?_)))))
   exact bh ⟨(i64 (n3+1)),dy.1.aa,l5,a7 ▸ h,R,R⟩ (Wk.eq R R R R)
  replace h:=aA h fP
  refine LH.exit (cw (bY (bO (au (LH.wk ((Wk.trans (aS [(4,.ptr 104 0),(9,.ptr 109 0),(10,.arr 165 l5.length)] [(104,.box [.nil]),(109,.box [.aI T 49 5 (List.map (al.lt T) l4)]),(165,.arr 84 3 (l5.map cj.lv))]) (Wk.trans (Wk.lk (f:=cj.lv) (fy:=[(4,.ptr 104 0),(9,.ptr 109 0),(10,.ak 3 (l5.map cj.lv))]) 165 84 3 l5 R R (bM R) (fK R (fK R (fZ fN)))) (Wk.trans (Wk.bg 109 [.aI T 49 5 (List.map (al.lt T) l4)] R R R (bM R)) (aS [(4,.ptr 104 0),(9,.ag [.aI T 49 5 (List.map (al.lt T) l4)]),(10,.ak 3 (l5.map cj.lv))] [(104,.box [.nil])]))))) (LH.aj [(4,.ag [.aI T 49 5 (List.map (al.lt T) l4)]),(5,.ak 3 (l5.map cj.lv)),(6,.I 0)] [] R (sN (bd R bw cF bx R R (fp R (s_ (cG R R R bw bx R R R (qR R (bo R (s0 ((Wk.trans (aS [(4,.ptr 104 0),(5,.ak 3 (l5.map cj.lv)),(6,.I 0)] [(104,.box [.aI T 49 5 (List.map (al.lt T) l4)])]) (Wk.trans (Wk.bg 104 [.aI T 49 5 (List.map (al.lt T) l4)] R R R (bM R)) (Wk.eq R R R R)))))))))))) (LH.ret ?_)))))))
  obtain rfl:=oI h
  exact aO (aT Tryz.results11) (cT R bw cF bx R R (bU R (bU R (bS ⟨aN mN,R,aZ R,(Sub.cX (aH (aH (aH bn))))⟩))))
theorem JF {F:Nat} {p0:al} {r:Bool} (h:Du F p0=some r):aM Tryz.prog 64 [al.lv p0] (Mem.of []) (.bool r) (Mem.of []):=by
  unfold Du at h
  refine br Tryz.func64 R (nT Tryz.ntmps64 R) (LH.wk (aS [(0,al.lv p0)] []) (LH.aj [(1,.ag (al.lv p0).cells)] [] R (sB (c7 R R R R (b4 R zS))) (LH.seq (LH.aj [(1,.ag (al.lv p0).cells),(31,.bool ((decide ((p0.ab.length:Int)<1)) || ((decide ((p0.ab.length:Int) > 8)) || (((p0.ah.length:Int) != (p0.ab.length:Int)) || (decide ((p0.Uses.length:Int) > 300))))))] [] R ?_ ?_))))
  ·refine sN (aw cH cL eY R R R (sN (bb R cL gr (sN (bW (f:=ai.lv) eU R (sN (fi R R (bD R ?_))))))))
   by_cases cA:(decide ((p0.ab.length:Int)<1))=true
   ·exact sF R R cA (sF R R cA (sF R R cA (sF R R cA (sN (aX (cB cA) (v:=(.bool _)) R (bD R (sF R R R (sF R R R (sF R R R (sF R R R (sF R R R (sF R R R (sF R R R (sN (aX R (v:=(.bool _)) R (bD R (sF R R R (sF R R R (sF R R R (sF R R R (sN (aX R (v:=(.bool _)) R (s0 (Wk.to (eC R (eC (cB (nL cA)) eN)) mN R (aZ R)))))))))))))))))))))))))
   ·replace cA:=bF cA
    refine sT R (cB cA) (aw cH cL eY R R R (sT R (cB cA) (bb R cL gr (sT R (cB cA) (bW (f:=ai.lv) eU R (sT R (cB cA) (iP R R (sN (aQ (cB cA) (v:=(.bool _)) R (bD R ?_))))))))))
    by_cases bP:(decide ((p0.ab.length:Int) > 8))=true
    ·exact sF R R bP (sF R R bP (sF R R bP (sF R R bP (sF R R bP (sF R R bP (sF R R bP (sN (aX (cB bP) (v:=(.bool _)) R (bD R (sF R R R (sF R R R (sF R R R (sF R R R (sN (aX R (v:=(.bool _)) R (s0 (Wk.to (eC R (eC (cB (Eq.trans (nL bP) (gz cA))) eN)) mN R (aZ R))))))))))))))))))
    ·replace bP:=bF bP
     refine sT R (cB bP) (aw dG dX gJ R R R (sT R (cB bP) (bb R dX lu (sT R (cB bP) (bW (f:=LV.bool) jo R (sT R (cB bP) (aw cH cL eY R R R (sT R (cB bP) (bb R cL gr (sT R (cB bP) (bW (f:=ai.lv) eU R (sT R (cB bP) (jR R R (sN (aQ (cB bP) (v:=(.bool _)) R (bD R ?_))))))))))))))))
     by_cases bu:((p0.ah.length:Int) != (p0.ab.length:Int))=true
     ·exact sF R R bu (sF R R bu (sF R R bu (sF R R bu (sN (aX (cB bu) (v:=(.bool _)) R (s0 (Wk.to (eC R (eC (cB (Eq.trans (Eq.trans (nL bu) (gz bP)) (gz cA))) eN)) mN R (aZ R))))))))
     ·replace bu:=bF bu
      exact sT R (cB bu) (aw dH dP gW R R R (sT R (cB bu) (bb R dP km (sT R (cB bu) (bW (f:=ay.lv) iV R (sT R (cB bu) (iP R R (sN (aQ (cB bu) (v:=(.bool _)) R (s0 (Wk.to (eC R (eC (cB (Eq.trans (Eq.trans (gz bu) (gz bP)) (gz cA))) eN)) mN R (aZ R))))))))))))
  refine LH.cond (t:=((decide ((p0.ab.length:Int)<1)) || ((decide ((p0.ab.length:Int) > 8)) || (((p0.ah.length:Int) != (p0.ab.length:Int)) || (decide ((p0.Uses.length:Int) > 300)))))) R (fun jY=>?_) (fun jY=>?_)
  ·replace h:=aB h jY
   refine LH.aj [(2,.bool false)] [] R (b4 R zS) (LH.ret (aW ?_))
   obtain rfl:=oI h
   exact aO (aT Tryz.results64) (bU R (bS ⟨aN mN,R,aZ R,Sub.rfl⟩))
  replace h:=aA h jY
  refine LH.skip (au (LH.wk (aS [(1,.ag (al.lv p0).cells)] []) (LH.seq (LH.aj [(1,.ag (al.lv p0).cells),(33,.ak 5 (p0.ab.map ai.lv)),(34,.I (p0.ab.length:Int)),(35,.I 0)] [] R (sN (aw cH cL eY R R R (sN (bb R cL gr (sN (bW (f:=ai.lv) eU R (bj R zS))))))) (LH.block (LH.loop (fun n e m=>∃ (n6:Int),Dn F p0 n n6=some r∧e=Env.of [(1,.ag (al.lv p0).cells),(33,.ak 5 (p0.ab.map ai.lv)),(34,.I (p0.ab.length:Int)),(35,.I n6)]∧m=Mem.of []) F ⟨0,h,R,R⟩ ?_))))))
  clear h
  rintro n e m ⟨n6,h,rfl,rfl⟩
  rcases n with _ | n
  · cases (show Option.none=some _ from h)
  obtain ⟨aJ,a7⟩:∃ f,f=Dn F p0 n:=⟨_,rfl⟩
  replace h:Gp F p0 aJ n6=some r:=a7 ▸ h
  unfold Gp at h
  refine LH.aj [(1,.ag (al.lv p0).cells),(33,.ak 5 (p0.ab.map ai.lv)),(34,.I (p0.ab.length:Int)),(35,.I n6),(36,.bool (decide (n6<(p0.ab.length:Int))))] [] R (sN (fi R R zS)) (LH.seq (LH.cond (t:=(decide (n6<(p0.ab.length:Int)))) R (fun jG=>?_) (fun jG=>?_)))
  ·replace h:=aB h jG
   refine LH.skip (au (LH.wk (aS [(1,.ag (al.lv p0).cells),(33,.ak 5 (p0.ab.map ai.lv)),(34,.I (p0.ab.length:Int)),(35,.I n6)] []) (LH.seq (LH.block ?_))))
   obtain ⟨x8,s6,h⟩:=ao h
   refine LH.aj [(1,.ag (al.lv p0).cells),(3,.I n6),(4,.ag (ai.lv x8).cells),(33,.ak 5 (p0.ab.map ai.lv)),(34,.I (p0.ab.length:Int)),(35,.I n6)] [] R (bj R (sN (eG (f:=ai.lv) eU bT bN R R ai.ok s6 R (sN (bd R bT dO bN R R (sN (iE (id:=104) R mr R R (bo R (s_ (cG R R R bT bN R R R (s0 ((Wk.trans (aS [(1,.ag (al.lv p0).cells),(3,.I n6),(4,.ptr 104 0),(33,.ak 5 (p0.ab.map ai.lv)),(34,.I (p0.ab.length:Int)),(35,.I n6)] [(104,.box (ai.lv x8).cells)]) (Wk.trans (Wk.bg 104 (ai.lv x8).cells R R R (bM R)) (Wk.eq R R R R))))))))))))))) ?_
   obtain ⟨IJ,hv,h⟩:=ao h
   refine LH.aj [(1,.ag (al.lv p0).cells),(33,.ak 5 (p0.ab.map ai.lv)),(34,.I (p0.ab.length:Int)),(35,.I n6),(56,.bool IJ)] [] R ?_ ?_
   ·refine sN (bd R bT dO bN R R ?_)
    obtain ⟨cM,lH,hv⟩:=ao hv
    refine sN (dQ (args:=[ai.lv x8]) R FG R (aH bn) (Gg lH) R (sN (jR R R (bD R ?_))))
    by_cases ep:(cM != 0)=true
    ·replace hv:=aB hv ep
     refine sF R R ep (sF R R ep (sF R R ep (sF R R ep (sF R R ep (sN (aX (cB ep) (v:=(.bool _)) R (bD R (sF R R R (sF R R R (sF R R R (sF R R R (sF R R R (sN (aX R (v:=(.bool _)) R ?_))))))))))))))
     obtain rfl:=oI hv
     exact zS
    ·replace ep:=bF ep
     replace hv:=aA hv ep
     refine sT R (cB ep) (aw e9 aD ba R R R (sT R (cB ep) (bb R aD bQ (sT R (cB ep) (aw e8 aD ba R R R (sT R (cB ep) (bb R aD bQ (sT R (cB ep) (jR R R (sN (aQ (cB ep) (v:=(.bool _)) R (bD R ?_))))))))))))
     by_cases bX:(x8.ID != p0.ID)=true
     ·replace hv:=aB hv bX
      refine sF R R bX (sF R R bX (sF R R bX (sF R R bX (sF R R bX (sN (aX (cB bX) (v:=(.bool _)) R ?_))))))
      obtain rfl:=oI hv
      exact zS
     ·replace bX:=bF bX
      replace hv:=aA hv bX
      refine sT R (cB bX) (aw fL aD ba R R R (sT R (cB bX) (bb R aD bQ (sT R (cB bX) (oM (v:=(.int _ _)) R (sT R (cB bX) (cD R R (sT R (cB bX) (jR R R (sN (aQ (cB bX) (v:=(.bool _)) R ?_)))))))))))
      obtain rfl:=oI hv
      exact zS
   clear hv
   refine LH.cond (t:=IJ) R (fun sJ=>?_) (fun sJ=>?_)
   ·replace h:=aB h sJ
    refine LH.aj [(2,.bool false)] [] R (b4 R zS) (LH.ret (bB (aW (dF (bB (aW ?_))))))
    obtain rfl:=oI h
    exact aO (aT Tryz.results64) (bU R (bS ⟨aN mN,R,aZ R,Sub.rfl⟩))
   replace h:=aA h sJ
   refine LH.skip (aY (au (LH.aU [(1,.ag (al.lv p0).cells),(33,.ak 5 (p0.ab.map ai.lv)),(34,.I (p0.ab.length:Int)),(35,.I (i64 (n6+1)))] [] R (sN (cD R R (bj R zS))) ?_)))
   exact bh ⟨(i64 (n6+1)),a7 ▸ h,R,R⟩ (Wk.eq R R R R)
  replace h:=aA h jG
  refine LH.exit (cw (bY (bO (au (LH.wk (aS [(1,.ag (al.lv p0).cells)] []) (LH.seq (LH.aj [(1,.ag (al.lv p0).cells),(59,.ak 3 (p0.Uses.map ay.lv)),(60,.I (p0.Uses.length:Int)),(61,.I 0)] [] R (sN (aw dH dP gW R R R (sN (bb R dP km (sN (bW (f:=ay.lv) iV R (bj R zS))))))) (LH.block (LH.loop (fun n e m=>∃ (n15:Int),AX p0 n n15=some r∧e=Env.of [(1,.ag (al.lv p0).cells),(59,.ak 3 (p0.Uses.map ay.lv)),(60,.I (p0.Uses.length:Int)),(61,.I n15)]∧m=Mem.of []) F ⟨0,h,R,R⟩ ?_)))))))))
  clear h
  rintro n e m ⟨n15,h,rfl,rfl⟩
  rcases n with _ | n
  · cases (show Option.none=some _ from h)
  obtain ⟨fo,eB⟩:∃ f,f=AX p0 n:=⟨_,rfl⟩
  replace h:Gq p0 fo n15=some r:=eB ▸ h
  unfold Gq at h
  refine LH.aj [(1,.ag (al.lv p0).cells),(59,.ak 3 (p0.Uses.map ay.lv)),(60,.I (p0.Uses.length:Int)),(61,.I n15),(62,.bool (decide (n15<(p0.Uses.length:Int))))] [] R (sN (fi R R zS)) (LH.seq (LH.cond (t:=(decide (n15<(p0.Uses.length:Int)))) R (fun iJ=>?_) (fun iJ=>?_)))
  ·replace h:=aB h iJ
   refine LH.skip (au (LH.wk (aS [(1,.ag (al.lv p0).cells),(59,.ak 3 (p0.Uses.map ay.lv)),(60,.I (p0.Uses.length:Int)),(61,.I n15)] []) (LH.seq (LH.block ?_))))
   obtain ⟨pY,xJ,h⟩:=ao h
   refine LH.aj [(1,.ag (al.lv p0).cells),(6,.ag [.I pY.Version,.I pY.Form,.I pY.Time]),(59,.ak 3 (p0.Uses.map ay.lv)),(60,.I (p0.Uses.length:Int)),(61,.I n15)] [] R (sN (eG (f:=ay.lv) iV rF lN R R ay.ok xJ R (sN (bd R rF Iz lN R R (sN (iE (id:=106) R IE R R (s_ (cG R R R rF lN R R R (s0 ((Wk.trans (aS [(1,.ag (al.lv p0).cells),(6,.ptr 106 0),(59,.ak 3 (p0.Uses.map ay.lv)),(60,.I (p0.Uses.length:Int)),(61,.I n15)] [(106,.box [.I pY.Version,.I pY.Form,.I pY.Time])]) (Wk.trans (Wk.bg 106 [.I pY.Version,.I pY.Form,.I pY.Time] R R R (bM R)) (Wk.eq R R R R))))))))))))) (LH.aj [(1,.ag (al.lv p0).cells),(59,.ak 3 (p0.Uses.map ay.lv)),(60,.I (p0.Uses.length:Int)),(61,.I n15),(75,.bool ((decide (pY.Version<1)) || (decide (pY.Version > (p0.ab.length:Int)))))] [] R ?_ ?_)
   ·refine sN (aw oZ aD ba R R R (sN (bb R aD bQ (sN (fi R R (bD R ?_))))))
    by_cases mf:(decide (pY.Version<1))=true
    ·exact sF R R mf (sF R R mf (sF R R mf (sF R R mf (sF R R mf (sF R R mf (sN (aX (cB mf) (v:=(.bool _)) R (s0 (Wk.to (eC R (eC R (eC R (eC R (eC (cB (nL mf)) eN))))) mN R (aZ R))))))))))
    ·replace mf:=bF mf
     exact sT R (cB mf) (aw oZ aD ba R R R (sT R (cB mf) (bb R aD bQ (sT R (cB mf) (aw cH cL eY R R R (sT R (cB mf) (bb R cL gr (sT R (cB mf) (bW (f:=ai.lv) eU R (sT R (cB mf) (iP R R (sN (aQ (cB mf) (v:=(.bool _)) R (s0 (Wk.to (eC R (eC R (eC R (eC R (eC (cB (gz mf)) eN))))) mN R (aZ R))))))))))))))))
   refine LH.cond (t:=((decide (pY.Version<1)) || (decide (pY.Version > (p0.ab.length:Int))))) R (fun ky=>?_) (fun ky=>?_)
   ·replace h:=aB h ky
    refine LH.aj [(2,.bool false)] [] R (b4 R zS) (LH.ret (bB (aW (dF (bB (aW ?_))))))
    obtain rfl:=oI h
    exact aO (aT Tryz.results64) (bU R (bS ⟨aN mN,R,aZ R,Sub.rfl⟩))
   replace h:=aA h ky
   refine LH.skip (aY (au (LH.aU [(1,.ag (al.lv p0).cells),(59,.ak 3 (p0.Uses.map ay.lv)),(60,.I (p0.Uses.length:Int)),(61,.I (i64 (n15+1)))] [] R (sN (cD R R (bj R zS))) ?_)))
   exact bh ⟨(i64 (n15+1)),eB ▸ h,R,R⟩ (Wk.eq R R R R)
  replace h:=aA h iJ
  refine LH.exit (cw (bY (bO (au (LH.aj [(2,.bool true)] [] R (b4 R zS) (LH.ret ?_))))))
  obtain rfl:=oI h
  exact aO (aT Tryz.results64) (bU R (bS ⟨aN mN,R,aZ R,Sub.rfl⟩))
theorem P9 {F:Nat} {p0:aK} {r:Bool} (h:yM F p0=some r):aM Tryz.prog 35 [.agg [.ak 5 (p0.aa.map al.lv)]] (Mem.of []) (.bool r) (Mem.of []):=by
  unfold yM at h
  refine br Tryz.func35 R (nT Tryz.ntmps35 R) (LH.wk (aS [(0,.agg [.ak 5 (p0.aa.map al.lv)])] []) (LH.aj [(1,.ag [.ak 5 (p0.aa.map al.lv)])] [] R (sB (c7 R R R R (b4 R zS))) (LH.seq (LH.aj [(1,.ag [.ak 5 (p0.aa.map al.lv)]),(8,.bool (decide ((p0.aa.length:Int) > 40)))] [] R (sN (aw cd cm dC R R R (sN (bb R cm fA (sN (bW (f:=al.lv) dW R (sN (iP R R zS)))))))) (LH.cond (t:=(decide ((p0.aa.length:Int) > 40))) R (fun jF=>?_) (fun jF=>?_))))))
  ·replace h:=aB h jF
   refine LH.aj [(2,.bool false)] [] R (b4 R zS) (LH.ret (aW ?_))
   obtain rfl:=oI h
   exact aO (aT Tryz.results35) (bU R (bS ⟨aN mN,R,aZ R,Sub.rfl⟩))
  replace h:=aA h jF
  refine LH.skip (au (LH.wk (aS [(1,.ag [.ak 5 (p0.aa.map al.lv)])] []) (LH.seq (LH.aj [(1,.ag [.ak 5 (p0.aa.map al.lv)]),(10,.ak 5 (p0.aa.map al.lv)),(11,.I (p0.aa.length:Int)),(12,.I 0)] [] R (sN (aw cd cm dC R R R (sN (bb R cm fA (sN (bW (f:=al.lv) dW R (bj R zS))))))) (LH.block (LH.loop (fun n e m=>∃ (n2:Int),u9 F p0 n n2=some r∧e=Env.of [(1,.ag [.ak 5 (p0.aa.map al.lv)]),(10,.ak 5 (p0.aa.map al.lv)),(11,.I (p0.aa.length:Int)),(12,.I n2)]∧m=Mem.of []) F ⟨0,h,R,R⟩ ?_))))))
  clear h
  rintro n e m ⟨n2,h,rfl,rfl⟩
  rcases n with _ | n
  · cases (show Option.none=some _ from h)
  obtain ⟨aJ,a7⟩:∃ f,f=u9 F p0 n:=⟨_,rfl⟩
  replace h:yj F p0 aJ n2=some r:=a7 ▸ h
  unfold yj at h
  refine LH.aj [(1,.ag [.ak 5 (p0.aa.map al.lv)]),(10,.ak 5 (p0.aa.map al.lv)),(11,.I (p0.aa.length:Int)),(12,.I n2),(13,.bool (decide (n2<(p0.aa.length:Int))))] [] R (sN (fi R R zS)) (LH.seq (LH.cond (t:=(decide (n2<(p0.aa.length:Int)))) R (fun iK=>?_) (fun iK=>?_)))
  ·replace h:=aB h iK
   refine LH.skip (au (LH.wk (aS [(1,.ag [.ak 5 (p0.aa.map al.lv)]),(10,.ak 5 (p0.aa.map al.lv)),(11,.I (p0.aa.length:Int)),(12,.I n2)] []) (LH.seq (LH.block ?_))))
   obtain ⟨x4,C2,h⟩:=ao h
   refine LH.aj [(1,.ag [.ak 5 (p0.aa.map al.lv)]),(3,.I n2),(4,.ag (al.lv x4).cells),(10,.ak 5 (p0.aa.map al.lv)),(11,.I (p0.aa.length:Int)),(12,.I n2)] [] R (bj R (sN (eG (f:=al.lv) dW cC b8 R R al.ok C2 R (sN (bd R cC fR b8 R R (sN (iE (id:=104) R lz R R (bo R (s_ (cG R R R cC b8 R R R (s0 ((Wk.trans (aS [(1,.ag [.ak 5 (p0.aa.map al.lv)]),(3,.I n2),(4,.ptr 104 0),(10,.ak 5 (p0.aa.map al.lv)),(11,.I (p0.aa.length:Int)),(12,.I n2)] [(104,.box (al.lv x4).cells)]) (Wk.trans (Wk.bg 104 (al.lv x4).cells R R R (bM R)) (Wk.eq R R R R))))))))))))))) ?_
   obtain ⟨w6,hv,h⟩:=ao h
   refine LH.di mixed [] [0,0,0,0,0,0,0,0,0,0,0,0,0,0,0,0,0,0,0] [(1,.ag [.ak 5 (p0.aa.map al.lv)]),(10,.ak 5 (p0.aa.map al.lv)),(11,.I (p0.aa.length:Int)),(12,.I n2),(35,.bool w6)] [] R R (by kernel_rfl) ?_ ?_
   ·refine fF R (aF (iP R R ⟨R,iO R ?_⟩))
    by_cases cc:(decide (n2 > 0))=true
    ·replace hv:=aB hv cc
     refine mT R (cB cc) (aF (aw cd cm dC R R R ⟨R,mT R (cB cc) (aF (bb R cm fA ⟨R,mT R (cB cc) (fF R (mT R (cB cc) (aF (iA R R ⟨R,?_⟩))))⟩))⟩))
     obtain ⟨x8,s6,hv⟩:=ao hv
     refine mT R (cB cc) (aF (eG (f:=al.lv) dW cC b8 R R al.ok s6 R ⟨R,mT R (cB cc) (aF (aw e8 aD ba R R R ⟨R,mT R (cB cc) (aF (bb R aD bQ ⟨R,mT R (cB cc) (aF (aw e8 aD ba R R R ⟨R,mT R (cB cc) (aF (bb R aD bQ ⟨R,mT R (cB cc) (aF (pJ R R ⟨R,aF (aX (cB cc) (v:=(.bool _)) R ⟨R,iO R ?_⟩)⟩))⟩))⟩))⟩))⟩))⟩))
     by_cases cS:(decide (x8.ID ≥ x4.ID))=true
     ·replace hv:=aB hv cS
      refine mF R R cS (mF R R cS (mF R R cS (aF (aX (cB cS) (v:=(.bool _)) R ⟨R,?_⟩))))
      obtain rfl:=oI hv
      exact zM
     ·replace cS:=bF cS
      replace hv:=aA hv cS
      refine mT R (cB cS) (aF (bd R cC fR b8 R R ⟨R,?_⟩))
      obtain ⟨dy,qb,hv⟩:=ao hv
      refine mT R (cB cS) (aF (dQ (args:=[al.lv x4]) R Jn R (aH bn) (JF qb) R ⟨R,mT R (cB cS) (aF (kB R ⟨R,aF (aQ (cB cS) (v:=(.bool _)) R ⟨R,?_⟩)⟩))⟩))
      obtain rfl:=oI hv
      exact zM
    ·replace cc:=bF cc
     replace hv:=aA hv cc
     refine mF R R cc (mF R R cc (mF R R cc (mF R R cc (mF R R cc (mF R R cc (mF R R cc (mF R R cc (mF R R cc (mF R R cc (aF (aQ (cB cc) (v:=(.bool _)) R ⟨R,iO R (mT R R (aF (bd R cC fR b8 R R ⟨R,?_⟩)))⟩)))))))))))
     obtain ⟨cM,lH,hv⟩:=ao hv
     refine mT R R (aF (dQ (args:=[al.lv x4]) R Jn R (aH bn) (JF lH) R ⟨R,mT R R (aF (kB R ⟨R,aF (aQ R (v:=(.bool _)) R ⟨R,?_⟩)⟩))⟩))
     obtain rfl:=oI hv
     exact zM
   clear hv
   refine LH.cond (t:=w6) R (fun gP=>?_) (fun gP=>?_)
   ·replace h:=aB h gP
    refine LH.aj [(2,.bool false)] [] R (b4 R zS) (LH.ret (bB (aW (dF (bB (aW ?_))))))
    obtain rfl:=oI h
    exact aO (aT Tryz.results35) (bU R (bS ⟨aN mN,R,aZ R,Sub.rfl⟩))
   replace h:=aA h gP
   refine LH.skip (aY (au (LH.aU [(1,.ag [.ak 5 (p0.aa.map al.lv)]),(10,.ak 5 (p0.aa.map al.lv)),(11,.I (p0.aa.length:Int)),(12,.I (i64 (n2+1)))] [] R (sN (cD R R (bj R zS))) ?_)))
   exact bh ⟨(i64 (n2+1)),a7 ▸ h,R,R⟩ (Wk.eq R R R R)
  replace h:=aA h iK
  refine LH.exit (cw (bY (bO (au (LH.aj [(2,.bool true)] [] R (b4 R zS) (LH.ret ?_))))))
  obtain rfl:=oI h
  exact aO (aT Tryz.results35) (bU R (bS ⟨aN mN,R,aZ R,Sub.rfl⟩))
theorem PE {p0:ay} {c0:Int} {c1:Int} {r:Bool} (h:yi p0 c0 c1=some r):aM Tryz.prog 37 [.agg [.I p0.Version,.I p0.Form,.I p0.Time],.ag [.I c0],.ag [.I c1]] (Mem.of []) (.bool r) (Mem.of []):=by
  unfold yi at h
  refine br Tryz.func37 R (nT Tryz.ntmps37 R) (LH.wk (aS [(0,.agg [.I p0.Version,.I p0.Form,.I p0.Time]),(1,.ag [.I c0]),(2,.ag [.I c1])] []) (LH.aj [(1,.ag [.I c0]),(2,.ag [.I c1]),(3,.ag [.I p0.Version,.I p0.Form,.I p0.Time])] [] R (sB (c7 R R R R (b4 R zS))) (LH.aj [(4,.bool (decide (p0.Time > (i64 (c0 - c1)))))] [] R (sN (aw Bk aD ba R R R (sN (bb R aD bQ (sN (bb R aD bQ (sN (bb R aD bQ (sN (iA R R (sN (iP R R (b4 R zS))))))))))))) (LH.ret ?_))))
  obtain rfl:=oI h
  exact aO (aT Tryz.results37) (bU R (bS ⟨aN mN,R,aZ R,Sub.rfl⟩))
theorem JI {F:Nat} {p0:aK} {p1:Int} {p2:Int} {p3:Int} {r:List bG} (h:u7 F p0 p1 p2 p3=some r):aM Tryz.prog 16 [.agg [.ak 5 (p0.aa.map al.lv)],.I p1,.I p2,.I p3] (Mem.of []) (.ak 2 (r.map bG.lv)) (Mem.of []):=by
  unfold u7 at h
  refine br Tryz.func16 R (nT Tryz.ntmps16 R) (LH.wk (aS [(0,.agg [.ak 5 (p0.aa.map al.lv)]),(1,.I p1),(2,.I p2),(3,.I p3)] []) (LH.aj [(3,.I p3),(4,.ag [.ak 5 (p0.aa.map al.lv)]),(5,.ag [.I p1]),(6,.ag [.I p2])] [] R (sB (c7 R R R R (sB (c7 R R R R (sB (c7 R R R R (kX R zS))))))) (LH.seq ?_)))
  obtain ⟨w2,hv,h⟩:=ao h
  refine LH.aj [(3,.I p3),(4,.ag [.ak 5 (p0.aa.map al.lv)]),(5,.ag [.I p1]),(6,.ag [.I p2]),(35,.bool w2)] [] R ?_ ?_
  ·refine sN (bd R bw cF bx R R ?_)
   obtain ⟨r3,nW,hv⟩:=ao hv
   refine sN (dQ (args:=[.agg [.ak 5 (p0.aa.map al.lv)]]) R Ou R (aH bn) (P9 nW) R (sN (kB R (bD R ?_))))
   by_cases bu:(!r3)=true
   ·replace hv:=aB hv bu
    refine sF R R bu (sF R R bu (sN (aX (cB bu) (v:=(.bool _)) R (bD R (sF R R R (sF R R R (sN (aX R (v:=(.bool _)) R (bD R (sF R R R (sF R R R (sN (aX R (v:=(.bool _)) R (bD R (sF R R R (sF R R R (sN (aX R (v:=(.bool _)) R (bD R (sF R R R (sF R R R (sN (aX R (v:=(.bool _)) R ?_)))))))))))))))))))))))
    obtain rfl:=oI hv
    exact zS
   ·replace bu:=bF bu
    replace hv:=aA hv bu
    refine sT R (cB bu) (bb R aD bQ (sT R (cB bu) (fi R R (sN (aQ (cB bu) (v:=(.bool _)) R (bD R ?_))))))
    by_cases bH:(decide (p1<0))=true
    ·replace hv:=aB hv bH
     refine sF R R bH (sF R R bH (sN (aX (cB bH) (v:=(.bool _)) R (bD R (sF R R R (sF R R R (sN (aX R (v:=(.bool _)) R (bD R (sF R R R (sF R R R (sN (aX R (v:=(.bool _)) R (bD R (sF R R R (sF R R R (sN (aX R (v:=(.bool _)) R ?_))))))))))))))))))
     obtain rfl:=oI hv
     exact zS
    ·replace bH:=bF bH
     replace hv:=aA hv bH
     refine sT R (cB bH) (bb R aD bQ (sT R (cB bH) (iP R R (sN (aQ (cB bH) (v:=(.bool _)) R (bD R ?_))))))
     by_cases b3:(decide (p1 > 1000000))=true
     ·replace hv:=aB hv b3
      refine sF R R b3 (sF R R b3 (sN (aX (cB b3) (v:=(.bool _)) R (bD R (sF R R R (sF R R R (sN (aX R (v:=(.bool _)) R (bD R (sF R R R (sF R R R (sN (aX R (v:=(.bool _)) R ?_)))))))))))))
      obtain rfl:=oI hv
      exact zS
     ·replace b3:=bF b3
      replace hv:=aA hv b3
      refine sT R (cB b3) (bb R aD bQ (sT R (cB b3) (fi R R (sN (aQ (cB b3) (v:=(.bool _)) R (bD R ?_))))))
      by_cases cc:(decide (p2<0))=true
      ·replace hv:=aB hv cc
       refine sF R R cc (sF R R cc (sN (aX (cB cc) (v:=(.bool _)) R (bD R (sF R R R (sF R R R (sN (aX R (v:=(.bool _)) R ?_))))))))
       obtain rfl:=oI hv
       exact zS
      ·replace cc:=bF cc
       replace hv:=aA hv cc
       refine sT R (cB cc) (bb R aD bQ (sT R (cB cc) (iP R R (sN (aQ (cB cc) (v:=(.bool _)) R (bD R ?_))))))
       by_cases dt:(decide (p2 > 1000000))=true
       ·replace hv:=aB hv dt
        refine sF R R dt (sF R R dt (sN (aX (cB dt) (v:=(.bool _)) R ?_)))
        obtain rfl:=oI hv
        exact zS
       ·replace dt:=bF dt
        replace hv:=aA hv dt
        refine sT R (cB dt) (oM (v:=(.int _ _)) R (sT R (cB dt) (fi R R (sN (aQ (cB dt) (v:=(.bool _)) R ?_)))))
        obtain rfl:=oI hv
        exact zS
  clear hv
  refine LH.cond (t:=w2) R (fun vT=>?_) (fun vT=>?_)
  ·replace h:=aB h vT
   refine LH.aj [(8,.nil)] [] R (kX R zS) (LH.ret (aW ?_))
   obtain rfl:=oI h
   exact aO (aT Tryz.results16) (bU R (bS ⟨aN mN,R,aZ R,Sub.nil⟩))
  replace h:=aA h vT
  refine LH.skip (au (LH.aj [(3,.I p3),(4,.ag [.ak 5 (p0.aa.map al.lv)]),(5,.ag [.I p1]),(6,.ag [.I p2]),(9,.nil)] [] R (kX R zS) (LH.seq (LH.aj [(3,.I p3),(5,.ag [.I p1]),(6,.ag [.I p2]),(9,.nil),(37,.ak 5 (p0.aa.map al.lv)),(38,.I (p0.aa.length:Int)),(39,.I 0)] [] R (sN (aw cd cm dC R R R (sN (bb R cm fA (sN (bW (f:=al.lv) dW R (bj R zS))))))) (LH.block (LH.wk ((Wk.trans (aS [(3,.I p3),(5,.ag [.I p1]),(6,.ag [.I p2]),(9,.nil),(37,.ak 5 (p0.aa.map al.lv)),(38,.I (p0.aa.length:Int)),(39,.I 0)] []) (Wk.trans (aS [(3,.I p3),(5,.ag [.I p1]),(6,.ag [.I p2]),(9,.nil),(37,.ak 5 (p0.aa.map al.lv)),(38,.I (p0.aa.length:Int)),(39,.I 0)] []) (Wk.trans (Wk.tt (fy:=[(3,.I p3),(5,.ag [.I p1]),(6,.ag [.I p2]),(9,.arr 176 (List.length ([]:List bG))),(37,.ak 5 (p0.aa.map al.lv)),(38,.I (p0.aa.length:Int)),(39,.I 0)]) 176 43 2 R R (wK (wK (wK (wO (wK (wK (wK wN)))))))) (aS [(3,.I p3),(5,.ag [.I p1]),(6,.ag [.I p2]),(9,.arr 176 (List.length ([]:List bG))),(37,.ak 5 (p0.aa.map al.lv)),(38,.I (p0.aa.length:Int)),(39,.I 0)] [(176,.arr 43 2 (List.map bG.lv ([]:List bG)))]))))) (LH.loop (fun n e m=>∃ (n10:Int) (gN:List bG),A5 F p0 p1 p2 p3 n n10 gN=some r∧e=Env.of [(3,.I p3),(5,.ag [.I p1]),(6,.ag [.I p2]),(9,.arr 176 gN.length),(37,.ak 5 (p0.aa.map al.lv)),(38,.I (p0.aa.length:Int)),(39,.I n10)]∧m=Mem.of [(176,.arr 43 2 (gN.map bG.lv))]) F ⟨0,([]:List bG),h,R,R⟩ ?_)))))))
  clear h
  rintro n e m ⟨n10,gN,h,rfl,rfl⟩
  rcases n with _ | n
  · cases (show Option.none=some _ from h)
  obtain ⟨aJ,a7⟩:∃ f,f=A5 F p0 p1 p2 p3 n:=⟨_,rfl⟩
  replace h:GD F p0 p1 p2 p3 aJ n10 gN=some r:=a7 ▸ h
  unfold GD at h
  refine LH.aj [(3,.I p3),(5,.ag [.I p1]),(6,.ag [.I p2]),(9,.arr 176 gN.length),(37,.ak 5 (p0.aa.map al.lv)),(38,.I (p0.aa.length:Int)),(39,.I n10),(40,.bool (decide (n10<(p0.aa.length:Int))))] [(176,.arr 43 2 (gN.map bG.lv))] R (sN (fi R R zS)) (LH.seq (LH.cond (t:=(decide (n10<(p0.aa.length:Int)))) R (fun gP=>?_) (fun gP=>?_)))
  ·replace h:=aB h gP
   refine LH.skip (au (LH.wk (aS [(3,.I p3),(5,.ag [.I p1]),(6,.ag [.I p2]),(9,.arr 176 gN.length),(37,.ak 5 (p0.aa.map al.lv)),(38,.I (p0.aa.length:Int)),(39,.I n10)] [(176,.arr 43 2 (gN.map bG.lv))]) (LH.seq (LH.block ?_))))
   obtain ⟨fe,nI,h⟩:=ao h
   refine LH.aj [(3,.I p3),(5,.ag [.I p1]),(6,.ag [.I p2]),(9,.arr 176 gN.length),(11,.ag (al.lv fe).cells),(37,.ak 5 (p0.aa.map al.lv)),(38,.I (p0.aa.length:Int)),(39,.I n10)] [(176,.arr 43 2 (gN.map bG.lv))] R (sN (eG (f:=al.lv) dW cC b8 R R al.ok nI R (sN (bd R cC fR b8 R R (sN (iE (id:=111) R lz R R (s_ (cG R R R cC b8 R R R (s0 ((Wk.trans (aS [(3,.I p3),(5,.ag [.I p1]),(6,.ag [.I p2]),(9,.arr 176 gN.length),(11,.ptr 111 0),(37,.ak 5 (p0.aa.map al.lv)),(38,.I (p0.aa.length:Int)),(39,.I n10)] [(111,.box (al.lv fe).cells),(176,.arr 43 2 (gN.map bG.lv))]) (Wk.trans (Wk.bg 111 (al.lv fe).cells R R R (bM R)) (Wk.eq R R R R))))))))))))) (LH.seq (LH.aj [(3,.I p3),(5,.ag [.I p1]),(6,.ag [.I p2]),(9,.arr 176 gN.length),(11,.ag (al.lv fe).cells),(37,.ak 5 (p0.aa.map al.lv)),(38,.I (p0.aa.length:Int)),(39,.I n10),(51,.bool (fe.ae || (decide ((fe.Uses.length:Int) > p3))))] [(176,.arr 43 2 (gN.map bG.lv))] R ?_ ?_))
   ·refine sN (aw iW jC lC R R R (sN (bb R jC uC (bD R ?_))))
    by_cases bR:fe.ae=true
    ·exact sF R R bR (sF R R bR (sF R R bR (sF R R bR (sF R R bR (sN (aX (cB bR) (v:=(.bool _)) R (s0 (Wk.to (eC R (eC R (eC R (eC R (eC R (eC R (eC R (eC R (eC (cB (nL bR)) eN))))))))) ⟨R,trivial⟩ R (aZ R)))))))))
    ·replace bR:=bF bR
     exact sT R (cB bR) (aw dH dP gW R R R (sT R (cB bR) (bb R dP km (sT R (cB bR) (bW (f:=ay.lv) iV R (sT R (cB bR) (oM (v:=(.int _ _)) R (sT R (cB bR) (iP R R (sN (aQ (cB bR) (v:=(.bool _)) R (s0 (Wk.to (eC R (eC R (eC R (eC R (eC R (eC R (eC R (eC R (eC (cB (gz bR)) eN))))))))) ⟨R,trivial⟩ R (aZ R))))))))))))))
   refine LH.cond (t:=(fe.ae || (decide ((fe.Uses.length:Int) > p3)))) R (fun iJ=>?_) (fun iJ=>?_)
   ·replace h:=aB h iJ
    refine LH.exit (cw (bO (au (LH.aU [(3,.I p3),(5,.ag [.I p1]),(6,.ag [.I p2]),(9,.arr 176 gN.length),(37,.ak 5 (p0.aa.map al.lv)),(38,.I (p0.aa.length:Int)),(39,.I (i64 (n10+1)))] [(176,.arr 43 2 (gN.map bG.lv))] R (sN (cD R R (bj R zS))) ?_))))
    exact bh ⟨(i64 (n10+1)),gN,a7 ▸ h,R,R⟩ (Wk.eq R R R R)
   replace h:=aA h iJ
   refine LH.skip (au (LH.wk (aS [(3,.I p3),(5,.ag [.I p1]),(6,.ag [.I p2]),(9,.arr 176 gN.length),(11,.ag (al.lv fe).cells),(37,.ak 5 (p0.aa.map al.lv)),(38,.I (p0.aa.length:Int)),(39,.I n10)] [(176,.arr 43 2 (gN.map bG.lv))]) (LH.seq ?_)))
   obtain ⟨iw,KY,h⟩:=ao h
   refine LH.aj [(3,.I p3),(5,.ag [.I p1]),(6,.ag [.I p2]),(9,.arr 176 gN.length),(11,.ag (al.lv fe).cells),(37,.ak 5 (p0.aa.map al.lv)),(38,.I (p0.aa.length:Int)),(39,.I n10),(55,.bool iw)] [(176,.arr 43 2 (gN.map bG.lv))] R (sN (aw dH dP gW R R R (sN (bb R dP km (sN (Pq (vs:=[.ag [.I p1],.ag [.I p2]]) R (sN (dQ (args:=[.ak 3 (fe.Uses.map ay.lv),.fn 37 [.ag [.I p1],.ag [.I p2]]]) R Jj R (aH (aH bn)) (JB (dV:=37) (da:=[.ag [.I p1],.ag [.I p2]]) Ov R (fun _ _ h=>PE h) KY) R zS)))))))) (LH.cond (t:=iw) R (fun ke=>?_) (fun ke=>?_))
   ·replace h:=aB h ke
    refine LH.exit (cw (bO (au (LH.aU [(3,.I p3),(5,.ag [.I p1]),(6,.ag [.I p2]),(9,.arr 176 gN.length),(37,.ak 5 (p0.aa.map al.lv)),(38,.I (p0.aa.length:Int)),(39,.I (i64 (n10+1)))] [(176,.arr 43 2 (gN.map bG.lv))] R (sN (cD R R (bj R zS))) ?_))))
    exact bh ⟨(i64 (n10+1)),gN,a7 ▸ h,R,R⟩ (Wk.eq R R R R)
   replace h:=aA h ke
   refine LH.skip (au (LH.aj [(3,.I p3),(5,.ag [.I p1]),(6,.ag [.I p2]),(9,.arr 176 gN.length),(11,.ag (al.lv fe).cells),(12,.I (i64 ((fe.ah.length:Int) - 1))),(37,.ak 5 (p0.aa.map al.lv)),(38,.I (p0.aa.length:Int)),(39,.I n10)] [(176,.arr 43 2 (gN.map bG.lv))] R (sN (aw dG dX gJ R R R (sN (bb R dX lu (sN (bW (f:=LV.bool) jo R (sN (iA R R (bo R zS))))))))) (LH.block (LH.loop (fun n e m=>∃ (n19:Int),A6 aJ n10 gN fe n n19=some r∧e=Env.of [(3,.I p3),(5,.ag [.I p1]),(6,.ag [.I p2]),(9,.arr 176 gN.length),(11,.ag (al.lv fe).cells),(12,.I n19),(37,.ak 5 (p0.aa.map al.lv)),(38,.I (p0.aa.length:Int)),(39,.I n10)]∧m=Mem.of [(176,.arr 43 2 (gN.map bG.lv))]) F ⟨(i64 ((fe.ah.length:Int) - 1)),h,R,R⟩ ?_))))
   clear h
   rintro n e m ⟨n19,h,rfl,rfl⟩
   rcases n with _ | n
   · cases (show Option.none=some _ from h)
   obtain ⟨fo,eB⟩:∃ f,f=A6 aJ n10 gN fe n:=⟨_,rfl⟩
   replace h:GF aJ n10 gN fe fo n19=some r:=eB ▸ h
   unfold GF at h
   refine LH.seq (LH.aj [(3,.I p3),(5,.ag [.I p1]),(6,.ag [.I p2]),(9,.arr 176 gN.length),(11,.ag (al.lv fe).cells),(12,.I n19),(37,.ak 5 (p0.aa.map al.lv)),(38,.I (p0.aa.length:Int)),(39,.I n10),(61,.bool (decide (n19 ≥ 0)))] [(176,.arr 43 2 (gN.map bG.lv))] R (bj R (sN (pJ R R zS))) (LH.cond (t:=(decide (n19 ≥ 0))) R (fun ky=>?_) (fun ky=>?_)))
   ·replace h:=aB h ky
    refine LH.skip (au (LH.wk (aS [(3,.I p3),(5,.ag [.I p1]),(6,.ag [.I p2]),(9,.arr 176 gN.length),(11,.ag (al.lv fe).cells),(12,.I n19),(37,.ak 5 (p0.aa.map al.lv)),(38,.I (p0.aa.length:Int)),(39,.I n10)] [(176,.arr 43 2 (gN.map bG.lv))]) (LH.seq (LH.block ?_))))
    obtain ⟨xd,AE,h⟩:=ao h
    refine LH.aj [(3,.I p3),(5,.ag [.I p1]),(6,.ag [.I p2]),(9,.arr 176 gN.length),(11,.ag (al.lv fe).cells),(12,.I n19),(37,.ak 5 (p0.aa.map al.lv)),(38,.I (p0.aa.length:Int)),(39,.I n10),(68,.bool xd)] [(176,.arr 43 2 (gN.map bG.lv))] R (sN (aw dG dX gJ R R R (sN (bb R dX lu (bj R (sN (eG (f:=LV.bool) jo jC lC R R okB AE R (sN (bb R jC uC zS))))))))) (LH.cond (t:=xd) R (fun lG=>?_) (fun lG=>?_))
    ·replace h:=aB h lG
     obtain ⟨v23,AD,h⟩:=ao h
     refine LH.aj [(3,.I p3),(5,.ag [.I p1]),(6,.ag [.I p2]),(9,.arr 176 v23.length),(37,.ak 5 (p0.aa.map al.lv)),(38,.I (p0.aa.length:Int)),(39,.I n10)] [(176,.arr 43 2 (v23.map bG.lv))] R (j0 R (sN (aw e8 aD ba R R R (sN (bb R aD bQ (bj R (sN (cD R R (sN (fU (vs:=[(0,.I fe.ID),(1,.I (i64 (n19+1)))]) uD uE R (lf fJ ba aD R R R (lf dm ba aD R R R fT)) (sN (jZ (f:=bG.lv) (ys:=[(bG.mk fe.ID (i64 (n19+1)))]) G3 Qz gv R R R bG.ok (sN (nw (f:=bG.lv) G3 Qz gv R R (bM R) R AD (nM R zS))))))))))))))) (LH.exit (zU R (cw (bY (bO (aY (au (LH.aU [(3,.I p3),(5,.ag [.I p1]),(6,.ag [.I p2]),(9,.arr 176 v23.length),(37,.ak 5 (p0.aa.map al.lv)),(38,.I (p0.aa.length:Int)),(39,.I (i64 (n10+1)))] [(176,.arr 43 2 (v23.map bG.lv))] R (sN (cD R R (bj R zS))) ?_))))))))
     exact bh ⟨(i64 (n10+1)),v23,a7 ▸ h,R,R⟩ (Wk.eq R R R R)
    replace h:=aA h lG
    refine LH.skip (aY (au (LH.aU [(3,.I p3),(5,.ag [.I p1]),(6,.ag [.I p2]),(9,.arr 176 gN.length),(11,.ag (al.lv fe).cells),(12,.I (i64 (n19 - 1))),(37,.ak 5 (p0.aa.map al.lv)),(38,.I (p0.aa.length:Int)),(39,.I n10)] [(176,.arr 43 2 (gN.map bG.lv))] R (bj R (sN (iA R R (bo R zS)))) ?_)))
    exact bh ⟨(i64 (n19 - 1)),eB ▸ h,R,R⟩ (Wk.eq R R R R)
   replace h:=aA h ky
   refine LH.exit (cw (bY (bO (aY (au (LH.aU [(3,.I p3),(5,.ag [.I p1]),(6,.ag [.I p2]),(9,.arr 176 gN.length),(37,.ak 5 (p0.aa.map al.lv)),(38,.I (p0.aa.length:Int)),(39,.I (i64 (n10+1)))] [(176,.arr 43 2 (gN.map bG.lv))] R (sN (cD R R (bj R zS))) ?_))))))
   exact bh ⟨(i64 (n10+1)),gN,a7 ▸ h,R,R⟩ (Wk.eq R R R R)
  replace h:=aA h gP
  refine LH.exit (cw (bY (bO (au (LH.wk ((Wk.trans (aS [(9,.arr 176 gN.length)] [(176,.arr 43 2 (gN.map bG.lv))]) (Wk.trans (Wk.lk (f:=bG.lv) (fy:=[(9,.ak 2 (gN.map bG.lv))]) 176 43 2 gN R R (bM R) (fZ fN)) (aS [(9,.ak 2 (gN.map bG.lv))] [])))) (LH.aj [(8,.ak 2 (gN.map bG.lv))] [] R (fp R (qR R zS)) (LH.ret ?_)))))))
  obtain rfl:=oI h
  exact aO (aT Tryz.results16) (bU R (bS ⟨aN mN,R,aZ R,Sub.rfl⟩))
theorem P3 {F:Nat} {r:Bool} (h:yF F=some r):aM Tryz.prog 14 [] (Mem.of []) (.bool r) (Mem.of []):=by
  unfold yF at h
  refine br Tryz.func14 R (nT Tryz.ntmps14 R) (LH.wk (aS [] []) (LH.aj [] [] R (b4 R zS) (LH.aj [(1,.ag [.I 5,.I 1,.str (ByteArray.mk #[113]),.ak 6 (List.map aq.lv [(aq.mk 1 3 0 0 0 0)]),.nil])] [] R (sN (fU (vs:=[(0,.I 1),(1,.I 3)]) QC G9 R (lf oY ba aD R R R (lf mY ba aD R R R fT)) (sN (jZ (f:=aq.lv) (ys:=[(aq.mk 1 3 0 0 0 0)]) gu Bl dJ R R R aq.ok (sN (fU (vs:=[(0,.I 5),(1,.I 1),(2,.str (ByteArray.mk #[113])),(3,.ak 6 (List.map aq.lv [(aq.mk 1 3 0 0 0 0)]))]) G7 mr R (lf e9 ba aD R R R (lf fL ba aD R R R (lf gV xc o8 R R R (lf cZ fC c8 R R R fT)))) (sN (iE (id:=101) R mr R R (s_ (cG R R R bT bN R R R (s0 ((Wk.trans (aS [(1,.ptr 101 0)] [(101,.box [.I 5,.I 1,.str (ByteArray.mk #[113]),.ak 6 (List.map aq.lv [(aq.mk 1 3 0 0 0 0)]),.nil])]) (Wk.trans (Wk.bg 101 [.I 5,.I 1,.str (ByteArray.mk #[113]),.ak 6 (List.map aq.lv [(aq.mk 1 3 0 0 0 0)]),.nil] R R R (bM R)) (Wk.eq R R R R))))))))))))))) (LH.aj [(2,.ak 12 (List.map ax.lv ([(ax.mk (aL.mk 3 0 2) 4 (ai.mk 0 0 (ByteArray.mk #[]) [] []) (bG.mk 5 1) 9),(ax.mk (aL.mk 1 0 0) 1 (ai.mk 5 1 (ByteArray.mk #[113]) [(aq.mk 1 3 0 0 0 0)] []) (bG.mk 0 0) 0),(ax.mk (aL.mk 2 0 1) 3 (ai.mk 0 0 (ByteArray.mk #[]) [] []) (bG.mk 5 1) 0)])))] [] R (sN (fU (vs:=[(0,.I 3),(2,.I 2)]) G8 uF R (lf fa ba aD R R R (lf dI ba aD R R R fT)) (sN (fU (vs:=[(0,.I 5),(1,.I 1)]) uD uE R (lf fJ ba aD R R R (lf dm ba aD R R R fT)) (sN (fU (vs:=[(0,.agg [.I 3,.I 0,.I 2]),(1,.I 4),(3,.agg [.I 5,.I 1]),(4,.I 9)]) IC zn R (lf dh b7 cg R R R (lf fb ba aD R R R (lf eV gv gH R R R (lf kY ba aD R R R fT)))) (sN (fU (vs:=[(0,.I 1)]) G8 uF R (lf fa ba aD R R R fT) (sN (bd R bT dO bN R R (sN (fU (vs:=[(0,.agg [.I 1,.I 0,.I 0]),(1,.I 1),(2,.agg [.I 5,.I 1,.str (ByteArray.mk #[113]),.ak 6 (List.map aq.lv [(aq.mk 1 3 0 0 0 0)]),.nil])]) IC zn R (lf dh b7 cg R R R (lf fb ba aD R R R (lf fc bN bT R R R fT))) (sN (fU (vs:=[(0,.I 2),(2,.I 1)]) G8 uF R (lf fa ba aD R R R (lf dI ba aD R R R fT)) (sN (fU (vs:=[(0,.I 5),(1,.I 1)]) uD uE R (lf fJ ba aD R R R (lf dm ba aD R R R fT)) (sN (fU (vs:=[(0,.agg [.I 2,.I 0,.I 1]),(1,.I 3),(3,.agg [.I 5,.I 1])]) IC zn R (lf dh b7 cg R R R (lf fb ba aD R R R (lf eV gv gH R R R fT))) (sX (LL (f:=ax.lv) (ys:=[(ax.mk (aL.mk 3 0 2) 4 (ai.mk 0 0 (ByteArray.mk #[]) [] []) (bG.mk 5 1) 9),(ax.mk (aL.mk 1 0 0) 1 (ai.mk 5 1 (ByteArray.mk #[113]) [(aq.mk 1 3 0 0 0 0)] []) (bG.mk 0 0) 0),(ax.mk (aL.mk 2 0 1) 3 (ai.mk 0 0 (ByteArray.mk #[]) [] []) (bG.mk 5 1) 0)]) gA zi eA R R R (TF R R R (TF R R R (TF R R R Ww))) (o7 (Sub.agg (aH (aH (aH (aH (aH (aH (aH (oV (oV (aH (aH (aH bn))))))))))))) (o7 (Sub.agg (aH (aH (aH (aH (aH (aH (aH (aH (oV (aH (aH (aH bn))))))))))))) (o7 (Sub.agg (aH (aH (aH (aH (aH (aH (aH (oV (oV (aH (aH (aH bn))))))))))))) bn))) ax.ok) (qR R zS)))))))))))))))))))) ?_))))
  obtain ⟨r1,ee,h⟩:=ao h
  refine LH.aj [(3,.ag [.ak 5 (r1.1.aa.map al.lv)]),(4,.ak 3 (r1.2.1.map cj.lv)),(5,.I r1.2.2)] [] R (fp R (sN (dQ (args:=[.ak 12 (List.map ax.lv ([(ax.mk (aL.mk 3 0 2) 4 (ai.mk 0 0 (ByteArray.mk #[]) [] []) (bG.mk 5 1) 9),(ax.mk (aL.mk 1 0 0) 1 (ai.mk 5 1 (ByteArray.mk #[113]) [(aq.mk 1 3 0 0 0 0)] []) (bG.mk 0 0) 0),(ax.mk (aL.mk 2 0 1) 3 (ai.mk 0 0 (ByteArray.mk #[]) [] []) (bG.mk 5 1) 0)])),.I 100]) R Oe R (aH (aH bn)) (Qe ee) R (rR R (sN (gy R R (sN (gy R R (sN (gy R R (sN (iE (id:=103) R fM R R (s_ (cG R R R bw bx R R R (qR R (bo R (s0 ((Wk.trans (aS [(3,.ptr 103 0),(4,.ak 3 (r1.2.1.map cj.lv)),(5,.I r1.2.2)] [(103,.box [.ak 5 (r1.1.aa.map al.lv)])]) (Wk.trans (Wk.bg 103 [.ak 5 (r1.1.aa.map al.lv)] R R R (bM R)) (Wk.eq R R R R))))))))))))))))))))) ?_
  obtain ⟨r2,fD,h⟩:=ao h
  refine LH.aj [(3,.ag [.ak 5 (r1.1.aa.map al.lv)]),(4,.ak 3 (r1.2.1.map cj.lv)),(5,.I r1.2.2),(6,.ak 2 (r2.map bG.lv))] [] R (sN (bd R bw cF bx R R (sN (dQ (args:=[.agg [.ak 5 (r1.1.aa.map al.lv)],.I 10,.I 7,.I 1]) R Jf R (aH (aH (aH (aH bn)))) (JI fD) R (qR R zS))))) ?_
  obtain ⟨w4,hv,h⟩:=ao h
  refine LH.aj [(0,.bool w4)] [] R ?_ ?_
  ·refine bj R (sN (gp R R (bD R ?_)))
   by_cases bH:(r1.2.2 == 0)=true
   ·replace hv:=aB hv bH
    refine sT R (cB bH) (oM (v:=(.ak _ _)) R (sT R (cB bH) (bW (f:=cj.lv) mO R (sT R (cB bH) (gp R R (sN (aX (cB bH) (v:=(.bool _)) R (bD R ?_))))))))
    by_cases b3:((r1.2.1.length:Int) == 0)=true
    ·replace hv:=aB hv b3
     refine sT R (cB b3) (oM (v:=(.ak _ _)) R (sT R (cB b3) (bW (f:=bG.lv) G3 R (sT R (cB b3) (gp R R (sN (aX (cB b3) (v:=(.bool _)) R (bD R ?_))))))))
     by_cases cc:((r2.length:Int) == 1)=true
     ·replace hv:=aB hv cc
      refine sT R (cB cc) (oM (v:=(.ak _ _)) R ?_)
      obtain ⟨x8,s6,hv⟩:=ao hv
      refine sT R (cB cc) (eG (f:=bG.lv) G3 gH gv R R bG.ok s6 R (sT R (cB cc) (bd R gH wL gv R R (sT R (cB cc) (fU (vs:=[(0,.I 5),(1,.I 1)]) uD uE R (lf fJ ba aD R R R (lf dm ba aD R R R fT)) (sT R (cB cc) (Da R R (J6 x8 (bG.mk 5 1)) (sN (aX (cB cc) (v:=(.bool _)) R (bD R ?_))))))))))
      by_cases cS:(decide (x8=(bG.mk 5 1)))=true
      ·replace hv:=aB hv cS
       refine sT R (cB cS) (bd R bw cF bx R R ?_)
       obtain ⟨dy,qb,hv⟩:=ao hv
       refine sT R (cB cS) (dQ (args:=[.agg [.ak 5 (r1.1.aa.map al.lv)],.I 10,.I 8,.I 1]) R Jf R (aH (aH (aH (aH bn)))) (JI qb) R (sT R (cB cS) (bW (f:=bG.lv) G3 R (sT R (cB cS) (gp R R (sN (aX (cB cS) (v:=(.bool _)) R (b4 R ?_))))))))
       obtain rfl:=oI hv
       exact zS
      ·replace cS:=bF cS
       replace hv:=aA hv cS
       refine sF R R cS (sF R R cS (sF R R cS (sF R R cS (sN (aQ (cB cS) (v:=(.bool _)) R (b4 R ?_))))))
       obtain rfl:=oI hv
       exact zS
     ·replace cc:=bF cc
      replace hv:=aA hv cc
      refine sF R R cc (sF R R cc (sF R R cc (sF R R cc (sF R R cc (sN (aQ (cB cc) (v:=(.bool _)) R (bD R (sF R R R (sF R R R (sF R R R (sF R R R (sN (aQ R (v:=(.bool _)) R (b4 R ?_))))))))))))))
      obtain rfl:=oI hv
      exact zS
    ·replace b3:=bF b3
     replace hv:=aA hv b3
     refine sF R R b3 (sF R R b3 (sF R R b3 (sN (aQ (cB b3) (v:=(.bool _)) R (bD R (sF R R R (sF R R R (sF R R R (sF R R R (sF R R R (sN (aQ R (v:=(.bool _)) R (bD R (sF R R R (sF R R R (sF R R R (sF R R R (sN (aQ R (v:=(.bool _)) R (b4 R ?_))))))))))))))))))))
     obtain rfl:=oI hv
     exact zS
   ·replace bH:=bF bH
    replace hv:=aA hv bH
    refine sF R R bH (sF R R bH (sF R R bH (sN (aQ (cB bH) (v:=(.bool _)) R (bD R (sF R R R (sF R R R (sF R R R (sN (aQ R (v:=(.bool _)) R (bD R (sF R R R (sF R R R (sF R R R (sF R R R (sF R R R (sN (aQ R (v:=(.bool _)) R (bD R (sF R R R (sF R R R (sF R R R (sF R R R (sN (aQ R (v:=(.bool _)) R (b4 R ?_))))))))))))))))))))))))))
    obtain rfl:=oI hv
    exact zS
  clear hv
  refine LH.ret ?_
  obtain rfl:=oI h
  exact aO (aT Tryz.results14) (bU R (bS ⟨aN mN,R,aZ R,Sub.rfl⟩))
end Go.Proofs.YtmollikhdbaikaaGreat
