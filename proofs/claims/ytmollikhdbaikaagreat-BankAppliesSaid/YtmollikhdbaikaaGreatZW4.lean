import Derived.Test.YtmollikhdbaikaaGreatZW3
set_option linter.unusedVariables false
set_option linter.unusedSimpArgs false
set_option maxRecDepth 100000
set_option maxHeartbeats 1000000
namespace Go.Proofs.YtmollikhdbaikaaGreat
open Go.L Go.Sh
theorem yN {F:Nat} {p0:aG} {p1:Int} {r:Int} (h:wI F p0 p1=some r):aO Tryz.prog 40 [.agg [.al 5 (p0.aa.map ak.lv)],.I p1] (Mem.of []) (.I r) (Mem.of []):=by
  unfold wI at h
  refine bx Tryz.func40 R (nT Tryz.ntmps40 R) (LH.wk (aQ [(0,.agg [.al 5 (p0.aa.map ak.lv)]),(1,.I p1)] []) (LH.aj [(1,.I p1),(2,.ag [.al 5 (p0.aa.map ak.lv)])] [] R (sB (de R R R R (bt R zS))) (LH.seq (LH.aj [(1,.I p1),(2,.ag [.al 5 (p0.aa.map ak.lv)]),(5,.I 0)] [] R (bt R zS) (LH.block (LH.loop (fun n e m=>∃ (n1:Int),DR p0 p1 n n1=some r∧e=Env.of [(1,.I p1),(2,.ag [.al 5 (p0.aa.map ak.lv)]),(5,.I n1)]∧m=Mem.of []) F ⟨0,h,R,R⟩ ?_))))))
  clear h
  rintro n e m ⟨n1,h,rfl,rfl⟩
  rcases n with _ | n
  · cases (show Option.none=some _ from h)
  obtain ⟨aK,a7⟩:∃ f,f=DR p0 p1 n:=⟨_,rfl⟩
  replace h:yA p0 p1 aK n1=some r:=a7 ▸ h
  unfold yA at h
  refine LH.seq (LH.aj [(1,.I p1),(2,.ag [.al 5 (p0.aa.map ak.lv)]),(5,.I n1),(10,.bool (decide (n1<(p0.aa.length:Int))))] [] R (br R (sN (aw bX bZ dq R R R (sN (bh R bZ e8 (sN (bV (f:=ak.lv) dE R (sN (fy R R zS))))))))) (LH.cond (t:=(decide (n1<(p0.aa.length:Int)))) R (fun fG=>?_) (fun fG=>?_)))
  ·replace h:=aB h fG
   refine LH.skip (au (LH.wk (aQ [(1,.I p1),(2,.ag [.al 5 (p0.aa.map ak.lv)]),(5,.I n1)] []) (LH.seq (LH.block ?_))))
   obtain ⟨x3,gj,h⟩:=ao h
   refine LH.aj [(1,.I p1),(2,.ag [.al 5 (p0.aa.map ak.lv)]),(5,.I n1),(20,.bool (x3.ID == p1))] [] R (sN (aw bX bZ dq R R R (sN (bh R bZ e8 (br R (sN (eM (f:=ak.lv) dE cT cz R R ak.ok gj R (sN (aw fO aE bb R R R (sN (bh R aE bN (br R (sN (gr R R zS)))))))))))))) (LH.cond (t:=(x3.ID == p1)) R (fun hT=>?_) (fun hT=>?_))
   ·replace h:=aB h hT
    refine LH.aj [(4,.I n1)] [] R (br R (bt R zS)) (LH.ret (bD (aU (dW (bD (aU ?_))))))
    obtain rfl:=oI h
    exact aN (aT Tryz.results40) (bO R (bL ⟨aM mN,R,aX R,Sub.rfl⟩))
   replace h:=aA h hT
   refine LH.skip (aY (au (LH.aS [(1,.I p1),(2,.ag [.al 5 (p0.aa.map ak.lv)]),(5,.I (i64 (n1+1)))] [] R (br R (sN (cI R R (bt R zS)))) ?_)))
   exact bl ⟨(i64 (n1+1)),a7 ▸ h,R,R⟩ (Wk.eq R R R R)
  replace h:=aA h fG
  refine LH.exit (cD (b6 (bP (au (LH.aj [(4,.I (-1))] [] R (bt R zS) (LH.ret ?_))))))
  obtain rfl:=oI h
  exact aN (aT Tryz.results40) (bO R (bL ⟨aM mN,R,aX R,Sub.rfl⟩))
theorem aq.rel {q:Bool} (z:aq):Rel q (aq.lv z) (aq.lv z):=Rel.agg (eY Rel.int (eY Rel.int (eY Rel.int (eY Rel.int (eY Rel.int (eY Rel.int lX))))))
theorem ai.rel {q:Bool} (z:ai):Rel q (ai.lv z) (ai.lv z):=Rel.agg (eY Rel.int (eY Rel.int (eY Rel.str (eY (Rel.al aq.rel (fun _=>rfl)) (eY (Rel.al (fun _=>Rel.int) (fun _=>rfl)) lX)))))
theorem ay.rel {q:Bool} (z:ay):Rel q (ay.lv z) (ay.lv z):=Rel.agg (eY Rel.int (eY Rel.int (eY Rel.int lX)))
theorem ak.rel {q:Bool} (z:ak):Rel q (ak.lv z) (ak.lv z):=Rel.agg (eY Rel.int (eY (Rel.al ai.rel (fun _=>rfl)) (eY (Rel.al (fun _=>Rel.bool) (fun _=>rfl)) (eY (Rel.al ay.rel (fun _=>rfl)) (eY Rel.bool lX)))))
def ak.lt (T:Bool) (x:ak):LV:=.agg [.I x.ID,.al 5 (x.ab.map ai.lv),.aJ T 4 1 (x.ah.map LV.bool),.aJ T 88 3 (x.Uses.map ay.lv),.bool x.ae]
theorem ak.Cj {T:Bool}:qm 5 (ak.lt T):=fun _=>⟨rfl,rfl,rfl⟩
theorem ak.p5 {T:Bool} (x:ak):Rel true (ak.lt T x) (ak.lv x):=Rel.agg (eY Rel.int (eY (Rel.al ai.rel (fun _=>rfl)) (eY (Rel.aJ (fun _=>Rel.bool) (fun _=>rfl)) (eY (Rel.aJ ay.rel (fun _=>rfl)) (eY Rel.bool lX)))))
theorem ak.T9 (x:ak):Sub (ak.lv x) (ak.lt false x):=Sub.agg (aI (aI (lj Sub.Ii (lj Sub.Ii (aI bm)))))
theorem ak.T8 (x:ak):Sub (ak.lt false x) (ak.lv x):=Sub.agg (aI (aI (lj Sub.IL (lj Sub.IL (aI bm)))))
theorem yP {T:Bool} {F:Nat} {p0:aG} {p1:ak} {r:aG} (h:uI F p0 p1=some r):aO Tryz.prog 71 [.agg [.aJ T 49 5 (List.map (ak.lt T) p0.aa)],.agg [.I p1.ID,.al 5 (p1.ab.map ai.lv),.aJ T 4 1 (p1.ah.map LV.bool),.aJ T 88 3 (p1.Uses.map ay.lv),.bool p1.ae]] (Mem.of []) (.agg [.aJ T 49 5 (List.map (ak.lt T) r.aa)]) (Mem.of []):=by
  unfold uI at h
  refine bx Tryz.func71 R (nT Tryz.ntmps71 R) (LH.wk (aQ [(0,.agg [.aJ T 49 5 (List.map (ak.lt T) p0.aa)]),(1,.agg [.I p1.ID,.al 5 (p1.ab.map ai.lv),.aJ T 4 1 (p1.ah.map LV.bool),.aJ T 88 3 (p1.Uses.map ay.lv),.bool p1.ae])] []) (LH.aj [(2,.ag [.aJ T 49 5 (List.map (ak.lt T) p0.aa)]),(3,.ag [.I p1.ID,.al 5 (p1.ab.map ai.lv),.aJ T 4 1 (p1.ah.map LV.bool),.aJ T 88 3 (p1.Uses.map ay.lv),.bool p1.ae]),(4,.ptr 104 0)] [(104,.box [.nil])] R (sB (de R R R R (sB (de R R R R (sN (j0 (id:=104) R dH R R zS)))))) (LH.aj [(2,.ag [.aJ T 49 5 (List.map (ak.lt T) p0.aa)]),(3,.ag [.I p1.ID,.al 5 (p1.ab.map ai.lv),.aJ T 4 1 (p1.ah.map LV.bool),.aJ T 88 3 (p1.Uses.map ay.lv),.bool p1.ae]),(4,.ptr 104 0),(5,.ptr 105 0)] [(104,.box [.nil]),(105,.box [.nil])] R (sN (j0 (id:=105) R dH R R zS)) (LH.aj [(2,.ag [.aJ T 49 5 (List.map (ak.lt T) p0.aa)]),(3,.ag [.I p1.ID,.al 5 (p1.ab.map ai.lv),.aJ T 4 1 (p1.ah.map LV.bool),.aJ T 88 3 (p1.Uses.map ay.lv),.bool p1.ae]),(4,.ptr 104 0),(5,.ptr 105 0),(6,.bool false)] [(104,.box [.nil]),(105,.box [.nil])] R (ct R zS) (LH.seq (LH.aj [(2,.ag [.aJ T 49 5 (List.map (ak.lt T) p0.aa)]),(3,.ag [.I p1.ID,.al 5 (p1.ab.map ai.lv),.aJ T 4 1 (p1.ah.map LV.bool),.aJ T 88 3 (p1.Uses.map ay.lv),.bool p1.ae]),(4,.ptr 104 0),(5,.ptr 105 0),(6,.bool false),(7,.I 0)] [(104,.box [.nil]),(105,.box [.nil])] R (bt R zS) (LH.block (LH.wk ((Wk.trans (aQ [(2,.ag [.aJ T 49 5 (List.map (ak.lt T) p0.aa)]),(3,.ag [.I p1.ID,.al 5 (p1.ab.map ai.lv),.aJ T 4 1 (p1.ah.map LV.bool),.aJ T 88 3 (p1.Uses.map ay.lv),.bool p1.ae]),(4,.ptr 104 0),(5,.ptr 105 0),(6,.bool false),(7,.I 0)] [(104,.box [.nil]),(105,.box [.nil])]) (Wk.trans (aQ [(2,.ag [.aJ T 49 5 (List.map (ak.lt T) p0.aa)]),(3,.ag [.I p1.ID,.al 5 (p1.ab.map ai.lv),.aJ T 4 1 (p1.ah.map LV.bool),.aJ T 88 3 (p1.Uses.map ay.lv),.bool p1.ae]),(4,.ptr 104 0),(5,.ptr 105 0),(6,.bool false),(7,.I 0)] [(104,.box [.nil]),(105,.box [.nil])]) (Wk.trans (Wk.vf 132 49 5 105 0 R R R R R (bH R)) (aQ [(2,.ag [.aJ T 49 5 (List.map (ak.lt T) p0.aa)]),(3,.ag [.I p1.ID,.al 5 (p1.ab.map ai.lv),.aJ T 4 1 (p1.ah.map LV.bool),.aJ T 88 3 (p1.Uses.map ay.lv),.bool p1.ae]),(4,.ptr 104 0),(5,.ptr 105 0),(6,.bool false),(7,.I 0)] [(104,.box [.nil]),(105,.box [.arr 132 (List.length ([]:List ak))]),(132,.arr 49 5 (List.map (ak.lt T) ([]:List ak)))]))))) (LH.loop (fun n e m=>∃ (b1:Bool) (n2:Int) (l3:List ak),ze p0 p1 n b1 n2 l3=some r∧e=Env.of [(2,.ag [.aJ T 49 5 (List.map (ak.lt T) p0.aa)]),(3,.ag [.I p1.ID,.al 5 (p1.ab.map ai.lv),.aJ T 4 1 (p1.ah.map LV.bool),.aJ T 88 3 (p1.Uses.map ay.lv),.bool p1.ae]),(4,.ptr 104 0),(5,.ptr 105 0),(6,.bool b1),(7,.I n2)]∧m=Mem.of [(104,.box [.nil]),(105,.box [.arr 132 l3.length]),(132,.arr 49 5 (List.map (ak.lt T) l3))]) F ⟨false,0,([]:List ak),h,R,R⟩ ?_)))))))))
  clear h
  rintro n e m ⟨b1,n2,l3,h,rfl,rfl⟩
  rcases n with _ | n
  · cases (show Option.none=some _ from h)
  obtain ⟨aK,a7⟩:∃ f,f=ze p0 p1 n:=⟨_,rfl⟩
  replace h:yI p0 p1 aK b1 n2 l3=some r:=a7 ▸ h
  unfold yI at h
  refine LH.seq (LH.aj [(2,.ag [.aJ T 49 5 (List.map (ak.lt T) p0.aa)]),(3,.ag [.I p1.ID,.al 5 (p1.ab.map ai.lv),.aJ T 4 1 (p1.ah.map LV.bool),.aJ T 88 3 (p1.Uses.map ay.lv),.bool p1.ae]),(4,.ptr 104 0),(5,.ptr 105 0),(6,.bool b1),(7,.I n2),(12,.bool (decide (n2<(p0.aa.length:Int))))] [(104,.box [.nil]),(105,.box [.arr 132 l3.length]),(132,.arr 49 5 (List.map (ak.lt T) l3))] R (br R (sN (aw bX bZ dq R R R (sN (bh R bZ e8 (sX ((tu (f:=(ak.lt T)) dE R).ok) (sN (fy R R zS)))))))) (LH.cond (t:=(decide (n2<(p0.aa.length:Int)))) R (fun hT=>?_) (fun hT=>?_)))
  ·replace h:=aB h hT
   refine LH.skip (au (LH.wk (aQ [(2,.ag [.aJ T 49 5 (List.map (ak.lt T) p0.aa)]),(3,.ag [.I p1.ID,.al 5 (p1.ab.map ai.lv),.aJ T 4 1 (p1.ah.map LV.bool),.aJ T 88 3 (p1.Uses.map ay.lv),.bool p1.ae]),(4,.ptr 104 0),(5,.ptr 105 0),(6,.bool b1),(7,.I n2)] [(104,.box [.nil]),(105,.box [.arr 132 l3.length]),(132,.arr 49 5 (List.map (ak.lt T) l3))]) (LH.seq (LH.block (LH.mid (fun e m=>∃ (b5:Bool) (l6:List ak),vv aK p0 p1 n2 b5 l6=some r∧Wk (fun id=>Mem.of [] id ≠ .none) e m (Env.of [(2,.ag [.aJ T 49 5 (List.map (ak.lt T) p0.aa)]),(3,.ag [.I p1.ID,.al 5 (p1.ab.map ai.lv),.aJ T 4 1 (p1.ah.map LV.bool),.aJ T 88 3 (p1.Uses.map ay.lv),.bool p1.ae]),(4,.ptr 104 0),(5,.ptr 105 0),(6,.bool b5),(7,.I n2)]) (Mem.of [(104,.box [.nil]),(105,.box [.arr 132 l6.length]),(132,.arr 49 5 (List.map (ak.lt T) l6))])) ?_ ?_)))))
   ·obtain ⟨IV,hv,h⟩:=ao h
    refine LH.cO mixed [] [0,0,0,0,0,0,4,4,4,0,0,0,0] [(2,.ag [.aJ T 49 5 (List.map (ak.lt T) p0.aa)]),(3,.ag [.I p1.ID,.al 5 (p1.ab.map ai.lv),.aJ T 4 1 (p1.ah.map LV.bool),.aJ T 88 3 (p1.Uses.map ay.lv),.bool p1.ae]),(4,.ptr 104 0),(5,.ptr 105 0),(6,.bool b1),(7,.I n2),(27,.bool IV)] [(104,.box [.nil]),(105,.box [.arr 132 l3.length]),(132,.arr 49 5 (List.map (ak.lt T) l3))] R R (by kernel_rfl) ?_ ?_
    ·refine iQ R (aD (ic R ⟨R,iQ R ?_⟩))
     by_cases bQ:(!b1)=true
     ·replace hv:=aB hv bQ
      refine mT R (cB bQ) (aD (aw bX bZ dq R R R ⟨R,mT R (cB bQ) (aD (bh R bZ e8 ⟨R,mT R (cB bQ) (fC R ?_)⟩))⟩))
      obtain ⟨og,FM,hv⟩:=ao hv
      refine mT R (cB bQ) (mM (fun _=>iT (f:=(ak.lt T)) dE cT cz R R ak.Cj FM R) (mT R (cB bQ) (mM (fun _=>tt fO aE bb R R R) (mT R (cB bQ) (mM (fun _=>o4 R aE bN) (mT R (cB bQ) (aD (aw fO aE bb R R R ⟨R,mT R (cB bQ) (aD (bh R aE bN ⟨R,mT R (cB bQ) (aD (pW R R ⟨R,aD (aZ (cB bQ) (v:=(.bool _)) R ⟨R,?_⟩)⟩))⟩))⟩))))))))
      obtain rfl:=oI hv
      exact zM
     ·replace bQ:=bF bQ
      replace hv:=aA hv bQ
      refine mF R R bQ (mF R R bQ (mF R R bQ (mF R R bQ (mF R R bQ (mF R R bQ (mF R R bQ (mF R R bQ (mF R R bQ (aD (aW (cB bQ) (v:=(.bool _)) R ⟨R,?_⟩))))))))))
      obtain rfl:=oI hv
      exact zM
    clear hv
    refine LH.cond (t:=IV) R (fun kD=>?_) (fun kD=>?_)
    ·replace h:=aB h kD
     obtain ⟨Er,LB,h⟩:=ao h
     exact LH.aj [(2,.ag [.aJ T 49 5 (List.map (ak.lt T) p0.aa)]),(3,.ag [.I p1.ID,.al 5 (p1.ab.map ai.lv),.aJ T 4 1 (p1.ah.map LV.bool),.aJ T 88 3 (p1.Uses.map ay.lv),.bool p1.ae]),(4,.ptr 104 0),(5,.ptr 105 0),(7,.I n2)] [(104,.box [.nil]),(105,.box [.arr 132 Er.length]),(132,.arr 49 5 (List.map (ak.lt T) Er))] R (sN (dI bX bZ dq R R (sN (dQ R R R R bZ e8 (sN (bc R cT il cz R R (sN (ka (f:=(ak.lt T)) (ys:=[p1]) dE p9 cz R R R ak.Cj (sN (nL (f:=(ak.lt T)) dE p9 cz R R (bH R) R LB (sN (dI bX bZ dq R R (s_ (cF R R R bZ dq R R R zS)))))))))))))) (LH.aS [(2,.ag [.aJ T 49 5 (List.map (ak.lt T) p0.aa)]),(3,.ag [.I p1.ID,.al 5 (p1.ab.map ai.lv),.aJ T 4 1 (p1.ah.map LV.bool),.aJ T 88 3 (p1.Uses.map ay.lv),.bool p1.ae]),(4,.ptr 104 0),(5,.ptr 105 0),(6,.bool true),(7,.I n2)] [(104,.box [.nil]),(105,.box [.arr 132 Er.length]),(132,.arr 49 5 (List.map (ak.lt T) Er))] R (ct R zS) (au ⟨true,Er,h,Wk.eq R R R R⟩))
    replace h:=aA h kD
    exact LH.skip (au ⟨b1,l3,h,Wk.eq R R R R⟩)
   clear h
   rintro e m ⟨b5,l6,h,hw⟩
   refine LH.wk hw ?_
   clear hw
   unfold vv at h
   obtain ⟨x7,xm,h⟩:=ao h
   refine LH.cO mixed [] [0,0,0,4,4,4,0,0,0] [(2,.ag [.aJ T 49 5 (List.map (ak.lt T) p0.aa)]),(3,.ag [.I p1.ID,.al 5 (p1.ab.map ai.lv),.aJ T 4 1 (p1.ah.map LV.bool),.aJ T 88 3 (p1.Uses.map ay.lv),.bool p1.ae]),(4,.ptr 104 0),(5,.ptr 105 0),(6,.bool b5),(7,.I n2),(42,.bool (x7.ID != p1.ID))] [(104,.box [.nil]),(105,.box [.arr 132 l6.length]),(132,.arr 49 5 (List.map (ak.lt T) l6))] R R (by kernel_rfl) (aD (aw bX bZ dq R R R ⟨R,aD (bh R bZ e8 ⟨R,fC R (mM (fun _=>iT (f:=(ak.lt T)) dE cT cz R R ak.Cj xm R) (mM (fun _=>tt fO aE bb R R R) (mM (fun _=>o4 R aE bN) (aD (aw fO aE bb R R R ⟨R,aD (bh R aE bN ⟨R,aD (iR R R ⟨R,zM⟩)⟩)⟩)))))⟩)⟩)) (LH.cond (t:=(x7.ID != p1.ID)) R (fun kY=>?_) (fun kY=>?_))
   ·replace h:=aB h kY
    obtain ⟨x9,xn,h⟩:=ao h
    obtain ⟨v10,FE,h⟩:=ao h
    refine LH.ti mixed [] [0,1105,0,0,0,4,4,0,2,0,100105] [(2,.ag [.aJ T 49 5 (List.map (ak.lt T) p0.aa)]),(3,.ag [.I p1.ID,.al 5 (p1.ab.map ai.lv),.aJ T 4 1 (p1.ah.map LV.bool),.aJ T 88 3 (p1.Uses.map ay.lv),.bool p1.ae]),(4,.ptr 104 0),(5,.ptr 105 0),(6,.bool b5),(7,.I n2)] [(104,.box [.nil]),(105,.box [.arr 132 v10.length]),(132,.arr 49 5 (List.map (ak.lt T) v10))] R R (by kernel_rfl) ?_ ?_
    ·refine aD (dI bX bZ dq R R ⟨R,mD R R R (fun _ b _ d=>dQ R b R R bZ e8 d) (aD (aw bX bZ dq R R R ⟨R,aD (bh R bZ e8 ⟨R,fC R (mM (fun _=>iT (f:=(ak.lt T)) dE cT cz R R ak.Cj xn R) (mM (fun _=>nN R cT il cz R R) ?_))⟩)⟩))⟩)
     exact aD (ka (f:=(ak.lt T)) (ys:=[x9]) dE p9 cz R R R ak.Cj ⟨R,yh (nL (f:=(ak.lt T)) dE p9 cz R R (bH R) R FE (aD (dI bX bZ dq R R ⟨R,mS R R R (fun _ b _ d=>cF R R R bZ dq b R R d) zM⟩)))⟩)
    refine aY (au (LH.aS [(2,.ag [.aJ T 49 5 (List.map (ak.lt T) p0.aa)]),(3,.ag [.I p1.ID,.al 5 (p1.ab.map ai.lv),.aJ T 4 1 (p1.ah.map LV.bool),.aJ T 88 3 (p1.Uses.map ay.lv),.bool p1.ae]),(4,.ptr 104 0),(5,.ptr 105 0),(6,.bool b5),(7,.I (i64 (n2+1)))] [(104,.box [.nil]),(105,.box [.arr 132 v10.length]),(132,.arr 49 5 (List.map (ak.lt T) v10))] R (br R (sN (cI R R (bt R zS)))) ?_))
    exact bl ⟨b5,(i64 (n2+1)),v10,a7 ▸ h,R,R⟩ (Wk.eq R R R R)
   replace h:=aA h kY
   refine LH.skip (aY (au (LH.aS [(2,.ag [.aJ T 49 5 (List.map (ak.lt T) p0.aa)]),(3,.ag [.I p1.ID,.al 5 (p1.ab.map ai.lv),.aJ T 4 1 (p1.ah.map LV.bool),.aJ T 88 3 (p1.Uses.map ay.lv),.bool p1.ae]),(4,.ptr 104 0),(5,.ptr 105 0),(6,.bool b5),(7,.I (i64 (n2+1)))] [(104,.box [.nil]),(105,.box [.arr 132 l6.length]),(132,.arr 49 5 (List.map (ak.lt T) l6))] R (br R (sN (cI R R (bt R zS)))) ?_)))
   exact bl ⟨b5,(i64 (n2+1)),l6,a7 ▸ h,R,R⟩ (Wk.eq R R R R)
  replace h:=aA h hT
  refine LH.exit (cD (b6 (bP (au (LH.wk (aQ [(3,.ag [.I p1.ID,.al 5 (p1.ab.map ai.lv),.aJ T 4 1 (p1.ah.map LV.bool),.aJ T 88 3 (p1.Uses.map ay.lv),.bool p1.ae]),(4,.ptr 104 0),(5,.ptr 105 0),(6,.bool b1)] [(104,.box [.nil]),(105,.box [.arr 132 l3.length]),(132,.arr 49 5 (List.map (ak.lt T) l3))]) (LH.seq (LH.aj [(3,.ag [.I p1.ID,.al 5 (p1.ab.map ai.lv),.aJ T 4 1 (p1.ah.map LV.bool),.aJ T 88 3 (p1.Uses.map ay.lv),.bool p1.ae]),(4,.ptr 104 0),(5,.ptr 105 0),(54,.bool (!b1))] [(104,.box [.nil]),(105,.box [.arr 132 l3.length]),(132,.arr 49 5 (List.map (ak.lt T) l3))] R (bM R (sN (ic R zS))) (LH.cond (t:=(!b1)) R (fun kl=>?_) (fun kl=>?_)))))))))
  ·replace h:=aB h kl
   obtain ⟨qf,FH,h⟩:=ao h
   refine LH.aS [(4,.ptr 104 0),(5,.ag [.aJ T 49 5 (List.map (ak.lt T) qf)])] [(104,.box [.nil])] R (sN (dI bX bZ dq R R (sN (dQ R R R R bZ e8 (sN (bc R cT il cz R R (sN (ka (f:=(ak.lt T)) (ys:=[p1]) dE p9 cz R R R ak.Cj (sN (nL (f:=(ak.lt T)) dE p9 cz R R (bH R) R FH (sN (dI bX bZ dq R R (s_ (cF R R R bZ dq R R R (s0 ((Wk.trans (aQ [(4,.ptr 104 0),(5,.ptr 105 0)] [(104,.box [.nil]),(105,.box [.arr 132 qf.length]),(132,.arr 49 5 (List.map (ak.lt T) qf))]) (Wk.trans (aQ [(4,.ptr 104 0),(5,.ptr 105 0)] [(104,.box [.nil]),(105,.box [.arr 132 qf.length]),(132,.arr 49 5 (List.map (ak.lt T) qf))]) (Wk.trans (Wk.trans (Wk.sM (f:=(ak.lt T)) T 132 49 5 qf 105 R R R (Nu Nt) R R (bH R)) (aQ [(4,.ptr 104 0),(5,.ptr 105 0)] [(104,.box [.nil]),(105,.box [.aJ T 49 5 (List.map (ak.lt T) qf)])])) (Wk.trans (Wk.bk 105 [.aJ T 49 5 (List.map (ak.lt T) qf)] R R R (bH R)) (Wk.eq R R R R))))))))))))))))))))) (au (LH.aj [(4,.ag [.aJ T 49 5 (List.map (ak.lt T) qf)])] [] R (sN (bc R bd bW bf R R (s_ (cF R R R bd bf R R R (s0 ((Wk.trans (aQ [(4,.ptr 104 0)] [(104,.box [.aJ T 49 5 (List.map (ak.lt T) qf)])]) (Wk.trans (Wk.bk 104 [.aJ T 49 5 (List.map (ak.lt T) qf)] R R R (bH R)) (Wk.eq R R R R))))))))) (LH.ret ?_)))
   obtain rfl:=oI h
   exact aN (aT Tryz.results71) (cN R bd bW bf R R (bL ⟨aM mN,R,aX R,Sub.rfl⟩))
  replace h:=aA h kl
  refine LH.skip (au (LH.wk ((Wk.trans (aQ [(4,.ptr 104 0),(5,.ptr 105 0)] [(104,.box [.nil]),(105,.box [.arr 132 l3.length]),(132,.arr 49 5 (List.map (ak.lt T) l3))]) (Wk.trans (aQ [(4,.ptr 104 0),(5,.ptr 105 0)] [(104,.box [.nil]),(105,.box [.arr 132 l3.length]),(132,.arr 49 5 (List.map (ak.lt T) l3))]) (Wk.trans (Wk.trans (Wk.sM (f:=(ak.lt T)) T 132 49 5 l3 105 R R R (Nu Nt) R R (bH R)) (aQ [(4,.ptr 104 0),(5,.ptr 105 0)] [(104,.box [.nil]),(105,.box [.aJ T 49 5 (List.map (ak.lt T) l3)])])) (Wk.trans (Wk.bk 105 [.aJ T 49 5 (List.map (ak.lt T) l3)] R R R (bH R)) (aQ [(4,.ptr 104 0),(5,.ag [.aJ T 49 5 (List.map (ak.lt T) l3)])] [(104,.box [.nil])])))))) (LH.aj [(4,.ag [.aJ T 49 5 (List.map (ak.lt T) l3)])] [] R (sN (bc R bd bW bf R R (s_ (cF R R R bd bf R R R (s0 ((Wk.trans (aQ [(4,.ptr 104 0)] [(104,.box [.aJ T 49 5 (List.map (ak.lt T) l3)])]) (Wk.trans (Wk.bk 104 [.aJ T 49 5 (List.map (ak.lt T) l3)] R R R (bH R)) (Wk.eq R R R R))))))))) (LH.ret ?_))))
  obtain rfl:=oI h
  exact aN (aT Tryz.results71) (cN R bd bW bf R R (bL ⟨aM mN,R,aX R,Sub.rfl⟩))
theorem Qs {T:Bool} {F:Nat} {p0:aG} {p1:ai} {r:aG × Int} (h:yY F p0 p1=some r):aO Tryz.prog 45 [.agg [.aJ T 49 5 (List.map (ak.lt T) p0.aa)],ai.lv p1] (Mem.of []) (.cV [.agg [.aJ T 49 5 (List.map (ak.lt T) r.1.aa)],.I r.2]) (Mem.of []):=by
  unfold yY at h
  refine bx Tryz.func45 R (nT Tryz.ntmps45 R) (LH.wk (aQ [(0,.agg [.aJ T 49 5 (List.map (ak.lt T) p0.aa)]),(1,ai.lv p1)] []) (LH.aj [(2,.ag [.aJ T 49 5 (List.map (ak.lt T) p0.aa)]),(3,.ag (ai.lv p1).cells),(4,.ptr 104 0)] [(104,.box [.nil])] R (sB (de R R R R (sB (de R R R R (sN (j0 (id:=104) R dH R R (bt R zS))))))) (LH.seq ?_)))
  obtain ⟨r1,ei,h⟩:=ao h
  refine LH.aj [(2,.ag [.aJ T 49 5 (List.map (ak.lt T) p0.aa)]),(3,.ag (ai.lv p1).cells),(4,.ptr 104 0),(6,.I r1)] [(104,.box [.nil])] R (sN (bc R cv eZ cd R R (sN (ej (args:=[ai.lv p1]) R FQ R (aI bm) (Gr ei) R (bt R zS))))) (LH.aj [(2,.ag [.aJ T 49 5 (List.map (ak.lt T) p0.aa)]),(3,.ag (ai.lv p1).cells),(4,.ptr 104 0),(6,.I r1),(10,.bool (r1 != 0))] [(104,.box [.nil])] R (br R (sN (iR R R zS))) (LH.cond (t:=(r1 != 0)) R (fun fG=>?_) (fun fG=>?_)))
  ·replace h:=aB h fG
   refine LH.aj [(4,.ag [.nil]),(5,.I r1)] [] R (sN (fU (vs:=[]) iB dH R fT (br R (s_ (cF R R R bd bf R R R (bt R (s0 ((Wk.trans (aQ [(4,.ptr 104 0),(5,.I r1)] [(104,.box [.nil])]) (Wk.trans (Wk.bk 104 [.nil] R R R (bH R)) (Wk.eq R R R R))))))))))) (LH.ret (aU ?_))
   obtain rfl:=oI h
   exact aN (aT Tryz.results45) (cN R bd bW bf R R (bO R (bL ⟨aM mN,R,aX R,(Sub.cV (lj (Sub.agg (vG R bm)) (aI bm)))⟩)))
  replace h:=aA h fG
  refine LH.skip (au (LH.wk (aQ [(2,.ag [.aJ T 49 5 (List.map (ak.lt T) p0.aa)]),(3,.ag (ai.lv p1).cells),(4,.ptr 104 0)] [(104,.box [.nil])]) (LH.seq (LH.aj [(2,.ag [.aJ T 49 5 (List.map (ak.lt T) p0.aa)]),(3,.ag (ai.lv p1).cells),(4,.ptr 104 0),(15,.bool (p1.Version != 1))] [(104,.box [.nil])] R (sN (aw fP aE bb R R R (sN (bh R aE bN (sN (iR R R zS)))))) (LH.cond (t:=(p1.Version != 1)) R (fun ix=>?_) (fun ix=>?_))))))
  ·replace h:=aB h ix
   refine LH.aj [(4,.ag [.nil]),(5,.I 8)] [] R (sN (fU (vs:=[]) iB dH R fT (s_ (cF R R R bd bf R R R (bt R (s0 ((Wk.trans (aQ [(4,.ptr 104 0),(5,.I 8)] [(104,.box [.nil])]) (Wk.trans (Wk.bk 104 [.nil] R R R (bH R)) (Wk.eq R R R R)))))))))) (LH.ret (aU ?_))
   obtain rfl:=oI h
   exact aN (aT Tryz.results45) (cN R bd bW bf R R (bO R (bL ⟨aM mN,R,aX R,(Sub.cV (lj (Sub.agg (vG R bm)) (aI bm)))⟩)))
  replace h:=aA h ix
  refine LH.skip (au (LH.wk (aQ [(2,.ag [.aJ T 49 5 (List.map (ak.lt T) p0.aa)]),(3,.ag (ai.lv p1).cells),(4,.ptr 104 0)] [(104,.box [.nil])]) (LH.seq ?_)))
  obtain ⟨r4,Fw,h⟩:=ao h
  refine LH.aj [(2,.ag [.aJ T 49 5 (List.map (ak.lt T) p0.aa)]),(3,.ag (ai.lv p1).cells),(4,.ptr 104 0),(21,.bool (decide (r4 ≥ 0)))] [(104,.box [.nil])] R (sN (bc R bd bW bf R R (sN (aw fb aE bb R R R (sN (bh R aE bN (sN (ej (args:=[.agg [.aJ T 49 5 (List.map (ak.lt T) p0.aa)],.I p1.ID]) R yd R (aI (aI bm)) (aO.view (yN Fw) (eY (Rel.agg (eY (Rel.aJ ak.p5 (fun _=>R)) lX)) (eY Rel.int lX)) R R) R (sN (pW R R zS)))))))))) (LH.cond (t:=(decide (r4 ≥ 0))) R (fun kM=>?_) (fun kM=>?_))
  ·replace h:=aB h kM
   refine LH.aj [(4,.ag [.nil]),(5,.I 5)] [] R (sN (fU (vs:=[]) iB dH R fT (s_ (cF R R R bd bf R R R (bt R (s0 ((Wk.trans (aQ [(4,.ptr 104 0),(5,.I 5)] [(104,.box [.nil])]) (Wk.trans (Wk.bk 104 [.nil] R R R (bH R)) (Wk.eq R R R R)))))))))) (LH.ret (aU ?_))
   obtain rfl:=oI h
   exact aN (aT Tryz.results45) (cN R bd bW bf R R (bO R (bL ⟨aM mN,R,aX R,(Sub.cV (lj (Sub.agg (vG R bm)) (aI bm)))⟩)))
  replace h:=aA h kM
  refine LH.skip (au (LH.wk (aQ [(2,.ag [.aJ T 49 5 (List.map (ak.lt T) p0.aa)]),(3,.ag (ai.lv p1).cells),(4,.ptr 104 0)] [(104,.box [.nil])]) (LH.seq (LH.aj [(2,.ag [.aJ T 49 5 (List.map (ak.lt T) p0.aa)]),(3,.ag (ai.lv p1).cells),(4,.ptr 104 0),(26,.bool ((p0.aa.length:Int) == 40))] [(104,.box [.nil])] R (sN (aw bX bZ dq R R R (sN (bh R bZ e8 (sX ((tu (f:=(ak.lt T)) dE R).ok) (sN (gr R R zS))))))) (LH.cond (t:=((p0.aa.length:Int) == 40)) R (fun fQ=>?_) (fun fQ=>?_))))))
  ·replace h:=aB h fQ
   refine LH.aj [(4,.ag [.nil]),(5,.I 3)] [] R (sN (fU (vs:=[]) iB dH R fT (s_ (cF R R R bd bf R R R (bt R (s0 ((Wk.trans (aQ [(4,.ptr 104 0),(5,.I 3)] [(104,.box [.nil])]) (Wk.trans (Wk.bk 104 [.nil] R R R (bH R)) (Wk.eq R R R R)))))))))) (LH.ret (aU ?_))
   obtain rfl:=oI h
   exact aN (aT Tryz.results45) (cN R bd bW bf R R (bO R (bL ⟨aM mN,R,aX R,(Sub.cV (lj (Sub.agg (vG R bm)) (aI bm)))⟩)))
  replace h:=aA h fQ
  refine LH.skip (au ?_)
  obtain ⟨r7,AR,h⟩:=ao h
  refine LH.aj [(4,.ag [.aJ T 49 5 (List.map (ak.lt T) r7.aa)]),(5,.I 0)] [] R (sN (bc R bd bW bf R R (sN (aw fb aE bb R R R (sN (bh R aE bN (sN (bc R cv eZ cd R R (sN (ka (f:=ai.lv) (ys:=[p1]) fw zE cd R R R ai.ok (sX ((bn.Ky (T:=T) (id:=133) (xs:=[false]) (by simp [Op.operands,da,Env.of,Env.put,LV.pure,Ds,uF]) (cj.Ub [] (by simp [Op.operands]) (A5 (g:=LV.bool) (ys:=[false]) (id:=133) jy HD lP R R R okB R)) R _).ok) (sN (fU (vs:=[(0,.I p1.ID),(1,.al 5 (List.map ai.lv [p1])),(2,.aJ T 4 1 (List.map LV.bool [false]))]) Q0 qH R (lf fO bb aE R R R (lf cZ fE c7 R R R (lf dJ gN dZ R R R fT))) (sN (ej (args:=[.agg [.aJ T 49 5 (List.map (ak.lt T) p0.aa)],.agg [.I p1.ID,.al 5 (List.map ai.lv [p1]),.aJ T 4 1 (List.map LV.bool [false]),.nil,.bool false]]) R ye R (aI (lj (Sub.agg (aI (aI (aI (vG R (aI bm)))))) bm)) (yP (T:=T) AR) R (s_ (cF R R R bd bf R R R (bt R (s0 ((Wk.trans (aQ [(4,.ptr 104 0),(5,.I 0)] [(104,.box [.aJ T 49 5 (List.map (ak.lt T) r7.aa)])]) (Wk.trans (Wk.bk 104 [.aJ T 49 5 (List.map (ak.lt T) r7.aa)] R R R (bH R)) (Wk.eq R R R R))))))))))))))))))))))) (LH.ret ?_)
  obtain rfl:=oI h
  exact aN (aT Tryz.results45) (cN R bd bW bf R R (bO R (bL ⟨aM mN,R,aX R,(Sub.cV (aI (aI bm)))⟩)))
theorem Qo {T:Bool} {F:Nat} {p0:aG} {p1:ai} {r:aG × Int} (h:yV F p0 p1=some r):aO Tryz.prog 46 [.agg [.aJ T 49 5 (List.map (ak.lt T) p0.aa)],ai.lv p1] (Mem.of []) (.cV [.agg [.aJ T 49 5 (List.map (ak.lt T) r.1.aa)],.I r.2]) (Mem.of []):=by
  unfold yV at h
  refine bx Tryz.func46 R (nT Tryz.ntmps46 R) (LH.wk (aQ [(0,.agg [.aJ T 49 5 (List.map (ak.lt T) p0.aa)]),(1,ai.lv p1)] []) (LH.aj [(2,.ag [.aJ T 49 5 (List.map (ak.lt T) p0.aa)]),(3,.ag (ai.lv p1).cells),(4,.ptr 104 0)] [(104,.box [.nil])] R (sB (de R R R R (sB (de R R R R (sN (j0 (id:=104) R dH R R (bt R zS))))))) (LH.seq ?_)))
  obtain ⟨r1,ei,h⟩:=ao h
  refine LH.aj [(2,.ag [.aJ T 49 5 (List.map (ak.lt T) p0.aa)]),(3,.ag (ai.lv p1).cells),(4,.ptr 104 0),(6,.I r1)] [(104,.box [.nil])] R (sN (bc R cv eZ cd R R (sN (ej (args:=[ai.lv p1]) R FQ R (aI bm) (Gr ei) R (bt R zS))))) (LH.aj [(2,.ag [.aJ T 49 5 (List.map (ak.lt T) p0.aa)]),(3,.ag (ai.lv p1).cells),(4,.ptr 104 0),(6,.I r1),(14,.bool (r1 != 0))] [(104,.box [.nil])] R (br R (sN (iR R R zS))) (LH.cond (t:=(r1 != 0)) R (fun fG=>?_) (fun fG=>?_)))
  ·replace h:=aB h fG
   refine LH.aj [(4,.ag [.nil]),(5,.I r1)] [] R (sN (fU (vs:=[]) iB dH R fT (br R (s_ (cF R R R bd bf R R R (bt R (s0 ((Wk.trans (aQ [(4,.ptr 104 0),(5,.I r1)] [(104,.box [.nil])]) (Wk.trans (Wk.bk 104 [.nil] R R R (bH R)) (Wk.eq R R R R))))))))))) (LH.ret (aU ?_))
   obtain rfl:=oI h
   exact aN (aT Tryz.results46) (cN R bd bW bf R R (bO R (bL ⟨aM mN,R,aX R,(Sub.cV (lj (Sub.agg (vG R bm)) (aI bm)))⟩)))
  replace h:=aA h fG
  refine LH.skip (au ?_)
  obtain ⟨r3,ot,h⟩:=ao h
  refine LH.aj [(2,.ag [.aJ T 49 5 (List.map (ak.lt T) p0.aa)]),(3,.ag (ai.lv p1).cells),(4,.ptr 104 0),(7,.I r3)] [(104,.box [.nil])] R (sN (bc R bd bW bf R R (sN (aw fb aE bb R R R (sN (bh R aE bN (sN (ej (args:=[.agg [.aJ T 49 5 (List.map (ak.lt T) p0.aa)],.I p1.ID]) R yd R (aI (aI bm)) (aO.view (yN ot) (eY (Rel.agg (eY (Rel.aJ ak.p5 (fun _=>R)) lX)) (eY Rel.int lX)) R R) R (bt R zS))))))))) (LH.seq (LH.aj [(2,.ag [.aJ T 49 5 (List.map (ak.lt T) p0.aa)]),(3,.ag (ai.lv p1).cells),(4,.ptr 104 0),(7,.I r3),(22,.bool (decide (r3<0)))] [(104,.box [.nil])] R (br R (sN (fy R R zS))) (LH.cond (t:=(decide (r3<0))) R (fun hT=>?_) (fun hT=>?_))))
  ·replace h:=aB h hT
   refine LH.aj [(4,.ag [.nil]),(5,.I 4)] [] R (sN (fU (vs:=[]) iB dH R fT (s_ (cF R R R bd bf R R R (bt R (s0 ((Wk.trans (aQ [(4,.ptr 104 0),(5,.I 4)] [(104,.box [.nil])]) (Wk.trans (Wk.bk 104 [.nil] R R R (bH R)) (Wk.eq R R R R)))))))))) (LH.ret (aU ?_))
   obtain rfl:=oI h
   exact aN (aT Tryz.results46) (cN R bd bW bf R R (bO R (bL ⟨aM mN,R,aX R,(Sub.cV (lj (Sub.agg (vG R bm)) (aI bm)))⟩)))
  replace h:=aA h hT
  refine LH.skip (au ?_)
  obtain ⟨x5,mG,h⟩:=ao h
  refine LH.aj [(2,.ag [.aJ T 49 5 (List.map (ak.lt T) p0.aa)]),(3,.ag (ai.lv p1).cells),(4,.ptr 104 0),(8,.ptr 108 0)] [(104,.box [.nil]),(108,.box [.I x5.ID,.al 5 (x5.ab.map ai.lv),.aJ T 4 1 (x5.ah.map LV.bool),.aJ T 88 3 (x5.Uses.map ay.lv),.bool x5.ae])] R ?_ ?_
  ·refine sN (aw bX bZ dq R R R (sN (bh R bZ e8 (br R (sX ((iT (f:=(ak.lt T)) dE cT cz R R ak.Cj mG R).ok) (sX ((nN R cT il cz R R).ok) ?_))))))
   exact sN (j0 (id:=108) R qH R R (s_ (cF R R R cT cz R R R zS)))
  refine LH.seq (LH.aj [(2,.ag [.aJ T 49 5 (List.map (ak.lt T) p0.aa)]),(3,.ag (ai.lv p1).cells),(4,.ptr 104 0),(8,.ptr 108 0),(39,.bool (x5.ae || (p1.Version != (i64 ((x5.ab.length:Int)+1)))))] [(104,.box [.nil]),(108,.box [.I x5.ID,.al 5 (x5.ab.map ai.lv),.aJ T 4 1 (x5.ah.map LV.bool),.aJ T 88 3 (x5.Uses.map ay.lv),.bool x5.ae])] R ?_ ?_)
  ·refine sN (dI ja jL lP R R (sN (dQ R R R R jL uN (bM R ?_))))
   by_cases ca:x5.ae=true
   ·exact sF R R ca (sF R R ca (sF R R ca (sF R R ca (sF R R ca (sF R R ca (sF R R ca (sN (aZ (cB ca) (v:=(.bool _)) R (s0 (Wk.to (eC R (eC R (eC R (eC R (eC (cB (pn ca)) eN))))) ⟨R,R,trivial⟩ R (aX R)))))))))))
   ·replace ca:=bF ca
    exact sT R (cB ca) (aw fP aE bb R R R (sT R (cB ca) (bh R aE bN (sT R (cB ca) (dI cZ c7 fE R R (sT R (cB ca) (dQ R R R R c7 ij (sT R (cB ca) (bV (f:=ai.lv) fw R (sT R (cB ca) (cI R R (sT R (cB ca) (iR R R (sN (aW (cB ca) (v:=(.bool _)) R (s0 (Wk.to (eC R (eC R (eC R (eC R (eC (cB (gQ ca)) eN))))) ⟨R,R,trivial⟩ R (aX R))))))))))))))))))
  refine LH.cond (t:=(x5.ae || (p1.Version != (i64 ((x5.ab.length:Int)+1))))) R (fun kY=>?_) (fun kY=>?_)
  ·replace h:=aB h kY
   refine LH.aj [(4,.ag [.nil]),(5,.I 8)] [] R (sN (fU (vs:=[]) iB dH R fT (s_ (cF R R R bd bf R R R (bt R (s0 ((Wk.trans (aQ [(4,.ptr 104 0),(5,.I 8)] [(104,.box [.nil])]) (Wk.trans (Wk.bk 104 [.nil] R R R (bH R)) (Wk.eq R R R R)))))))))) (LH.ret (aU ?_))
   obtain rfl:=oI h
   exact aN (aT Tryz.results46) (cN R bd bW bf R R (bO R (bL ⟨aM mN,R,aX R,(Sub.cV (lj (Sub.agg (vG R bm)) (aI bm)))⟩)))
  replace h:=aA h kY
  refine LH.skip (au (LH.aj [(2,.ag [.aJ T 49 5 (List.map (ak.lt T) p0.aa)]),(3,.ag (ai.lv p1).cells),(4,.ptr 104 0),(8,.ptr 108 0),(9,.nil)] [(104,.box [.nil]),(108,.box [.I x5.ID,.al 5 (x5.ab.map ai.lv),.aJ T 4 1 (x5.ah.map LV.bool),.aJ T 88 3 (x5.Uses.map ay.lv),.bool x5.ae])] R (k9 R zS) (LH.aj [(2,.ag [.aJ T 49 5 (List.map (ak.lt T) p0.aa)]),(3,.ag (ai.lv p1).cells),(4,.ptr 104 0),(8,.ptr 108 0),(9,.nil),(10,.nil)] [(104,.box [.nil]),(108,.box [.I x5.ID,.al 5 (x5.ab.map ai.lv),.aJ T 4 1 (x5.ah.map LV.bool),.aJ T 88 3 (x5.Uses.map ay.lv),.bool x5.ae])] R (k9 R zS) ?_)))
  obtain ⟨v9,Tx,h⟩:=ao h
  refine LH.aj [(2,.ag [.aJ T 49 5 (List.map (ak.lt T) p0.aa)]),(3,.ag (ai.lv p1).cells),(4,.ptr 104 0),(8,.ptr 108 0),(9,.arr 144 v9.length),(10,.nil)] [(104,.box [.nil]),(108,.box [.I x5.ID,.al 5 (x5.ab.map ai.lv),.aJ T 4 1 (x5.ah.map LV.bool),.aJ T 88 3 (x5.Uses.map ay.lv),.bool x5.ae]),(144,.arr 54 5 (v9.map ai.lv))] R (IG R (sN (dI cZ c7 fE R R (sN (dQ R R R R c7 ij (sN (Dq (f:=ai.lv) (id:=144) R fw zE cd R R Tx R (nQ R zS)))))))) ?_
  obtain ⟨v10,FE,h⟩:=ao h
  refine LH.aj [(2,.ag [.aJ T 49 5 (List.map (ak.lt T) p0.aa)]),(3,.ag (ai.lv p1).cells),(4,.ptr 104 0),(8,.ptr 108 0),(9,.arr 144 v9.length),(10,.arr 148 v10.length)] [(104,.box [.nil]),(108,.box [.I x5.ID,.al 5 (x5.ab.map ai.lv),.aJ T 4 1 (x5.ah.map LV.bool),.aJ T 88 3 (x5.Uses.map ay.lv),.bool x5.ae]),(144,.arr 54 5 (v9.map ai.lv)),(148,.arr 4 1 (v10.map LV.bool))] R (IG R (sN (dI dJ dZ gN R R (sN (dQ R R R R dZ lM (sN (F7 (f:=LV.bool) (id:=148) R jy HD lP R R FE R (nQ R zS)))))))) ?_
  obtain ⟨v11,LA,h⟩:=ao h
  refine LH.aj [(2,.ag [.aJ T 49 5 (List.map (ak.lt T) p0.aa)]),(4,.ptr 104 0),(8,.ptr 108 0),(10,.arr 148 v10.length)] [(104,.box [.nil]),(108,.box [.I x5.ID,.arr 144 v11.length,.aJ T 4 1 (x5.ah.map LV.bool),.aJ T 88 3 (x5.Uses.map ay.lv),.bool x5.ae]),(144,.arr 54 5 (v11.map ai.lv)),(148,.arr 4 1 (v10.map LV.bool))] R (jQ R (sN (bc R cv eZ cd R R (sN (ka (f:=ai.lv) (ys:=[p1]) fw zE cd R R R ai.ok (sN (nL (f:=ai.lv) fw zE cd R R (bH R) R LA (sN (dI cZ c7 fE R R (s_ (cF R R R c7 fE R R R zS))))))))))) ?_
  obtain ⟨v12,FF,h⟩:=ao h
  refine LH.aj [(2,.ag [.aJ T 49 5 (List.map (ak.lt T) p0.aa)]),(4,.ptr 104 0),(8,.ag [.I x5.ID,.al 5 (v11.map ai.lv),.aJ T 4 1 (v12.map LV.bool),.aJ T 88 3 (x5.Uses.map ay.lv),.bool x5.ae])] [(104,.box [.nil])] R (jQ R (sN (ka (f:=LV.bool) (ys:=[false]) jy HD lP R R R okB (sN (nL (f:=LV.bool) jy HD lP R R (bH R) R FF (sN (dI dJ dZ gN R R (s_ (cF R R R dZ gN R R R (s0 ((Wk.trans (aQ [(2,.ag [.aJ T 49 5 (List.map (ak.lt T) p0.aa)]),(4,.ptr 104 0),(8,.ptr 108 0)] [(104,.box [.nil]),(108,.box [.I x5.ID,.arr 144 v11.length,.arr 148 v12.length,.aJ T 88 3 (x5.Uses.map ay.lv),.bool x5.ae]),(144,.arr 54 5 (v11.map ai.lv)),(148,.arr 4 1 (v12.map LV.bool))]) (Wk.trans (aQ [(2,.ag [.aJ T 49 5 (List.map (ak.lt T) p0.aa)]),(4,.ptr 104 0),(8,.ptr 108 0)] [(104,.box [.nil]),(108,.box [.I x5.ID,.arr 144 v11.length,.arr 148 v12.length,.aJ T 88 3 (x5.Uses.map ay.lv),.bool x5.ae]),(144,.arr 54 5 (v11.map ai.lv)),(148,.arr 4 1 (v12.map LV.bool))]) (Wk.trans (Wk.trans (Wk.fl (f:=ai.lv) 144 54 5 v11 108 R R R (cw R (jm (cw R (cw R (cw R jl))))) R R (bH R)) (aQ [(2,.ag [.aJ T 49 5 (List.map (ak.lt T) p0.aa)]),(4,.ptr 104 0),(8,.ptr 108 0)] [(104,.box [.nil]),(108,.box [.I x5.ID,.al 5 (v11.map ai.lv),.arr 148 v12.length,.aJ T 88 3 (x5.Uses.map ay.lv),.bool x5.ae]),(148,.arr 4 1 (v12.map LV.bool))])) (Wk.trans (aQ [(2,.ag [.aJ T 49 5 (List.map (ak.lt T) p0.aa)]),(4,.ptr 104 0),(8,.ptr 108 0)] [(104,.box [.nil]),(108,.box [.I x5.ID,.al 5 (v11.map ai.lv),.arr 148 v12.length,.aJ T 88 3 (x5.Uses.map ay.lv),.bool x5.ae]),(148,.arr 4 1 (v12.map LV.bool))]) (Wk.trans (Wk.trans (Wk.sM (f:=LV.bool) T 148 4 1 v12 108 R R R (I4 R (I4 R (Nu (I4 R (I4 R Nt))))) R R (bH R)) (aQ [(2,.ag [.aJ T 49 5 (List.map (ak.lt T) p0.aa)]),(4,.ptr 104 0),(8,.ptr 108 0)] [(104,.box [.nil]),(108,.box [.I x5.ID,.al 5 (v11.map ai.lv),.aJ T 4 1 (v12.map LV.bool),.aJ T 88 3 (x5.Uses.map ay.lv),.bool x5.ae])])) (Wk.trans (Wk.bk 108 [.I x5.ID,.al 5 (v11.map ai.lv),.aJ T 4 1 (v12.map LV.bool),.aJ T 88 3 (x5.Uses.map ay.lv),.bool x5.ae] R R R (bH R)) (Wk.eq R R R R)))))))))))))))))) ?_
  obtain ⟨rH,Lj,h⟩:=ao h
  refine LH.aj [(4,.ag [.aJ T 49 5 (List.map (ak.lt T) rH.aa)]),(5,.I 0)] [] R (sN (bc R bd bW bf R R (sN (bc R cT il cz R R (sN (ej (args:=[.agg [.aJ T 49 5 (List.map (ak.lt T) p0.aa)],.agg [.I x5.ID,.al 5 (v11.map ai.lv),.aJ T 4 1 (v12.map LV.bool),.aJ T 88 3 (x5.Uses.map ay.lv),.bool x5.ae]]) R ye R (aI (aI bm)) (yP (T:=T) Lj) R (s_ (cF R R R bd bf R R R (bt R (s0 ((Wk.trans (aQ [(4,.ptr 104 0),(5,.I 0)] [(104,.box [.aJ T 49 5 (List.map (ak.lt T) rH.aa)])]) (Wk.trans (Wk.bk 104 [.aJ T 49 5 (List.map (ak.lt T) rH.aa)] R R R (bH R)) (Wk.eq R R R R)))))))))))))) (LH.ret ?_)
  obtain rfl:=oI h
  exact aN (aT Tryz.results46) (cN R bd bW bf R R (bO R (bL ⟨aM mN,R,aX R,(Sub.cV (aI (aI bm)))⟩)))
theorem Qk {T:Bool} {F:Nat} {p0:aG} {p1:bR} {r:aG × Int} (h:yS F p0 p1=some r):aO Tryz.prog 47 [.agg [.aJ T 49 5 (List.map (ak.lt T) p0.aa)],.agg [.I p1.ID,.I p1.Version]] (Mem.of []) (.cV [.agg [.aJ T 49 5 (List.map (ak.lt T) r.1.aa)],.I r.2]) (Mem.of []):=by
  unfold yS at h
  refine bx Tryz.func47 R (nT Tryz.ntmps47 R) (LH.wk (aQ [(0,.agg [.aJ T 49 5 (List.map (ak.lt T) p0.aa)]),(1,.agg [.I p1.ID,.I p1.Version])] []) (LH.aj [(2,.ag [.aJ T 49 5 (List.map (ak.lt T) p0.aa)]),(3,.ag [.I p1.ID,.I p1.Version]),(4,.ptr 104 0)] [(104,.box [.nil])] R (sB (de R R R R (sB (de R R R R (sN (j0 (id:=104) R dH R R (bt R zS))))))) ?_))
  obtain ⟨r1,ei,h⟩:=ao h
  refine LH.aj [(2,.ag [.aJ T 49 5 (List.map (ak.lt T) p0.aa)]),(3,.ag [.I p1.ID,.I p1.Version]),(4,.ptr 104 0),(6,.I r1)] [(104,.box [.nil])] R (sN (bc R bd bW bf R R (sN (aw jK aE bb R R R (sN (bh R aE bN (sN (ej (args:=[.agg [.aJ T 49 5 (List.map (ak.lt T) p0.aa)],.I p1.ID]) R yd R (aI (aI bm)) (aO.view (yN ei) (eY (Rel.agg (eY (Rel.aJ ak.p5 (fun _=>R)) lX)) (eY Rel.int lX)) R R) R (bt R zS))))))))) (LH.seq ?_)
  obtain ⟨w3,hv,h⟩:=ao h
  refine LH.cO mixed [] [0,0,0,0,0,0,0,0,0,0,0,0,0,4,4,4,0,0,0] [(2,.ag [.aJ T 49 5 (List.map (ak.lt T) p0.aa)]),(3,.ag [.I p1.ID,.I p1.Version]),(4,.ptr 104 0),(6,.I r1),(31,.bool w3)] [(104,.box [.nil])] R R (by kernel_rfl) ?_ ?_
  ·refine fC R (aD (fy R R ⟨R,iQ R ?_⟩))
   by_cases bG:(decide (r1<0))=true
   ·replace hv:=aB hv bG
    refine mF R R bG (mF R R bG (mF R R bG (aD (aZ (cB bG) (v:=(.bool _)) R ⟨R,iQ R (mF R R R (mF R R R (mF R R R (mF R R R (mF R R R (mF R R R (mF R R R (mF R R R (mF R R R (mF R R R (aD (aZ R (v:=(.bool _)) R ⟨R,?_⟩))))))))))))⟩))))
    obtain rfl:=oI hv
    exact zM
   ·replace bG:=bF bG
    replace hv:=aA hv bG
    refine mT R (cB bG) (aD (aw fa aE bb R R R ⟨R,mT R (cB bG) (aD (bh R aE bN ⟨R,mT R (cB bG) (aD (fy R R ⟨R,aD (aW (cB bG) (v:=(.bool _)) R ⟨R,iQ R ?_⟩)⟩))⟩))⟩))
    by_cases bI:(decide (p1.Version<1))=true
    ·replace hv:=aB hv bI
     refine mF R R bI (mF R R bI (mF R R bI (mF R R bI (mF R R bI (mF R R bI (mF R R bI (mF R R bI (mF R R bI (mF R R bI (aD (aZ (cB bI) (v:=(.bool _)) R ⟨R,?_⟩)))))))))))
     obtain rfl:=oI hv
     exact zM
    ·replace bI:=bF bI
     replace hv:=aA hv bI
     refine mT R (cB bI) (aD (aw fa aE bb R R R ⟨R,mT R (cB bI) (aD (bh R aE bN ⟨R,mT R (cB bI) (aD (aw bX bZ dq R R R ⟨R,mT R (cB bI) (aD (bh R bZ e8 ⟨R,mT R (cB bI) (fC R ?_)⟩))⟩))⟩))⟩))
     obtain ⟨x6,LP,hv⟩:=ao hv
     refine mT R (cB bI) (mM (fun _=>iT (f:=(ak.lt T)) dE cT cz R R ak.Cj LP R) (mT R (cB bI) (mM (fun _=>tt cZ c7 fE R R R) (mT R (cB bI) (mM (fun _=>o4 R c7 ij) (mT R (cB bI) (aD (bV (f:=ai.lv) fw R ⟨R,mT R (cB bI) (aD (jx R R ⟨R,aD (aW (cB bI) (v:=(.bool _)) R ⟨R,?_⟩)⟩))⟩))))))))
     obtain rfl:=oI hv
     exact zM
  clear hv
  refine LH.cond (t:=w3) R (fun jd=>?_) (fun jd=>?_)
  ·replace h:=aB h jd
   refine LH.aj [(4,.ag [.nil]),(5,.I 4)] [] R (sN (fU (vs:=[]) iB dH R fT (s_ (cF R R R bd bf R R R (bt R (s0 ((Wk.trans (aQ [(4,.ptr 104 0),(5,.I 4)] [(104,.box [.nil])]) (Wk.trans (Wk.bk 104 [.nil] R R R (bH R)) (Wk.eq R R R R)))))))))) (LH.ret (aU ?_))
   obtain rfl:=oI h
   exact aN (aT Tryz.results47) (cN R bd bW bf R R (bO R (bL ⟨aM mN,R,aX R,(Sub.cV (lj (Sub.agg (vG R bm)) (aI bm)))⟩)))
  replace h:=aA h jd
  refine LH.skip (au ?_)
  obtain ⟨x8,uD,h⟩:=ao h
  refine LH.aj [(2,.ag [.aJ T 49 5 (List.map (ak.lt T) p0.aa)]),(3,.ag [.I p1.ID,.I p1.Version]),(4,.ptr 104 0),(7,.ptr 107 0)] [(104,.box [.nil]),(107,.box [.I x8.ID,.al 5 (x8.ab.map ai.lv),.aJ T 4 1 (x8.ah.map LV.bool),.aJ T 88 3 (x8.Uses.map ay.lv),.bool x8.ae])] R ?_ ?_
  ·refine sN (aw bX bZ dq R R R (sN (bh R bZ e8 (br R (sX ((iT (f:=(ak.lt T)) dE cT cz R R ak.Cj uD R).ok) (sX ((nN R cT il cz R R).ok) ?_))))))
   exact sN (j0 (id:=107) R qH R R (s_ (cF R R R cT cz R R R zS)))
  refine LH.seq (LH.aj [(2,.ag [.aJ T 49 5 (List.map (ak.lt T) p0.aa)]),(3,.ag [.I p1.ID,.I p1.Version]),(4,.ptr 104 0),(7,.ptr 107 0),(39,.bool x8.ae)] [(104,.box [.nil]),(107,.box [.I x8.ID,.al 5 (x8.ab.map ai.lv),.aJ T 4 1 (x8.ah.map LV.bool),.aJ T 88 3 (x8.Uses.map ay.lv),.bool x8.ae])] R (sN (dI ja jL lP R R (sN (dQ R R R R jL uN zS)))) (LH.cond (t:=x8.ae) R (fun uh=>?_) (fun uh=>?_)))
  ·replace h:=aB h uh
   refine LH.aj [(4,.ag [.nil]),(5,.I 8)] [] R (sN (fU (vs:=[]) iB dH R fT (s_ (cF R R R bd bf R R R (bt R (s0 ((Wk.trans (aQ [(4,.ptr 104 0),(5,.I 8)] [(104,.box [.nil])]) (Wk.trans (Wk.bk 104 [.nil] R R R (bH R)) (Wk.eq R R R R)))))))))) (LH.ret (aU ?_))
   obtain rfl:=oI h
   exact aN (aT Tryz.results47) (cN R bd bW bf R R (bO R (bL ⟨aM mN,R,aX R,(Sub.cV (lj (Sub.agg (vG R bm)) (aI bm)))⟩)))
  replace h:=aA h uh
  refine LH.skip (au (LH.wk (aQ [(2,.ag [.aJ T 49 5 (List.map (ak.lt T) p0.aa)]),(3,.ag [.I p1.ID,.I p1.Version]),(4,.ptr 104 0),(7,.ptr 107 0)] [(104,.box [.nil]),(107,.box [.I x8.ID,.al 5 (x8.ab.map ai.lv),.aJ T 4 1 (x8.ah.map LV.bool),.aJ T 88 3 (x8.Uses.map ay.lv),.bool x8.ae])]) (LH.seq ?_)))
  obtain ⟨pq,rE,h⟩:=ao h
  refine LH.aj [(2,.ag [.aJ T 49 5 (List.map (ak.lt T) p0.aa)]),(3,.ag [.I p1.ID,.I p1.Version]),(4,.ptr 104 0),(7,.ptr 107 0),(47,.bool pq)] [(104,.box [.nil]),(107,.box [.I x8.ID,.al 5 (x8.ab.map ai.lv),.aJ T 4 1 (x8.ah.map LV.bool),.aJ T 88 3 (x8.Uses.map ay.lv),.bool x8.ae])] R (sN (dI dJ dZ gN R R (sN (dQ R R R R dZ lM (sN (aw fa aE bb R R R (sN (bh R aE bN (sN (iS R R (sX ((iT (f:=LV.bool) jy jL lP R R okB rE R).ok) (sX ((o4 R jL uN).ok) zS)))))))))))) (LH.cond (t:=pq) R (fun iL=>?_) (fun iL=>?_))
  ·replace h:=aB h iL
   refine LH.aj [(4,.ag [.nil]),(5,.I 5)] [] R (sN (fU (vs:=[]) iB dH R fT (s_ (cF R R R bd bf R R R (bt R (s0 ((Wk.trans (aQ [(4,.ptr 104 0),(5,.I 5)] [(104,.box [.nil])]) (Wk.trans (Wk.bk 104 [.nil] R R R (bH R)) (Wk.eq R R R R)))))))))) (LH.ret (aU ?_))
   obtain rfl:=oI h
   exact aN (aT Tryz.results47) (cN R bd bW bf R R (bO R (bL ⟨aM mN,R,aX R,(Sub.cV (lj (Sub.agg (vG R bm)) (aI bm)))⟩)))
  replace h:=aA h iL
  refine LH.skip (au (LH.aj [(2,.ag [.aJ T 49 5 (List.map (ak.lt T) p0.aa)]),(3,.ag [.I p1.ID,.I p1.Version]),(4,.ptr 104 0),(7,.ptr 107 0),(8,.nil)] [(104,.box [.nil]),(107,.box [.I x8.ID,.al 5 (x8.ab.map ai.lv),.aJ T 4 1 (x8.ah.map LV.bool),.aJ T 88 3 (x8.Uses.map ay.lv),.bool x8.ae])] R (k9 R zS) ?_))
  obtain ⟨v12,FF,h⟩:=ao h
  refine LH.aj [(2,.ag [.aJ T 49 5 (List.map (ak.lt T) p0.aa)]),(3,.ag [.I p1.ID,.I p1.Version]),(4,.ptr 104 0),(7,.ptr 107 0),(8,.arr 152 v12.length)] [(104,.box [.nil]),(107,.box [.I x8.ID,.al 5 (x8.ab.map ai.lv),.aJ T 4 1 (x8.ah.map LV.bool),.aJ T 88 3 (x8.Uses.map ay.lv),.bool x8.ae]),(152,.arr 4 1 (v12.map LV.bool))] R (IG R (sN (dI dJ dZ gN R R (sN (dQ R R R R dZ lM (sN (F7 (f:=LV.bool) (id:=152) R jy HD lP R R FF R (nQ R zS)))))))) ?_
  obtain ⟨fg,ob,h⟩:=ao h
  refine LH.aj [(2,.ag [.aJ T 49 5 (List.map (ak.lt T) p0.aa)]),(4,.ptr 104 0),(7,.ptr 107 0),(8,.aJ T 4 1 (List.map LV.bool (v12.set ((i64 (p1.Version - 1)).toNat) true)))] [(104,.box [.nil]),(107,.box [.I x8.ID,.al 5 (x8.ab.map ai.lv),.aJ T 4 1 (x8.ah.map LV.bool),.aJ T 88 3 (x8.Uses.map ay.lv),.bool x8.ae])] R (jQ R (sN (aw fa aE bb R R R (sN (bh R aE bN (sN (iS R R (sN (gV (f:=LV.bool) jy jL lP R R R ob (s_ (qx (f:=LV.bool) (z':=true) R R R R jL lP R (dB ob).2 R (s0 ((Wk.trans (Wk.to (el:=[(2,.ag [.aJ T 49 5 (List.map (ak.lt T) p0.aa)]),(4,.ptr 104 0),(7,.ptr 107 0),(8,.arr 152 (List.length (v12.set ((i64 (p1.Version - 1)).toNat) true)))]) (ml:=[(104,.box [.nil]),(107,.box [.I x8.ID,.al 5 (x8.ab.map ai.lv),.aJ T 4 1 (x8.ah.map LV.bool),.aJ T 88 3 (x8.Uses.map ay.lv),.bool x8.ae]),(152,.arr 4 1 (List.map LV.bool (v12.set ((i64 (p1.Version - 1)).toNat) true)))]) (eC R (eC R (eC R (eC (congrArg (LV.arr 152) (by simp)) eN)))) ⟨R,R,R,trivial⟩ R (aX R)) (Wk.trans (Wk.Ky (f:=LV.bool) (fB:=[(2,.ag [.aJ T 49 5 (List.map (ak.lt T) p0.aa)]),(4,.ptr 104 0),(7,.ptr 107 0),(8,.aJ T 4 1 (List.map LV.bool (v12.set ((i64 (p1.Version - 1)).toNat) true)))]) T 152 4 1 (v12.set ((i64 (p1.Version - 1)).toNat) true) R R (bH R) (fK R (fK R (fK R (fZ fN))))) (Wk.eq R R R R)))))))))))))))) (LH.aj [(2,.ag [.aJ T 49 5 (List.map (ak.lt T) p0.aa)]),(4,.ptr 104 0),(7,.ag [.I x8.ID,.al 5 (x8.ab.map ai.lv),.aJ T 4 1 (List.map LV.bool (v12.set ((i64 (p1.Version - 1)).toNat) true)),.aJ T 88 3 (x8.Uses.map ay.lv),.bool x8.ae])] [(104,.box [.nil])] R (sN (oM (v:=(.aJ _ _ _ _)) R (sN (dI dJ dZ gN R R (s_ (cF R R R dZ gN R R R (s0 ((Wk.trans (aQ [(2,.ag [.aJ T 49 5 (List.map (ak.lt T) p0.aa)]),(4,.ptr 104 0),(7,.ptr 107 0)] [(104,.box [.nil]),(107,.box [.I x8.ID,.al 5 (x8.ab.map ai.lv),.aJ T 4 1 (List.map LV.bool (v12.set ((i64 (p1.Version - 1)).toNat) true)),.aJ T 88 3 (x8.Uses.map ay.lv),.bool x8.ae])]) (Wk.trans (Wk.bk 107 [.I x8.ID,.al 5 (x8.ab.map ai.lv),.aJ T 4 1 (List.map LV.bool (v12.set ((i64 (p1.Version - 1)).toNat) true)),.aJ T 88 3 (x8.Uses.map ay.lv),.bool x8.ae] R R R (bH R)) (Wk.eq R R R R))))))))))) ?_)
  obtain ⟨e7,tc,h⟩:=ao h
  refine LH.aj [(4,.ag [.aJ T 49 5 (List.map (ak.lt T) e7.aa)]),(5,.I 0)] [] R (sN (bc R bd bW bf R R (sN (bc R cT il cz R R (sN (ej (args:=[.agg [.aJ T 49 5 (List.map (ak.lt T) p0.aa)],.agg [.I x8.ID,.al 5 (x8.ab.map ai.lv),.aJ T 4 1 (List.map LV.bool (v12.set ((i64 (p1.Version - 1)).toNat) true)),.aJ T 88 3 (x8.Uses.map ay.lv),.bool x8.ae]]) R ye R (aI (aI bm)) (yP (T:=T) tc) R (s_ (cF R R R bd bf R R R (bt R (s0 ((Wk.trans (aQ [(4,.ptr 104 0),(5,.I 0)] [(104,.box [.aJ T 49 5 (List.map (ak.lt T) e7.aa)])]) (Wk.trans (Wk.bk 104 [.aJ T 49 5 (List.map (ak.lt T) e7.aa)] R R R (bH R)) (Wk.eq R R R R)))))))))))))) (LH.ret ?_)
  obtain rfl:=oI h
  exact aN (aT Tryz.results47) (cN R bd bW bf R R (bO R (bL ⟨aM mN,R,aX R,(Sub.cV (aI (aI bm)))⟩)))
theorem QD {T:Bool} {F:Nat} {p0:aG} {p1:bR} {p2:Int} {p3:Int} {r:aG × Int} (h:lK F p0 p1 p2 p3=some r):aO Tryz.prog 48 [.agg [.aJ T 49 5 (List.map (ak.lt T) p0.aa)],.agg [.I p1.ID,.I p1.Version],.I p2,.I p3] (Mem.of []) (.cV [.agg [.aJ T 49 5 (List.map (ak.lt T) r.1.aa)],.I r.2]) (Mem.of []):=by
  unfold lK at h
  refine bx Tryz.func48 R (nT Tryz.ntmps48 R) (LH.wk (aQ [(0,.agg [.aJ T 49 5 (List.map (ak.lt T) p0.aa)]),(1,.agg [.I p1.ID,.I p1.Version]),(2,.I p2),(3,.I p3)] []) (LH.aj [(2,.I p2),(3,.I p3),(4,.ag [.aJ T 49 5 (List.map (ak.lt T) p0.aa)]),(5,.ag [.I p1.ID,.I p1.Version]),(8,.ptr 108 0)] [(108,.box [.nil])] R (sB (de R R R R (sB (de R R R R (sN (j0 (id:=108) R dH R R (bt R zS))))))) ?_))
  obtain ⟨r1,ei,h⟩:=ao h
  refine LH.aj [(2,.I p2),(3,.I p3),(4,.ag [.aJ T 49 5 (List.map (ak.lt T) p0.aa)]),(5,.ag [.I p1.ID,.I p1.Version]),(8,.ptr 108 0),(10,.I r1)] [(108,.box [.nil])] R (sN (bc R bd bW bf R R (sN (aw jK aE bb R R R (sN (bh R aE bN (sN (ej (args:=[.agg [.aJ T 49 5 (List.map (ak.lt T) p0.aa)],.I p1.ID]) R yd R (aI (aI bm)) (aO.view (yN ei) (eY (Rel.agg (eY (Rel.aJ ak.p5 (fun _=>R)) lX)) (eY Rel.int lX)) R R) R (bt R zS))))))))) (LH.seq ?_)
  obtain ⟨w3,hv,h⟩:=ao h
  refine LH.cO mixed [] [0,0,0,0,0,0,0,0,0,0,0,0,0,4,4,4,0,0,0] [(2,.I p2),(3,.I p3),(4,.ag [.aJ T 49 5 (List.map (ak.lt T) p0.aa)]),(5,.ag [.I p1.ID,.I p1.Version]),(8,.ptr 108 0),(10,.I r1),(36,.bool w3)] [(108,.box [.nil])] R R (by kernel_rfl) ?_ ?_
  ·refine fC R (aD (fy R R ⟨R,iQ R ?_⟩))
   by_cases bG:(decide (r1<0))=true
   ·replace hv:=aB hv bG
    refine mF R R bG (mF R R bG (mF R R bG (aD (aZ (cB bG) (v:=(.bool _)) R ⟨R,iQ R (mF R R R (mF R R R (mF R R R (mF R R R (mF R R R (mF R R R (mF R R R (mF R R R (mF R R R (mF R R R (aD (aZ R (v:=(.bool _)) R ⟨R,?_⟩))))))))))))⟩))))
    obtain rfl:=oI hv
    exact zM
   ·replace bG:=bF bG
    replace hv:=aA hv bG
    refine mT R (cB bG) (aD (aw fa aE bb R R R ⟨R,mT R (cB bG) (aD (bh R aE bN ⟨R,mT R (cB bG) (aD (fy R R ⟨R,aD (aW (cB bG) (v:=(.bool _)) R ⟨R,iQ R ?_⟩)⟩))⟩))⟩))
    by_cases bI:(decide (p1.Version<1))=true
    ·replace hv:=aB hv bI
     refine mF R R bI (mF R R bI (mF R R bI (mF R R bI (mF R R bI (mF R R bI (mF R R bI (mF R R bI (mF R R bI (mF R R bI (aD (aZ (cB bI) (v:=(.bool _)) R ⟨R,?_⟩)))))))))))
     obtain rfl:=oI hv
     exact zM
    ·replace bI:=bF bI
     replace hv:=aA hv bI
     refine mT R (cB bI) (aD (aw fa aE bb R R R ⟨R,mT R (cB bI) (aD (bh R aE bN ⟨R,mT R (cB bI) (aD (aw bX bZ dq R R R ⟨R,mT R (cB bI) (aD (bh R bZ e8 ⟨R,mT R (cB bI) (fC R ?_)⟩))⟩))⟩))⟩))
     obtain ⟨x6,LP,hv⟩:=ao hv
     refine mT R (cB bI) (mM (fun _=>iT (f:=(ak.lt T)) dE cT cz R R ak.Cj LP R) (mT R (cB bI) (mM (fun _=>tt cZ c7 fE R R R) (mT R (cB bI) (mM (fun _=>o4 R c7 ij) (mT R (cB bI) (aD (bV (f:=ai.lv) fw R ⟨R,mT R (cB bI) (aD (jx R R ⟨R,aD (aW (cB bI) (v:=(.bool _)) R ⟨R,?_⟩)⟩))⟩))))))))
     obtain rfl:=oI hv
     exact zM
  clear hv
  refine LH.cond (t:=w3) R (fun jd=>?_) (fun jd=>?_)
  ·replace h:=aB h jd
   refine LH.aj [(8,.ag [.nil]),(9,.I 4)] [] R (sN (fU (vs:=[]) iB dH R fT (s_ (cF R R R bd bf R R R (bt R (s0 ((Wk.trans (aQ [(8,.ptr 108 0),(9,.I 4)] [(108,.box [.nil])]) (Wk.trans (Wk.bk 108 [.nil] R R R (bH R)) (Wk.eq R R R R)))))))))) (LH.ret (aU ?_))
   obtain rfl:=oI h
   exact aN (aT Tryz.results48) (cN R bd bW bf R R (bO R (bL ⟨aM mN,R,aX R,(Sub.cV (lj (Sub.agg (vG R bm)) (aI bm)))⟩)))
  replace h:=aA h jd
  refine LH.skip (au ?_)
  obtain ⟨x8,uD,h⟩:=ao h
  refine LH.aj [(2,.I p2),(3,.I p3),(4,.ag [.aJ T 49 5 (List.map (ak.lt T) p0.aa)]),(5,.ag [.I p1.ID,.I p1.Version]),(8,.ptr 108 0),(11,.ptr 111 0)] [(108,.box [.nil]),(111,.box [.I x8.ID,.al 5 (x8.ab.map ai.lv),.aJ T 4 1 (x8.ah.map LV.bool),.aJ T 88 3 (x8.Uses.map ay.lv),.bool x8.ae])] R ?_ ?_
  ·refine sN (aw bX bZ dq R R R (sN (bh R bZ e8 (br R (sX ((iT (f:=(ak.lt T)) dE cT cz R R ak.Cj uD R).ok) (sX ((nN R cT il cz R R).ok) ?_))))))
   exact sN (j0 (id:=111) R qH R R (s_ (cF R R R cT cz R R R zS)))
  refine LH.seq ?_
  obtain ⟨D9,hv,h⟩:=ao h
  refine LH.aj [(2,.I p2),(3,.I p3),(4,.ag [.aJ T 49 5 (List.map (ak.lt T) p0.aa)]),(5,.ag [.I p1.ID,.I p1.Version]),(8,.ptr 108 0),(11,.ptr 111 0),(54,.bool D9)] [(108,.box [.nil]),(111,.box [.I x8.ID,.al 5 (x8.ab.map ai.lv),.aJ T 4 1 (x8.ah.map LV.bool),.aJ T 88 3 (x8.Uses.map ay.lv),.bool x8.ae])] R ?_ ?_
  ·refine sN (dI ja jL lP R R (sN (dQ R R R R jL uN (bM R ?_))))
   by_cases eV:x8.ae=true
   ·replace hv:=aB hv eV
    refine sF R R eV (sF R R eV (sF R R eV (sF R R eV (sF R R eV (sF R R eV (sF R R eV (sF R R eV (sN (aZ (cB eV) (v:=(.bool _)) R ?_)))))))))
    obtain rfl:=oI hv
    exact zS
   ·replace eV:=bF eV
    replace hv:=aA hv eV
    refine sT R (cB eV) (dI dJ dZ gN R R (sT R (cB eV) (dQ R R R R dZ lM (sT R (cB eV) (aw fa aE bb R R R (sT R (cB eV) (bh R aE bN (sT R (cB eV) (iS R R ?_)))))))))
    obtain ⟨gG,pS,hv⟩:=ao hv
    refine Mx R (cB eV) ((iT (f:=LV.bool) jy jL lP R R okB pS R).ok) (Mx R (cB eV) ((o4 R jL uN).ok) (sT R (cB eV) (ic R (sN (aW (cB eV) (v:=(.bool _)) R ?_)))))
    obtain rfl:=oI hv
    exact zS
  clear hv
  refine LH.cond (t:=D9) R (fun oP=>?_) (fun oP=>?_)
  ·replace h:=aB h oP
   refine LH.aj [(8,.ag [.nil]),(9,.I 8)] [] R (sN (fU (vs:=[]) iB dH R fT (s_ (cF R R R bd bf R R R (bt R (s0 ((Wk.trans (aQ [(8,.ptr 108 0),(9,.I 8)] [(108,.box [.nil])]) (Wk.trans (Wk.bk 108 [.nil] R R R (bH R)) (Wk.eq R R R R)))))))))) (LH.ret (aU ?_))
   obtain rfl:=oI h
   exact aN (aT Tryz.results48) (cN R bd bW bf R R (bO R (bL ⟨aM mN,R,aX R,(Sub.cV (lj (Sub.agg (vG R bm)) (aI bm)))⟩)))
  replace h:=aA h oP
  refine LH.skip (au (LH.wk (aQ [(2,.I p2),(3,.I p3),(4,.ag [.aJ T 49 5 (List.map (ak.lt T) p0.aa)]),(5,.ag [.I p1.ID,.I p1.Version]),(8,.ptr 108 0),(11,.ptr 111 0)] [(108,.box [.nil]),(111,.box [.I x8.ID,.al 5 (x8.ab.map ai.lv),.aJ T 4 1 (x8.ah.map LV.bool),.aJ T 88 3 (x8.Uses.map ay.lv),.bool x8.ae])]) (LH.seq (LH.aj [(2,.I p2),(3,.I p3),(4,.ag [.aJ T 49 5 (List.map (ak.lt T) p0.aa)]),(5,.ag [.I p1.ID,.I p1.Version]),(8,.ptr 108 0),(11,.ptr 111 0),(12,.I 0)] [(108,.box [.nil]),(111,.box [.I x8.ID,.al 5 (x8.ab.map ai.lv),.aJ T 4 1 (x8.ah.map LV.bool),.aJ T 88 3 (x8.Uses.map ay.lv),.bool x8.ae])] R (bt R zS) (LH.block (LH.loop (fun n e m=>∃ (n14:Int),tI F p0 p1 p2 p3 x8 n n14=some r∧e=Env.of [(2,.I p2),(3,.I p3),(4,.ag [.aJ T 49 5 (List.map (ak.lt T) p0.aa)]),(5,.ag [.I p1.ID,.I p1.Version]),(8,.ptr 108 0),(11,.ptr 111 0),(12,.I n14)]∧m=Mem.of [(108,.box [.nil]),(111,.box [.I x8.ID,.al 5 (x8.ab.map ai.lv),.aJ T 4 1 (x8.ah.map LV.bool),.aJ T 88 3 (x8.Uses.map ay.lv),.bool x8.ae])]) F ⟨0,h,R,R⟩ ?_))))))
  clear h
  rintro n e m ⟨n14,h,rfl,rfl⟩
  rcases n with _ | n
  · cases (show Option.none=some _ from h)
  obtain ⟨aK,a7⟩:∃ f,f=tI F p0 p1 p2 p3 x8 n:=⟨_,rfl⟩
  replace h:yO F p0 p1 p2 p3 x8 aK n14=some r:=a7 ▸ h
  unfold yO at h
  refine LH.seq (LH.aj [(2,.I p2),(3,.I p3),(4,.ag [.aJ T 49 5 (List.map (ak.lt T) p0.aa)]),(5,.ag [.I p1.ID,.I p1.Version]),(8,.ptr 108 0),(11,.ptr 111 0),(12,.I n14),(60,.bool (decide (n14<(x8.Uses.length:Int))))] [(108,.box [.nil]),(111,.box [.I x8.ID,.al 5 (x8.ab.map ai.lv),.aJ T 4 1 (x8.ah.map LV.bool),.aJ T 88 3 (x8.Uses.map ay.lv),.bool x8.ae])] R (br R (sN (dI dK dS gZ R R (sN (dQ R R R R dS kx (sX ((tu (f:=ay.lv) iZ R).ok) (sN (fy R R zS)))))))) (LH.cond (t:=(decide (n14<(x8.Uses.length:Int)))) R (fun kD=>?_) (fun kD=>?_)))
  ·replace h:=aB h kD
   refine LH.skip (au (LH.wk (aQ [(2,.I p2),(3,.I p3),(4,.ag [.aJ T 49 5 (List.map (ak.lt T) p0.aa)]),(5,.ag [.I p1.ID,.I p1.Version]),(8,.ptr 108 0),(11,.ptr 111 0),(12,.I n14)] [(108,.box [.nil]),(111,.box [.I x8.ID,.al 5 (x8.ab.map ai.lv),.aJ T 4 1 (x8.ah.map LV.bool),.aJ T 88 3 (x8.Uses.map ay.lv),.bool x8.ae])]) (LH.seq (LH.block ?_))))
   obtain ⟨CE,wx,h⟩:=ao h
   refine LH.aj [(2,.I p2),(3,.I p3),(4,.ag [.aJ T 49 5 (List.map (ak.lt T) p0.aa)]),(5,.ag [.I p1.ID,.I p1.Version]),(8,.ptr 108 0),(11,.ptr 111 0),(12,.I n14),(70,.bool (CE.Form == p2))] [(108,.box [.nil]),(111,.box [.I x8.ID,.al 5 (x8.ab.map ai.lv),.aJ T 4 1 (x8.ah.map LV.bool),.aJ T 88 3 (x8.Uses.map ay.lv),.bool x8.ae])] R (sN (dI dK dS gZ R R (sN (dQ R R R R dS kx (br R (sX ((iT (f:=ay.lv) iZ rN l0 R R ay.ok wx R).ok) (sX ((tt xd aE bb R R R).ok) (sX ((o4 R aE bN).ok) (br R (sN (gr R R zS))))))))))) (LH.cond (t:=(CE.Form == p2)) R (fun kl=>?_) (fun kl=>?_))
   ·replace h:=aB h kl
    refine LH.aj [(8,.ag [.nil]),(9,.I 5)] [] R (sN (fU (vs:=[]) iB dH R fT (s_ (cF R R R bd bf R R R (bt R (s0 ((Wk.trans (aQ [(8,.ptr 108 0),(9,.I 5)] [(108,.box [.nil])]) (Wk.trans (Wk.bk 108 [.nil] R R R (bH R)) (Wk.eq R R R R)))))))))) (LH.ret (bD (aU (dW (bD (aU ?_))))))
    obtain rfl:=oI h
    exact aN (aT Tryz.results48) (cN R bd bW bf R R (bO R (bL ⟨aM mN,R,aX R,(Sub.cV (lj (Sub.agg (vG R bm)) (aI bm)))⟩)))
   replace h:=aA h kl
   refine LH.skip (aY (au (LH.aS [(2,.I p2),(3,.I p3),(4,.ag [.aJ T 49 5 (List.map (ak.lt T) p0.aa)]),(5,.ag [.I p1.ID,.I p1.Version]),(8,.ptr 108 0),(11,.ptr 111 0),(12,.I (i64 (n14+1)))] [(108,.box [.nil]),(111,.box [.I x8.ID,.al 5 (x8.ab.map ai.lv),.aJ T 4 1 (x8.ah.map LV.bool),.aJ T 88 3 (x8.Uses.map ay.lv),.bool x8.ae])] R (br R (sN (cI R R (bt R zS)))) ?_)))
   exact bl ⟨(i64 (n14+1)),a7 ▸ h,R,R⟩ (Wk.eq R R R R)
  replace h:=aA h kD
  refine LH.exit (cD (b6 (bP (au (LH.wk (aQ [(2,.I p2),(3,.I p3),(4,.ag [.aJ T 49 5 (List.map (ak.lt T) p0.aa)]),(5,.ag [.I p1.ID,.I p1.Version]),(8,.ptr 108 0),(11,.ptr 111 0)] [(108,.box [.nil]),(111,.box [.I x8.ID,.al 5 (x8.ab.map ai.lv),.aJ T 4 1 (x8.ah.map LV.bool),.aJ T 88 3 (x8.Uses.map ay.lv),.bool x8.ae])]) (LH.seq (LH.aj [(2,.I p2),(3,.I p3),(4,.ag [.aJ T 49 5 (List.map (ak.lt T) p0.aa)]),(5,.ag [.I p1.ID,.I p1.Version]),(8,.ptr 108 0),(11,.ptr 111 0),(75,.bool ((x8.Uses.length:Int) == 300))] [(108,.box [.nil]),(111,.box [.I x8.ID,.al 5 (x8.ab.map ai.lv),.aJ T 4 1 (x8.ah.map LV.bool),.aJ T 88 3 (x8.Uses.map ay.lv),.bool x8.ae])] R (sN (dI dK dS gZ R R (sN (dQ R R R R dS kx (sX ((tu (f:=ay.lv) iZ R).ok) (sN (gr R R zS))))))) (LH.cond (t:=((x8.Uses.length:Int) == 300)) R (fun km=>?_) (fun km=>?_)))))))))
  ·replace h:=aB h km
   refine LH.aj [(8,.ag [.nil]),(9,.I 3)] [] R (sN (fU (vs:=[]) iB dH R fT (s_ (cF R R R bd bf R R R (bt R (s0 ((Wk.trans (aQ [(8,.ptr 108 0),(9,.I 3)] [(108,.box [.nil])]) (Wk.trans (Wk.bk 108 [.nil] R R R (bH R)) (Wk.eq R R R R)))))))))) (LH.ret (aU ?_))
   obtain rfl:=oI h
   exact aN (aT Tryz.results48) (cN R bd bW bf R R (bO R (bL ⟨aM mN,R,aX R,(Sub.cV (lj (Sub.agg (vG R bm)) (aI bm)))⟩)))
  replace h:=aA h km
  refine LH.skip (au (LH.aj [(2,.I p2),(3,.I p3),(4,.ag [.aJ T 49 5 (List.map (ak.lt T) p0.aa)]),(5,.ag [.I p1.ID,.I p1.Version]),(8,.ptr 108 0),(11,.ptr 111 0),(13,.nil)] [(108,.box [.nil]),(111,.box [.I x8.ID,.al 5 (x8.ab.map ai.lv),.aJ T 4 1 (x8.ah.map LV.bool),.aJ T 88 3 (x8.Uses.map ay.lv),.bool x8.ae])] R (k9 R zS) ?_))
  obtain ⟨rm,FI,h⟩:=ao h
  refine LH.aj [(2,.I p2),(3,.I p3),(4,.ag [.aJ T 49 5 (List.map (ak.lt T) p0.aa)]),(5,.ag [.I p1.ID,.I p1.Version]),(8,.ptr 108 0),(11,.ptr 111 0),(13,.arr 180 rm.length)] [(108,.box [.nil]),(111,.box [.I x8.ID,.al 5 (x8.ab.map ai.lv),.aJ T 4 1 (x8.ah.map LV.bool),.aJ T 88 3 (x8.Uses.map ay.lv),.bool x8.ae]),(180,.arr 88 3 (rm.map ay.lv))] R (IG R (sN (dI dK dS gZ R R (sN (dQ R R R R dS kx (sN (F7 (f:=ay.lv) (id:=180) R iZ BF l0 R R FI R (nQ R zS)))))))) ?_
  obtain ⟨v20,LC,h⟩:=ao h
  refine LH.aj [(4,.ag [.aJ T 49 5 (List.map (ak.lt T) p0.aa)]),(8,.ptr 108 0),(11,.ag [.I x8.ID,.al 5 (x8.ab.map ai.lv),.aJ T 4 1 (x8.ah.map LV.bool),.aJ T 88 3 (v20.map ay.lv),.bool x8.ae])] [(108,.box [.nil])] R (jQ R (sN (aw fa aE bb R R R (sN (bh R aE bN (br R (br R (sN (fU (vs:=[(0,.I p1.Version),(1,.I p2),(2,.I p3)]) MD IN R (lf pg bb aE R R R (lf xd bb aE R R R (lf BC bb aE R R R fT))) (sN (ka (f:=ay.lv) (ys:=[(ay.mk p1.Version p2 p3)]) iZ BF l0 R R R ay.ok (sN (nL (f:=ay.lv) iZ BF l0 R R (bH R) R LC (sN (dI dK dS gZ R R (s_ (cF R R R dS gZ R R R (s0 ((Wk.trans (aQ [(4,.ag [.aJ T 49 5 (List.map (ak.lt T) p0.aa)]),(8,.ptr 108 0),(11,.ptr 111 0)] [(108,.box [.nil]),(111,.box [.I x8.ID,.al 5 (x8.ab.map ai.lv),.aJ T 4 1 (x8.ah.map LV.bool),.arr 180 v20.length,.bool x8.ae]),(180,.arr 88 3 (v20.map ay.lv))]) (Wk.trans (aQ [(4,.ag [.aJ T 49 5 (List.map (ak.lt T) p0.aa)]),(8,.ptr 108 0),(11,.ptr 111 0)] [(108,.box [.nil]),(111,.box [.I x8.ID,.al 5 (x8.ab.map ai.lv),.aJ T 4 1 (x8.ah.map LV.bool),.arr 180 v20.length,.bool x8.ae]),(180,.arr 88 3 (v20.map ay.lv))]) (Wk.trans (Wk.trans (Wk.sM (f:=ay.lv) T 180 88 3 v20 111 R R R (I4 R (I4 R (I4 R (Nu (I4 R Nt))))) R R (bH R)) (aQ [(4,.ag [.aJ T 49 5 (List.map (ak.lt T) p0.aa)]),(8,.ptr 108 0),(11,.ptr 111 0)] [(108,.box [.nil]),(111,.box [.I x8.ID,.al 5 (x8.ab.map ai.lv),.aJ T 4 1 (x8.ah.map LV.bool),.aJ T 88 3 (v20.map ay.lv),.bool x8.ae])])) (Wk.trans (Wk.bk 111 [.I x8.ID,.al 5 (x8.ab.map ai.lv),.aJ T 4 1 (x8.ah.map LV.bool),.aJ T 88 3 (v20.map ay.lv),.bool x8.ae] R R R (bH R)) (Wk.eq R R R R)))))))))))))))))))))))) ?_
  obtain ⟨eS,wo,h⟩:=ao h
  refine LH.aj [(8,.ag [.aJ T 49 5 (List.map (ak.lt T) eS.aa)]),(9,.I 0)] [] R (sN (bc R bd bW bf R R (sN (bc R cT il cz R R (sN (ej (args:=[.agg [.aJ T 49 5 (List.map (ak.lt T) p0.aa)],.agg [.I x8.ID,.al 5 (x8.ab.map ai.lv),.aJ T 4 1 (x8.ah.map LV.bool),.aJ T 88 3 (v20.map ay.lv),.bool x8.ae]]) R ye R (aI (aI bm)) (yP (T:=T) wo) R (s_ (cF R R R bd bf R R R (bt R (s0 ((Wk.trans (aQ [(8,.ptr 108 0),(9,.I 0)] [(108,.box [.aJ T 49 5 (List.map (ak.lt T) eS.aa)])]) (Wk.trans (Wk.bk 108 [.aJ T 49 5 (List.map (ak.lt T) eS.aa)] R R R (bH R)) (Wk.eq R R R R)))))))))))))) (LH.ret ?_)
  obtain rfl:=oI h
  exact aN (aT Tryz.results48) (cN R bd bW bf R R (bO R (bL ⟨aM mN,R,aX R,(Sub.cV (aI (aI bm)))⟩)))
theorem JW {T:Bool} {F:Nat} {p0:aG} {p1:Int} {p2:Bool} {r:aG × Int} (h:DS F p0 p1 p2=some r):aO Tryz.prog 49 [.agg [.aJ T 49 5 (List.map (ak.lt T) p0.aa)],.I p1,.bool p2] (Mem.of []) (.cV [.agg [.aJ T 49 5 (List.map (ak.lt T) r.1.aa)],.I r.2]) (Mem.of []):=by
  unfold DS at h
  refine bx Tryz.func49 R (nT Tryz.ntmps49 R) (LH.wk (aQ [(0,.agg [.aJ T 49 5 (List.map (ak.lt T) p0.aa)]),(1,.I p1),(2,.bool p2)] []) (LH.aj [(1,.I p1),(2,.bool p2),(3,.ag [.aJ T 49 5 (List.map (ak.lt T) p0.aa)]),(6,.ptr 106 0)] [(106,.box [.nil])] R (sB (de R R R R (sN (j0 (id:=106) R dH R R (bt R zS))))) ?_))
  obtain ⟨r1,ei,h⟩:=ao h
  refine LH.aj [(2,.bool p2),(3,.ag [.aJ T 49 5 (List.map (ak.lt T) p0.aa)]),(6,.ptr 106 0),(8,.I r1)] [(106,.box [.nil])] R (sN (bc R bd bW bf R R (br R (sN (ej (args:=[.agg [.aJ T 49 5 (List.map (ak.lt T) p0.aa)],.I p1]) R yd R (aI (aI bm)) (aO.view (yN ei) (eY (Rel.agg (eY (Rel.aJ ak.p5 (fun _=>R)) lX)) (eY Rel.int lX)) R R) R (bt R zS)))))) (LH.seq (LH.aj [(2,.bool p2),(3,.ag [.aJ T 49 5 (List.map (ak.lt T) p0.aa)]),(6,.ptr 106 0),(8,.I r1),(14,.bool (decide (r1<0)))] [(106,.box [.nil])] R (br R (sN (fy R R zS))) (LH.cond (t:=(decide (r1<0))) R (fun fG=>?_) (fun fG=>?_))))
  ·replace h:=aB h fG
   refine LH.aj [(6,.ag [.nil]),(7,.I 4)] [] R (sN (fU (vs:=[]) iB dH R fT (s_ (cF R R R bd bf R R R (bt R (s0 ((Wk.trans (aQ [(6,.ptr 106 0),(7,.I 4)] [(106,.box [.nil])]) (Wk.trans (Wk.bk 106 [.nil] R R R (bH R)) (Wk.eq R R R R)))))))))) (LH.ret (aU ?_))
   obtain rfl:=oI h
   exact aN (aT Tryz.results49) (cN R bd bW bf R R (bO R (bL ⟨aM mN,R,aX R,(Sub.cV (lj (Sub.agg (vG R bm)) (aI bm)))⟩)))
  replace h:=aA h fG
  refine LH.skip (au ?_)
  obtain ⟨x3,gj,h⟩:=ao h
  refine LH.aj [(2,.bool p2),(3,.ag [.aJ T 49 5 (List.map (ak.lt T) p0.aa)]),(6,.ptr 106 0),(9,.ptr 109 0)] [(106,.box [.nil]),(109,.box [.I x3.ID,.al 5 (x3.ab.map ai.lv),.aJ T 4 1 (x3.ah.map LV.bool),.aJ T 88 3 (x3.Uses.map ay.lv),.bool x3.ae])] R ?_ ?_
  ·refine sN (aw bX bZ dq R R R (sN (bh R bZ e8 (br R (sX ((iT (f:=(ak.lt T)) dE cT cz R R ak.Cj gj R).ok) (sX ((nN R cT il cz R R).ok) ?_))))))
   exact sN (j0 (id:=109) R qH R R (s_ (cF R R R cT cz R R R zS)))
  refine LH.seq (LH.aj [(2,.bool p2),(3,.ag [.aJ T 49 5 (List.map (ak.lt T) p0.aa)]),(6,.ptr 106 0),(9,.ptr 109 0),(24,.bool (x3.ae == p2))] [(106,.box [.nil]),(109,.box [.I x3.ID,.al 5 (x3.ab.map ai.lv),.aJ T 4 1 (x3.ah.map LV.bool),.aJ T 88 3 (x3.Uses.map ay.lv),.bool x3.ae])] R (sN (dI ja jL lP R R (sN (dQ R R R R jL uN (bM R (sN (PV R R RH zS))))))) (LH.cond (t:=(x3.ae == p2)) R (fun hT=>?_) (fun hT=>?_)))
  ·replace h:=aB h hT
   refine LH.aj [(6,.ag [.nil]),(7,.I 8)] [] R (sN (fU (vs:=[]) iB dH R fT (s_ (cF R R R bd bf R R R (bt R (s0 ((Wk.trans (aQ [(6,.ptr 106 0),(7,.I 8)] [(106,.box [.nil])]) (Wk.trans (Wk.bk 106 [.nil] R R R (bH R)) (Wk.eq R R R R)))))))))) (LH.ret (aU ?_))
   obtain rfl:=oI h
   exact aN (aT Tryz.results49) (cN R bd bW bf R R (bO R (bL ⟨aM mN,R,aX R,(Sub.cV (lj (Sub.agg (vG R bm)) (aI bm)))⟩)))
  replace h:=aA h hT
  refine LH.skip (au (LH.aj [(3,.ag [.aJ T 49 5 (List.map (ak.lt T) p0.aa)]),(6,.ptr 106 0),(9,.ag [.I x3.ID,.al 5 (x3.ab.map ai.lv),.aJ T 4 1 (x3.ah.map LV.bool),.aJ T 88 3 (x3.Uses.map ay.lv),.bool p2])] [(106,.box [.nil])] R (bM R (sN (dI ja jL lP R R (s_ (cF R R R jL lP R R R (s0 ((Wk.trans (aQ [(3,.ag [.aJ T 49 5 (List.map (ak.lt T) p0.aa)]),(6,.ptr 106 0),(9,.ptr 109 0)] [(106,.box [.nil]),(109,.box [.I x3.ID,.al 5 (x3.ab.map ai.lv),.aJ T 4 1 (x3.ah.map LV.bool),.aJ T 88 3 (x3.Uses.map ay.lv),.bool p2])]) (Wk.trans (Wk.bk 109 [.I x3.ID,.al 5 (x3.ab.map ai.lv),.aJ T 4 1 (x3.ah.map LV.bool),.aJ T 88 3 (x3.Uses.map ay.lv),.bool p2] R R R (bH R)) (Wk.eq R R R R)))))))))) ?_))
  obtain ⟨r5,AQ,h⟩:=ao h
  refine LH.aj [(6,.ag [.aJ T 49 5 (List.map (ak.lt T) r5.aa)]),(7,.I 0)] [] R (sN (bc R bd bW bf R R (sN (bc R cT il cz R R (sN (ej (args:=[.agg [.aJ T 49 5 (List.map (ak.lt T) p0.aa)],.agg [.I x3.ID,.al 5 (x3.ab.map ai.lv),.aJ T 4 1 (x3.ah.map LV.bool),.aJ T 88 3 (x3.Uses.map ay.lv),.bool p2]]) R ye R (aI (aI bm)) (yP (T:=T) AQ) R (s_ (cF R R R bd bf R R R (bt R (s0 ((Wk.trans (aQ [(6,.ptr 106 0),(7,.I 0)] [(106,.box [.aJ T 49 5 (List.map (ak.lt T) r5.aa)])]) (Wk.trans (Wk.bk 106 [.aJ T 49 5 (List.map (ak.lt T) r5.aa)] R R R (bH R)) (Wk.eq R R R R)))))))))))))) (LH.ret ?_)
  obtain rfl:=oI h
  exact aN (aT Tryz.results49) (cN R bd bW bf R R (bO R (bL ⟨aM mN,R,aX R,(Sub.cV (aI (aI bm)))⟩)))
theorem J2 {T:Bool} {F:Nat} {p0:aG} {p1:ax} {r:aG × Int} (h:tL F p0 p1=some r):aO Tryz.prog 26 [.agg [.aJ T 49 5 (List.map (ak.lt T) p0.aa)],ax.lv p1] (Mem.of []) (.cV [.agg [.aJ T 49 5 (List.map (ak.lt T) r.1.aa)],.I r.2]) (Mem.of []):=by
  unfold tL at h
  refine bx Tryz.func26 R (nT Tryz.ntmps26 R) (LH.wk (aQ [(0,.agg [.aJ T 49 5 (List.map (ak.lt T) p0.aa)]),(1,ax.lv p1)] []) (LH.aj [(2,.ag [.aJ T 49 5 (List.map (ak.lt T) p0.aa)]),(3,.ag (ax.lv p1).cells),(4,.ptr 104 0)] [(104,.box [.nil])] R (sB (de R R R R (sB (de R R R R (sN (j0 (id:=104) R dH R R (bt R zS))))))) (LH.seq ?_)))
  obtain ⟨r1,ei,h⟩:=ao h
  refine LH.aj [(2,.ag [.aJ T 49 5 (List.map (ak.lt T) p0.aa)]),(3,.ag (ax.lv p1).cells),(4,.ptr 104 0),(8,.bool (!r1))] [(104,.box [.nil])] R (sN (bc R bd bW bf R R (sN (ej (args:=[.agg [.aJ T 49 5 (List.map (ak.lt T) p0.aa)]]) R O2 R (aI bm) (aO.view (Qw ei) (eY (Rel.agg (eY (Rel.aJ ak.p5 (fun _=>R)) lX)) lX) R R) R (sN (ic R zS)))))) (LH.cond (t:=(!r1)) R (fun fG=>?_) (fun fG=>?_))
  ·replace h:=aB h fG
   refine LH.aj [(4,.ag [.nil]),(5,.I 1)] [] R (sN (fU (vs:=[]) iB dH R fT (s_ (cF R R R bd bf R R R (bt R (s0 ((Wk.trans (aQ [(4,.ptr 104 0),(5,.I 1)] [(104,.box [.nil])]) (Wk.trans (Wk.bk 104 [.nil] R R R (bH R)) (Wk.eq R R R R)))))))))) (LH.ret (aU ?_))
   obtain rfl:=oI h
   exact aN (aT Tryz.results26) (cN R bd bW bf R R (bO R (bL ⟨aM mN,R,aX R,(Sub.cV (lj (Sub.agg (vG R bm)) (aI bm)))⟩)))
  replace h:=aA h fG
  refine LH.skip (au (LH.wk (aQ [(2,.ag [.aJ T 49 5 (List.map (ak.lt T) p0.aa)]),(3,.ag (ax.lv p1).cells),(4,.ptr 104 0)] [(104,.box [.nil])]) (LH.seq (LH.aj [(2,.ag [.aJ T 49 5 (List.map (ak.lt T) p0.aa)]),(3,.ag (ax.lv p1).cells),(4,.ptr 104 0),(11,.I p1.Kind)] [(104,.box [.nil])] R (sN (aw dM aE bb R R R (sN (bh R aE bN zS)))) (LH.block (LH.aj [(2,.ag [.aJ T 49 5 (List.map (ak.lt T) p0.aa)]),(3,.ag (ax.lv p1).cells),(4,.ptr 104 0),(11,.I p1.Kind),(12,.bool (p1.Kind == 1))] [(104,.box [.nil])] R (sN (gr R R (ct R zS))) (LH.cond (t:=(p1.Kind == 1)) R (fun ix=>?_) (fun ix=>?_))))))))
  ·replace h:=aB h ix
   obtain ⟨r4,Fw,h⟩:=ao h
   refine LH.aj [(4,.ag [.aJ T 49 5 (List.map (ak.lt T) r4.1.aa)]),(5,.I r4.2)] [] R (sN (bc R bd bW bf R R (sN (aw fe cv cd R R R (sN (bc R cv eZ cd R R (sN (ej (args:=[.agg [.aJ T 49 5 (List.map (ak.lt T) p0.aa)],ai.lv p1.Item]) R O6 R (aI (aI bm)) (Qs (T:=T) Fw) R (sN (fV R R (sN (fV R R (s_ (cF R R R bd bf R R R (bt R (s0 ((Wk.trans (aQ [(4,.ptr 104 0),(5,.I r4.2)] [(104,.box [.aJ T 49 5 (List.map (ak.lt T) r4.1.aa)])]) (Wk.trans (Wk.bk 104 [.aJ T 49 5 (List.map (ak.lt T) r4.1.aa)] R R R (bH R)) (Wk.eq R R R R)))))))))))))))))))) (LH.ret (bD (aU ?_)))
   obtain rfl:=oI h
   exact aN (aT Tryz.results26) (cN R bd bW bf R R (bO R (bL ⟨aM mN,R,aX R,(Sub.cV (aI (aI bm)))⟩)))
  replace h:=aA h ix
  refine LH.aj [(2,.ag [.aJ T 49 5 (List.map (ak.lt T) p0.aa)]),(3,.ag (ax.lv p1).cells),(4,.ptr 104 0),(11,.I p1.Kind),(20,.bool (p1.Kind == 2))] [(104,.box [.nil])] R (sN (gr R R (ct R zS))) (LH.cond (t:=(p1.Kind == 2)) R (fun kM=>?_) (fun kM=>?_))
  ·replace h:=aB h kM
   obtain ⟨r6,Dj,h⟩:=ao h
   refine LH.aj [(4,.ag [.aJ T 49 5 (List.map (ak.lt T) r6.1.aa)]),(5,.I r6.2)] [] R (sN (bc R bd bW bf R R (sN (aw fe cv cd R R R (sN (bc R cv eZ cd R R (sN (ej (args:=[.agg [.aJ T 49 5 (List.map (ak.lt T) p0.aa)],ai.lv p1.Item]) R O7 R (aI (aI bm)) (Qo (T:=T) Dj) R (sN (fV R R (sN (fV R R (s_ (cF R R R bd bf R R R (bt R (s0 ((Wk.trans (aQ [(4,.ptr 104 0),(5,.I r6.2)] [(104,.box [.aJ T 49 5 (List.map (ak.lt T) r6.1.aa)])]) (Wk.trans (Wk.bk 104 [.aJ T 49 5 (List.map (ak.lt T) r6.1.aa)] R R R (bH R)) (Wk.eq R R R R)))))))))))))))))))) (LH.ret (bD (aU ?_)))
   obtain rfl:=oI h
   exact aN (aT Tryz.results26) (cN R bd bW bf R R (bO R (bL ⟨aM mN,R,aX R,(Sub.cV (aI (aI bm)))⟩)))
  replace h:=aA h kM
  refine LH.aj [(2,.ag [.aJ T 49 5 (List.map (ak.lt T) p0.aa)]),(3,.ag (ax.lv p1).cells),(4,.ptr 104 0),(11,.I p1.Kind),(28,.bool (p1.Kind == 3))] [(104,.box [.nil])] R (sN (gr R R (ct R zS))) (LH.cond (t:=(p1.Kind == 3)) R (fun jd=>?_) (fun jd=>?_))
  ·replace h:=aB h jd
   obtain ⟨r8,Lt,h⟩:=ao h
   refine LH.aj [(4,.ag [.aJ T 49 5 (List.map (ak.lt T) r8.1.aa)]),(5,.I r8.2)] [] R (sN (bc R bd bW bf R R (sN (aw e5 gM gA R R R (sN (bc R gM wZ gA R R (sN (ej (args:=[.agg [.aJ T 49 5 (List.map (ak.lt T) p0.aa)],.agg [.I p1.Ref.ID,.I p1.Ref.Version]]) R O8 R (aI (aI bm)) (Qk (T:=T) Lt) R (sN (fV R R (sN (fV R R (s_ (cF R R R bd bf R R R (bt R (s0 ((Wk.trans (aQ [(4,.ptr 104 0),(5,.I r8.2)] [(104,.box [.aJ T 49 5 (List.map (ak.lt T) r8.1.aa)])]) (Wk.trans (Wk.bk 104 [.aJ T 49 5 (List.map (ak.lt T) r8.1.aa)] R R R (bH R)) (Wk.eq R R R R)))))))))))))))))))) (LH.ret (bD (aU ?_)))
   obtain rfl:=oI h
   exact aN (aT Tryz.results26) (cN R bd bW bf R R (bO R (bL ⟨aM mN,R,aX R,(Sub.cV (aI (aI bm)))⟩)))
  replace h:=aA h jd
  refine LH.aj [(2,.ag [.aJ T 49 5 (List.map (ak.lt T) p0.aa)]),(3,.ag (ax.lv p1).cells),(4,.ptr 104 0),(11,.I p1.Kind),(36,.bool (p1.Kind == 4))] [(104,.box [.nil])] R (sN (gr R R (ct R zS))) (LH.cond (t:=(p1.Kind == 4)) R (fun uh=>?_) (fun uh=>?_))
  ·replace h:=aB h uh
   obtain ⟨dG,qu,h⟩:=ao h
   refine LH.aj [(4,.ag [.aJ T 49 5 (List.map (ak.lt T) dG.1.aa)]),(5,.I dG.2)] [] R (sN (bc R bd bW bf R R (sN (aw e5 gM gA R R R (sN (bc R gM wZ gA R R (sN (aw lg aE bb R R R (sN (bh R aE bN (sN (aw di cc b7 R R R (sN (aw fc aE bb R R R (sN (bh R aE bN (sN (ej (args:=[.agg [.aJ T 49 5 (List.map (ak.lt T) p0.aa)],.agg [.I p1.Ref.ID,.I p1.Ref.Version],.I p1.Form,.I p1.ar.Time]) R O9 R (aI (aI (aI (aI bm)))) (QD (T:=T) qu) R (sN (fV R R (sN (fV R R (s_ (cF R R R bd bf R R R (bt R (s0 ((Wk.trans (aQ [(4,.ptr 104 0),(5,.I dG.2)] [(104,.box [.aJ T 49 5 (List.map (ak.lt T) dG.1.aa)])]) (Wk.trans (Wk.bk 104 [.aJ T 49 5 (List.map (ak.lt T) dG.1.aa)] R R R (bH R)) (Wk.eq R R R R)))))))))))))))))))))))))))))) (LH.ret (bD (aU ?_)))
   obtain rfl:=oI h
   exact aN (aT Tryz.results26) (cN R bd bW bf R R (bO R (bL ⟨aM mN,R,aX R,(Sub.cV (aI (aI bm)))⟩)))
  replace h:=aA h uh
  refine LH.aj [(2,.ag [.aJ T 49 5 (List.map (ak.lt T) p0.aa)]),(3,.ag (ax.lv p1).cells),(4,.ptr 104 0),(11,.I p1.Kind),(49,.bool (p1.Kind == 5))] [(104,.box [.nil])] R (sN (gr R R (ct R zS))) (LH.cond (t:=(p1.Kind == 5)) R (fun iL=>?_) (fun iL=>?_))
  ·replace h:=aB h iL
   obtain ⟨dD,Ft,h⟩:=ao h
   refine LH.aj [(4,.ag [.aJ T 49 5 (List.map (ak.lt T) dD.1.aa)]),(5,.I dD.2)] [] R (sN (bc R bd bW bf R R (sN (aw e5 gM gA R R R (sN (aw jK aE bb R R R (sN (bh R aE bN (sN (ej (args:=[.agg [.aJ T 49 5 (List.map (ak.lt T) p0.aa)],.I p1.Ref.ID,.bool true]) R Jw R (aI (aI (aI bm))) (JW (T:=T) Ft) R (sN (fV R R (sN (fV R R (s_ (cF R R R bd bf R R R (bt R (s0 ((Wk.trans (aQ [(4,.ptr 104 0),(5,.I dD.2)] [(104,.box [.aJ T 49 5 (List.map (ak.lt T) dD.1.aa)])]) (Wk.trans (Wk.bk 104 [.aJ T 49 5 (List.map (ak.lt T) dD.1.aa)] R R R (bH R)) (Wk.eq R R R R)))))))))))))))))))))) (LH.ret (bD (aU ?_)))
   obtain rfl:=oI h
   exact aN (aT Tryz.results26) (cN R bd bW bf R R (bO R (bL ⟨aM mN,R,aX R,(Sub.cV (aI (aI bm)))⟩)))
  replace h:=aA h iL
  refine LH.aj [(2,.ag [.aJ T 49 5 (List.map (ak.lt T) p0.aa)]),(3,.ag (ax.lv p1).cells),(4,.ptr 104 0),(58,.bool (p1.Kind == 6))] [(104,.box [.nil])] R (sN (gr R R (ct R zS))) (LH.cond (t:=(p1.Kind == 6)) R (fun oP=>?_) (fun oP=>?_))
  ·replace h:=aB h oP
   obtain ⟨e7,tc,h⟩:=ao h
   refine LH.aj [(4,.ag [.aJ T 49 5 (List.map (ak.lt T) e7.1.aa)]),(5,.I e7.2)] [] R (sN (bc R bd bW bf R R (sN (aw e5 gM gA R R R (sN (aw jK aE bb R R R (sN (bh R aE bN (sN (ej (args:=[.agg [.aJ T 49 5 (List.map (ak.lt T) p0.aa)],.I p1.Ref.ID,.bool false]) R Jw R (aI (aI (aI bm))) (JW (T:=T) tc) R (sN (fV R R (sN (fV R R (s_ (cF R R R bd bf R R R (bt R (s0 ((Wk.trans (aQ [(4,.ptr 104 0),(5,.I e7.2)] [(104,.box [.aJ T 49 5 (List.map (ak.lt T) e7.1.aa)])]) (Wk.trans (Wk.bk 104 [.aJ T 49 5 (List.map (ak.lt T) e7.1.aa)] R R R (bH R)) (Wk.eq R R R R)))))))))))))))))))))) (LH.ret (bD (aU ?_)))
   obtain rfl:=oI h
   exact aN (aT Tryz.results26) (cN R bd bW bf R R (bO R (bL ⟨aM mN,R,aX R,(Sub.cV (aI (aI bm)))⟩)))
  replace h:=aA h oP
  refine LH.skip (aY (au (LH.aj [(4,.ag [.nil]),(5,.I 2)] [] R (sN (fU (vs:=[]) iB dH R fT (s_ (cF R R R bd bf R R R (bt R (s0 ((Wk.trans (aQ [(4,.ptr 104 0),(5,.I 2)] [(104,.box [.nil])]) (Wk.trans (Wk.bk 104 [.nil] R R R (bH R)) (Wk.eq R R R R)))))))))) (LH.ret ?_))))
  obtain rfl:=oI h
  exact aN (aT Tryz.results26) (cN R bd bW bf R R (bO R (bL ⟨aM mN,R,aX R,(Sub.cV (lj (Sub.agg (vG R bm)) (aI bm)))⟩)))
theorem Qu {F:Nat} {p0:aG} {p1:ax} {r:aG × Int} (h:tL F p0 p1=some r):aO Tryz.prog 26 [.agg [.al 5 (p0.aa.map ak.lv)],ax.lv p1] (Mem.of []) (.cV [.agg [.al 5 (r.1.aa.map ak.lv)],.I r.2]) (Mem.of []):=((J2 (T:=false) h).sub (lj (Sub.agg (lj (Sub.trans (Sub.FX ak.T9 (fun _=>rfl)) Sub.Ii) bm)) (aI bm))).res (fo.head (lj (Sub.cV (lj (Sub.agg (lj (Sub.trans Sub.IL (Sub.FX ak.T8 (fun _=>rfl))) bm)) (aI bm))) bm))
theorem Qv {T:Bool} {F:Nat} {p0:List ax} {p1:Int} {r:aG × List cg × Int} (h:y3 F p0 p1=some r):aO Tryz.prog 11 [.al 12 (p0.map ax.lv),.I p1] (Mem.of []) (.cV [.agg [.aJ T 49 5 (List.map (ak.lt T) r.1.aa)],.al 3 (r.2.1.map cg.lv),.I r.2.2]) (Mem.of []):=by
  unfold y3 at h
  refine bx Tryz.func11 R (nT Tryz.ntmps11 R) (LH.wk (aQ [(0,.al 12 (p0.map ax.lv)),(1,.I p1)] []) (LH.aj [(0,.al 12 (p0.map ax.lv)),(1,.I p1),(4,.ptr 104 0)] [(104,.box [.nil])] R (sN (j0 (id:=104) R dH R R (k9 R (bt R zS)))) ?_))
  obtain ⟨r1,ei,h⟩:=ao h
  refine LH.aj [(1,.I p1),(4,.ptr 104 0),(7,.al 12 (r1.1.map ax.lv)),(8,.I r1.2)] [(104,.box [.nil])] R (fh R (sN (ej (args:=[.al 12 (p0.map ax.lv)]) R O0 R (aI bm) (Qd ei) R (wU R (sN (fV R R (sN (fV R R (qB R (bt R zS)))))))))) (LH.seq (LH.aj [(1,.I p1),(4,.ptr 104 0),(7,.al 12 (r1.1.map ax.lv)),(8,.I r1.2),(20,.bool (r1.2 != 0))] [(104,.box [.nil])] R (br R (sN (iR R R zS))) (LH.cond (t:=(r1.2 != 0)) R (fun fG=>?_) (fun fG=>?_))))
  ·replace h:=aB h fG
   refine LH.aj [(4,.ag [.nil]),(5,.nil),(6,.I r1.2)] [] R (sN (fU (vs:=[]) iB dH R fT (br R (s_ (cF R R R bd bf R R R (k9 R (bt R (s0 ((Wk.trans (aQ [(4,.ptr 104 0),(5,.nil),(6,.I r1.2)] [(104,.box [.nil])]) (Wk.trans (Wk.bk 104 [.nil] R R R (bH R)) (Wk.eq R R R R)))))))))))) (LH.ret (aU ?_))
   obtain rfl:=oI h
   exact aN (aT Tryz.results11) (cN R bd bW bf R R (bO R (bO R (bL ⟨aM mN,R,aX R,(Sub.cV (lj (Sub.agg (vG R bm)) (qC (aI bm))))⟩))))
  replace h:=aA h fG
  refine LH.skip (au (LH.aj [(1,.I p1),(4,.ptr 104 0),(7,.al 12 (r1.1.map ax.lv)),(9,.ptr 109 0)] [(104,.box [.nil]),(109,.box [.nil])] R (sN (j0 (id:=109) R dH R R zS)) (LH.aj [(1,.I p1),(4,.ptr 104 0),(7,.al 12 (r1.1.map ax.lv)),(9,.ptr 109 0),(10,.nil)] [(104,.box [.nil]),(109,.box [.nil])] R (k9 R zS) (LH.seq (LH.aj [(1,.I p1),(4,.ptr 104 0),(7,.al 12 (r1.1.map ax.lv)),(9,.ptr 109 0),(10,.nil),(11,.I 0)] [(104,.box [.nil]),(109,.box [.nil])] R (bt R zS) (LH.block (LH.wk ((Wk.trans (aQ [(1,.I p1),(4,.ptr 104 0),(7,.al 12 (r1.1.map ax.lv)),(9,.ptr 109 0),(10,.nil),(11,.I 0)] [(104,.box [.nil]),(109,.box [.nil])]) (Wk.trans (aQ [(1,.I p1),(4,.ptr 104 0),(7,.al 12 (r1.1.map ax.lv)),(9,.ptr 109 0),(10,.nil),(11,.I 0)] [(104,.box [.nil]),(109,.box [.nil])]) (Wk.trans (Wk.tC (fB:=[(1,.I p1),(4,.ptr 104 0),(7,.al 12 (r1.1.map ax.lv)),(9,.ptr 109 0),(10,.arr 165 (List.length ([]:List cg))),(11,.I 0)]) 165 84 3 R R (wK (wK (wK (wK (wO (wK wN))))))) (Wk.trans (aQ [(1,.I p1),(4,.ptr 104 0),(7,.al 12 (r1.1.map ax.lv)),(9,.ptr 109 0),(10,.arr 165 (List.length ([]:List cg))),(11,.I 0)] [(104,.box [.nil]),(109,.box [.nil]),(165,.arr 84 3 (List.map cg.lv ([]:List cg)))]) (Wk.trans (Wk.vf 10090 49 5 109 0 R R R R R (bH R)) (Wk.trans (aQ [(1,.I p1),(4,.ptr 104 0),(7,.al 12 (r1.1.map ax.lv)),(9,.ptr 109 0),(10,.arr 165 (List.length ([]:List cg))),(11,.I 0)] [(104,.box [.nil]),(109,.box [.arr 10090 (List.length ([]:List ak))]),(165,.arr 84 3 (List.map cg.lv ([]:List cg))),(10090,.arr 49 5 (List.map (ak.lt T) ([]:List ak)))]) (Wk.trans (Wk.trans (Wk.sM (f:=(ak.lt T)) T 10090 49 5 ([]:List ak) 109 R R R (Nu Nt) R R (bH R)) (aQ [(1,.I p1),(4,.ptr 104 0),(7,.al 12 (r1.1.map ax.lv)),(9,.ptr 109 0),(10,.arr 165 (List.length ([]:List cg))),(11,.I 0)] [(104,.box [.nil]),(109,.box [.aJ T 49 5 (List.map (ak.lt T) ([]:List ak))]),(165,.arr 84 3 (List.map cg.lv ([]:List cg)))])) (aQ [(1,.I p1),(4,.ptr 104 0),(7,.al 12 (r1.1.map ax.lv)),(9,.ptr 109 0),(10,.arr 165 (List.length ([]:List cg))),(11,.I 0)] [(104,.box [.nil]),(109,.box [.aJ T 49 5 (List.map (ak.lt T) ([]:List ak))]),(165,.arr 84 3 (List.map cg.lv ([]:List cg)))]))))))))) (LH.loop (fun n e m=>∃ (n3:Int) (l4:List ak) (l5:List cg),Bp F p1 r1 n n3 l4 l5=some r∧e=Env.of [(1,.I p1),(4,.ptr 104 0),(7,.al 12 (r1.1.map ax.lv)),(9,.ptr 109 0),(10,.arr 165 l5.length),(11,.I n3)]∧m=Mem.of [(104,.box [.nil]),(109,.box [.aJ T 49 5 (List.map (ak.lt T) l4)]),(165,.arr 84 3 (l5.map cg.lv))]) F ⟨0,([]:List ak),([]:List cg),h,R,R⟩ ?_))))))))
  clear h
  rintro n e m ⟨n3,l4,l5,h,rfl,rfl⟩
  rcases n with _ | n
  · cases (show Option.none=some _ from h)
  obtain ⟨aK,a7⟩:∃ f,f=Bp F p1 r1 n:=⟨_,rfl⟩
  replace h:yH F p1 r1 aK n3 l4 l5=some r:=a7 ▸ h
  unfold yH at h
  refine LH.seq (LH.aj [(1,.I p1),(4,.ptr 104 0),(7,.al 12 (r1.1.map ax.lv)),(9,.ptr 109 0),(10,.arr 165 l5.length),(11,.I n3),(26,.bool (decide (n3<(r1.1.length:Int))))] [(104,.box [.nil]),(109,.box [.aJ T 49 5 (List.map (ak.lt T) l4)]),(165,.arr 84 3 (l5.map cg.lv))] R (br R (fh R (sN (bV (f:=ax.lv) fR R (sN (fy R R zS)))))) (LH.cond (t:=(decide (n3<(r1.1.length:Int)))) R (fun fQ=>?_) (fun fQ=>?_)))
  ·replace h:=aB h fQ
   refine LH.skip (au (LH.wk (aQ [(1,.I p1),(4,.ptr 104 0),(7,.al 12 (r1.1.map ax.lv)),(9,.ptr 109 0),(10,.arr 165 l5.length),(11,.I n3)] [(104,.box [.nil]),(109,.box [.aJ T 49 5 (List.map (ak.lt T) l4)]),(165,.arr 84 3 (l5.map cg.lv))]) (LH.seq (LH.block (LH.seq ?_)))))
   obtain ⟨x7,xm,h⟩:=ao h
   refine LH.aj [(1,.I p1),(4,.ptr 104 0),(7,.al 12 (r1.1.map ax.lv)),(9,.ptr 109 0),(10,.arr 165 l5.length),(11,.I n3),(36,.bool (decide (x7.ar.Time > p1)))] [(104,.box [.nil]),(109,.box [.aJ T 49 5 (List.map (ak.lt T) l4)]),(165,.arr 84 3 (l5.map cg.lv))] R (fh R (br R (sN (eM (f:=ax.lv) fR eo dF R R ax.ok xm R (sN (aw di cc b7 R R R (sN (aw fc aE bb R R R (sN (bh R aE bN (br R (sN (jx R R zS))))))))))))) (LH.cond (t:=(decide (x7.ar.Time > p1))) R (fun kY=>?_) (fun kY=>?_))
   ·replace h:=aB h kY
    refine LH.exit (cD (bP (au (LH.aS [(1,.I p1),(4,.ptr 104 0),(7,.al 12 (r1.1.map ax.lv)),(9,.ptr 109 0),(10,.arr 165 l5.length),(11,.I (i64 (n3+1)))] [(104,.box [.nil]),(109,.box [.aJ T 49 5 (List.map (ak.lt T) l4)]),(165,.arr 84 3 (l5.map cg.lv))] R (br R (sN (cI R R (bt R zS)))) ?_))))
    exact bl ⟨(i64 (n3+1)),l4,l5,a7 ▸ h,R,R⟩ (Wk.eq R R R R)
   replace h:=aA h kY
   refine LH.skip (au ?_)
   obtain ⟨x9,xn,h⟩:=ao h
   obtain ⟨dG,qu,h⟩:=ao h
   refine LH.cO mixed [] [1109,0,0,0,0,0,0,0,0,2,100112,0] [(1,.I p1),(4,.ptr 104 0),(7,.al 12 (r1.1.map ax.lv)),(9,.ptr 109 0),(10,.arr 165 l5.length),(11,.I n3),(12,.ag [.aJ T 49 5 (List.map (ak.lt T) dG.1.aa)]),(13,.I dG.2)] [(104,.box [.nil]),(109,.box [.aJ T 49 5 (List.map (ak.lt T) l4)]),(165,.arr 84 3 (l5.map cg.lv))] R R (by kernel_rfl) (mD R R R (fun _ b _ d=>lJ R b R bd bW bf R R d) (rV R (fC R (aD (eM (f:=ax.lv) fR eo dF R R ax.ok xn R ⟨R,aD (bc R eo iX dF R R ⟨R,aD (ej (args:=[.agg [.aJ T 49 5 (List.map (ak.lt T) l4)],ax.lv x9]) R Jt R (aI (aI bm)) (J2 (T:=T) qu) R ⟨R,JK R (aD (fV R R ⟨R,aD (fV R R ⟨R,yh (j0 (id:=112) R dH R R (mS R R R (fun _ b _ d=>cF R R R bd bf b R R d) (M6 R (m0 ((Wk.trans (aQ [(1,.I p1),(4,.ptr 104 0),(7,.al 12 (r1.1.map ax.lv)),(9,.ptr 109 0),(10,.arr 165 l5.length),(11,.I n3),(12,.ptr 112 0),(13,.I dG.2)] [(104,.box [.nil]),(109,.box [.aJ T 49 5 (List.map (ak.lt T) l4)]),(112,.box [.aJ T 49 5 (List.map (ak.lt T) dG.1.aa)]),(165,.arr 84 3 (l5.map cg.lv))]) (Wk.trans (Wk.bk 112 [.aJ T 49 5 (List.map (ak.lt T) dG.1.aa)] R R R (bH R)) (Wk.eq R R R R))))))))⟩)⟩))⟩)⟩)⟩))))) (LH.seq (LH.aj [(1,.I p1),(4,.ptr 104 0),(7,.al 12 (r1.1.map ax.lv)),(9,.ptr 109 0),(10,.arr 165 l5.length),(11,.I n3),(12,.ag [.aJ T 49 5 (List.map (ak.lt T) dG.1.aa)]),(13,.I dG.2),(47,.bool (dG.2 != 0))] [(104,.box [.nil]),(109,.box [.aJ T 49 5 (List.map (ak.lt T) l4)]),(165,.arr 84 3 (l5.map cg.lv))] R (br R (sN (iR R R zS))) (LH.cond (t:=(dG.2 != 0)) R (fun iL=>?_) (fun iL=>?_))))
   ·replace h:=aB h iL
    obtain ⟨gG,pS,h⟩:=ao h
    obtain ⟨fg,ob,h⟩:=ao h
    obtain ⟨kR,AS,h⟩:=ao h
    refine LH.cO mixed [] [0,0,0,0,0,0,0,0,0,0,0,0,0,0,0,0,0,2,0] [(1,.I p1),(4,.ptr 104 0),(7,.al 12 (r1.1.map ax.lv)),(9,.ptr 109 0),(10,.arr 165 kR.length),(11,.I n3)] [(104,.box [.nil]),(109,.box [.aJ T 49 5 (List.map (ak.lt T) l4)]),(165,.arr 84 3 (kR.map cg.lv))] R R (by kernel_rfl) ?_ ?_
    ·exact PN R (rV R (fC R (aD (eM (f:=ax.lv) fR eo dF R R ax.ok pS R ⟨R,aD (aw di cc b7 R R R ⟨R,aD (aw ez aE bb R R R ⟨R,aD (bh R aE bN ⟨R,rV R (fC R (aD (eM (f:=ax.lv) fR eo dF R R ax.ok ob R ⟨R,aD (aw di cc b7 R R R ⟨R,aD (aw dL aE bb R R R ⟨R,aD (bh R aE bN ⟨R,aD (fU (vs:=[(0,.I gG.ar.Source),(1,.I fg.ar.Seq)]) zI zK R (lf nm bb aE R R R (lf np bb aE R R R fT)) ⟨R,fC R (aD (fU (vs:=[(0,.agg [.I gG.ar.Source,.I fg.ar.Seq]),(1,.I dG.2)]) zJ zL R (lf nr zH zC R R R (lf nt zG zB R R R fT)) ⟨R,aD (ka (f:=cg.lv) (ys:=[(cg.mk (si.mk gG.ar.Source fg.ar.Seq) dG.2)]) nk od oe R R R cg.ok ⟨R,yh (nL (f:=cg.lv) nk od oe R R (bH R) R AS (WL R zM))⟩)⟩))⟩)⟩)⟩)⟩)⟩)))⟩)⟩)⟩)⟩))))
    refine LH.exit (cD (bP (au (LH.aS [(1,.I p1),(4,.ptr 104 0),(7,.al 12 (r1.1.map ax.lv)),(9,.ptr 109 0),(10,.arr 165 kR.length),(11,.I (i64 (n3+1)))] [(104,.box [.nil]),(109,.box [.aJ T 49 5 (List.map (ak.lt T) l4)]),(165,.arr 84 3 (kR.map cg.lv))] R (br R (sN (cI R R (bt R zS)))) ?_))))
    exact bl ⟨(i64 (n3+1)),l4,kR,a7 ▸ h,R,R⟩ (Wk.eq R R R R)
   replace h:=aA h iL
   refine LH.skip (au (LH.aS [(1,.I p1),(4,.ptr 104 0),(7,.al 12 (r1.1.map ax.lv)),(9,.ptr 109 0),(10,.arr 165 l5.length),(11,.I n3)] [(104,.box [.nil]),(109,.box [.aJ T 49 5 (List.map (ak.lt T) dG.1.aa)]),(165,.arr 84 3 (l5.map cg.lv))] R (sN (bc R bd bW bf R R (s_ (cF R R R bd bf R R R zS)))) (aY (au (LH.aS [(1,.I p1),(4,.ptr 104 0),(7,.al 12 (r1.1.map ax.lv)),(9,.ptr 109 0),(10,.arr 165 l5.length),(11,.I (i64 (n3+1)))] [(104,.box [.nil]),(109,.box [.aJ T 49 5 (List.map (ak.lt T) dG.1.aa)]),(165,.arr 84 3 (l5.map cg.lv))] R (br R (sN (cI R R (bt R zS)))) ?_)))))
   exact bl ⟨(i64 (n3+1)),dG.1.aa,l5,a7 ▸ h,R,R⟩ (Wk.eq R R R R)
  replace h:=aA h fQ
  refine LH.exit (cD (b6 (bP (au (LH.wk ((Wk.trans (aQ [(4,.ptr 104 0),(9,.ptr 109 0),(10,.arr 165 l5.length)] [(104,.box [.nil]),(109,.box [.aJ T 49 5 (List.map (ak.lt T) l4)]),(165,.arr 84 3 (l5.map cg.lv))]) (Wk.trans (Wk.lC (f:=cg.lv) (fB:=[(4,.ptr 104 0),(9,.ptr 109 0),(10,.al 3 (l5.map cg.lv))]) 165 84 3 l5 R R (bH R) (fK R (fK R (fZ fN)))) (Wk.trans (Wk.bk 109 [.aJ T 49 5 (List.map (ak.lt T) l4)] R R R (bH R)) (aQ [(4,.ptr 104 0),(9,.ag [.aJ T 49 5 (List.map (ak.lt T) l4)]),(10,.al 3 (l5.map cg.lv))] [(104,.box [.nil])]))))) (LH.aj [(4,.ag [.aJ T 49 5 (List.map (ak.lt T) l4)]),(5,.al 3 (l5.map cg.lv)),(6,.I 0)] [] R (sN (bc R bd bW bf R R (fh R (s_ (cF R R R bd bf R R R (qB R (bt R (s0 ((Wk.trans (aQ [(4,.ptr 104 0),(5,.al 3 (l5.map cg.lv)),(6,.I 0)] [(104,.box [.aJ T 49 5 (List.map (ak.lt T) l4)])]) (Wk.trans (Wk.bk 104 [.aJ T 49 5 (List.map (ak.lt T) l4)] R R R (bH R)) (Wk.eq R R R R)))))))))))) (LH.ret ?_)))))))
  obtain rfl:=oI h
  exact aN (aT Tryz.results11) (cN R bd bW bf R R (bO R (bO R (bL ⟨aM mN,R,aX R,(Sub.cV (aI (aI (aI bm))))⟩))))
theorem JV {F:Nat} {p0:ak} {r:Bool} (h:DL F p0=some r):aO Tryz.prog 64 [ak.lv p0] (Mem.of []) (.bool r) (Mem.of []):=by
  unfold DL at h
  refine bx Tryz.func64 R (nT Tryz.ntmps64 R) (LH.wk (aQ [(0,ak.lv p0)] []) (LH.aj [(1,.ag (ak.lv p0).cells)] [] R (sB (de R R R R (ct R zS))) (LH.seq (LH.aj [(1,.ag (ak.lv p0).cells),(31,.bool ((decide ((p0.ab.length:Int)<1)) || ((decide ((p0.ab.length:Int) > 8)) || (((p0.ah.length:Int) != (p0.ab.length:Int)) || (decide ((p0.Uses.length:Int) > 300))))))] [] R ?_ ?_))))
  ·refine sN (aw cZ c7 fE R R R (sN (bh R c7 ij (sN (bV (f:=ai.lv) fw R (sN (fy R R (bM R ?_))))))))
   by_cases cE:(decide ((p0.ab.length:Int)<1))=true
   ·exact sF R R cE (sF R R cE (sF R R cE (sF R R cE (sN (aZ (cB cE) (v:=(.bool _)) R (bM R (sF R R R (sF R R R (sF R R R (sF R R R (sF R R R (sF R R R (sF R R R (sN (aZ R (v:=(.bool _)) R (bM R (sF R R R (sF R R R (sF R R R (sF R R R (sN (aZ R (v:=(.bool _)) R (s0 (Wk.to (eC R (eC (cB (pn cE)) eN)) mN R (aX R)))))))))))))))))))))))))
   ·replace cE:=bF cE
    refine sT R (cB cE) (aw cZ c7 fE R R R (sT R (cB cE) (bh R c7 ij (sT R (cB cE) (bV (f:=ai.lv) fw R (sT R (cB cE) (jx R R (sN (aW (cB cE) (v:=(.bool _)) R (bM R ?_))))))))))
    by_cases bS:(decide ((p0.ab.length:Int) > 8))=true
    ·exact sF R R bS (sF R R bS (sF R R bS (sF R R bS (sF R R bS (sF R R bS (sF R R bS (sN (aZ (cB bS) (v:=(.bool _)) R (bM R (sF R R R (sF R R R (sF R R R (sF R R R (sN (aZ R (v:=(.bool _)) R (s0 (Wk.to (eC R (eC (cB (Eq.trans (pn bS) (gQ cE))) eN)) mN R (aX R))))))))))))))))))
    ·replace bS:=bF bS
     refine sT R (cB bS) (aw dJ dZ gN R R R (sT R (cB bS) (bh R dZ lM (sT R (cB bS) (bV (f:=LV.bool) jy R (sT R (cB bS) (aw cZ c7 fE R R R (sT R (cB bS) (bh R c7 ij (sT R (cB bS) (bV (f:=ai.lv) fw R (sT R (cB bS) (iR R R (sN (aW (cB bS) (v:=(.bool _)) R (bM R ?_))))))))))))))))
     by_cases bG:((p0.ah.length:Int) != (p0.ab.length:Int))=true
     ·exact sF R R bG (sF R R bG (sF R R bG (sF R R bG (sN (aZ (cB bG) (v:=(.bool _)) R (s0 (Wk.to (eC R (eC (cB (Eq.trans (Eq.trans (pn bG) (gQ bS)) (gQ cE))) eN)) mN R (aX R))))))))
     ·replace bG:=bF bG
      exact sT R (cB bG) (aw dK dS gZ R R R (sT R (cB bG) (bh R dS kx (sT R (cB bG) (bV (f:=ay.lv) iZ R (sT R (cB bG) (jx R R (sN (aW (cB bG) (v:=(.bool _)) R (s0 (Wk.to (eC R (eC (cB (Eq.trans (Eq.trans (gQ bG) (gQ bS)) (gQ cE))) eN)) mN R (aX R))))))))))))
  refine LH.cond (t:=((decide ((p0.ab.length:Int)<1)) || ((decide ((p0.ab.length:Int) > 8)) || (((p0.ah.length:Int) != (p0.ab.length:Int)) || (decide ((p0.Uses.length:Int) > 300)))))) R (fun kM=>?_) (fun kM=>?_)
  ·replace h:=aB h kM
   refine LH.aj [(2,.bool false)] [] R (ct R zS) (LH.ret (aU ?_))
   obtain rfl:=oI h
   exact aN (aT Tryz.results64) (bO R (bL ⟨aM mN,R,aX R,Sub.rfl⟩))
  replace h:=aA h kM
  refine LH.skip (au (LH.wk (aQ [(1,.ag (ak.lv p0).cells)] []) (LH.seq (LH.aj [(1,.ag (ak.lv p0).cells),(33,.al 5 (p0.ab.map ai.lv)),(34,.I (p0.ab.length:Int)),(35,.I 0)] [] R (sN (aw cZ c7 fE R R R (sN (bh R c7 ij (sN (bV (f:=ai.lv) fw R (br R zS))))))) (LH.block (LH.loop (fun n e m=>∃ (n6:Int),DE F p0 n n6=some r∧e=Env.of [(1,.ag (ak.lv p0).cells),(33,.al 5 (p0.ab.map ai.lv)),(34,.I (p0.ab.length:Int)),(35,.I n6)]∧m=Mem.of []) F ⟨0,h,R,R⟩ ?_))))))
  clear h
  rintro n e m ⟨n6,h,rfl,rfl⟩
  rcases n with _ | n
  · cases (show Option.none=some _ from h)
  obtain ⟨aK,a7⟩:∃ f,f=DE F p0 n:=⟨_,rfl⟩
  replace h:GA F p0 aK n6=some r:=a7 ▸ h
  unfold GA at h
  refine LH.aj [(1,.ag (ak.lv p0).cells),(33,.al 5 (p0.ab.map ai.lv)),(34,.I (p0.ab.length:Int)),(35,.I n6),(36,.bool (decide (n6<(p0.ab.length:Int))))] [] R (sN (fy R R zS)) (LH.seq (LH.cond (t:=(decide (n6<(p0.ab.length:Int)))) R (fun jd=>?_) (fun jd=>?_)))
  ·replace h:=aB h jd
   refine LH.skip (au (LH.wk (aQ [(1,.ag (ak.lv p0).cells),(33,.al 5 (p0.ab.map ai.lv)),(34,.I (p0.ab.length:Int)),(35,.I n6)] []) (LH.seq (LH.block ?_))))
   obtain ⟨x8,uD,h⟩:=ao h
   refine LH.aj [(1,.ag (ak.lv p0).cells),(3,.I n6),(4,.ag (ai.lv x8).cells),(33,.al 5 (p0.ab.map ai.lv)),(34,.I (p0.ab.length:Int)),(35,.I n6)] [] R (br R (sN (eM (f:=ai.lv) fw cv cd R R ai.ok uD R (sN (bc R cv eZ cd R R (sN (j0 (id:=104) R xf R R (bt R (s_ (cF R R R cv cd R R R (s0 ((Wk.trans (aQ [(1,.ag (ak.lv p0).cells),(3,.I n6),(4,.ptr 104 0),(33,.al 5 (p0.ab.map ai.lv)),(34,.I (p0.ab.length:Int)),(35,.I n6)] [(104,.box (ai.lv x8).cells)]) (Wk.trans (Wk.bk 104 (ai.lv x8).cells R R R (bH R)) (Wk.eq R R R R))))))))))))))) ?_
   obtain ⟨D9,hv,h⟩:=ao h
   refine LH.aj [(1,.ag (ak.lv p0).cells),(33,.al 5 (p0.ab.map ai.lv)),(34,.I (p0.ab.length:Int)),(35,.I n6),(56,.bool D9)] [] R ?_ ?_
   ·refine sN (bc R cv eZ cd R R ?_)
    obtain ⟨cm,kr,hv⟩:=ao hv
    refine sN (ej (args:=[ai.lv x8]) R FR R (aI bm) (Gs kr) R (sN (iR R R (bM R ?_))))
    by_cases dt:(cm != 0)=true
    ·replace hv:=aB hv dt
     refine sF R R dt (sF R R dt (sF R R dt (sF R R dt (sF R R dt (sN (aZ (cB dt) (v:=(.bool _)) R (bM R (sF R R R (sF R R R (sF R R R (sF R R R (sF R R R (sN (aZ R (v:=(.bool _)) R ?_))))))))))))))
     obtain rfl:=oI hv
     exact zS
    ·replace dt:=bF dt
     replace hv:=aA hv dt
     refine sT R (cB dt) (aw fb aE bb R R R (sT R (cB dt) (bh R aE bN (sT R (cB dt) (aw fO aE bb R R R (sT R (cB dt) (bh R aE bN (sT R (cB dt) (iR R R (sN (aW (cB dt) (v:=(.bool _)) R (bM R ?_))))))))))))
     by_cases bQ:(x8.ID != p0.ID)=true
     ·replace hv:=aB hv bQ
      refine sF R R bQ (sF R R bQ (sF R R bQ (sF R R bQ (sF R R bQ (sN (aZ (cB bQ) (v:=(.bool _)) R ?_))))))
      obtain rfl:=oI hv
      exact zS
     ·replace bQ:=bF bQ
      replace hv:=aA hv bQ
      refine sT R (cB bQ) (aw fP aE bb R R R (sT R (cB bQ) (bh R aE bN (sT R (cB bQ) (oM (v:=(.int _ _)) R (sT R (cB bQ) (cI R R (sT R (cB bQ) (iR R R (sN (aW (cB bQ) (v:=(.bool _)) R ?_)))))))))))
      obtain rfl:=oI hv
      exact zS
   clear hv
   refine LH.cond (t:=D9) R (fun pI=>?_) (fun pI=>?_)
   ·replace h:=aB h pI
    refine LH.aj [(2,.bool false)] [] R (ct R zS) (LH.ret (bD (aU (dW (bD (aU ?_))))))
    obtain rfl:=oI h
    exact aN (aT Tryz.results64) (bO R (bL ⟨aM mN,R,aX R,Sub.rfl⟩))
   replace h:=aA h pI
   refine LH.skip (aY (au (LH.aS [(1,.ag (ak.lv p0).cells),(33,.al 5 (p0.ab.map ai.lv)),(34,.I (p0.ab.length:Int)),(35,.I (i64 (n6+1)))] [] R (sN (cI R R (br R zS))) ?_)))
   exact bl ⟨(i64 (n6+1)),a7 ▸ h,R,R⟩ (Wk.eq R R R R)
  replace h:=aA h jd
  refine LH.exit (cD (b6 (bP (au (LH.wk (aQ [(1,.ag (ak.lv p0).cells)] []) (LH.seq (LH.aj [(1,.ag (ak.lv p0).cells),(59,.al 3 (p0.Uses.map ay.lv)),(60,.I (p0.Uses.length:Int)),(61,.I 0)] [] R (sN (aw dK dS gZ R R R (sN (bh R dS kx (sN (bV (f:=ay.lv) iZ R (br R zS))))))) (LH.block (LH.loop (fun n e m=>∃ (n15:Int),Bd p0 n n15=some r∧e=Env.of [(1,.ag (ak.lv p0).cells),(59,.al 3 (p0.Uses.map ay.lv)),(60,.I (p0.Uses.length:Int)),(61,.I n15)]∧m=Mem.of []) F ⟨0,h,R,R⟩ ?_)))))))))
  clear h
  rintro n e m ⟨n15,h,rfl,rfl⟩
  rcases n with _ | n
  · cases (show Option.none=some _ from h)
  obtain ⟨fv,eE⟩:∃ f,f=Bd p0 n:=⟨_,rfl⟩
  replace h:GB p0 fv n15=some r:=eE ▸ h
  unfold GB at h
  refine LH.aj [(1,.ag (ak.lv p0).cells),(59,.al 3 (p0.Uses.map ay.lv)),(60,.I (p0.Uses.length:Int)),(61,.I n15),(62,.bool (decide (n15<(p0.Uses.length:Int))))] [] R (sN (fy R R zS)) (LH.seq (LH.cond (t:=(decide (n15<(p0.Uses.length:Int)))) R (fun iM=>?_) (fun iM=>?_)))
  ·replace h:=aB h iM
   refine LH.skip (au (LH.wk (aQ [(1,.ag (ak.lv p0).cells),(59,.al 3 (p0.Uses.map ay.lv)),(60,.I (p0.Uses.length:Int)),(61,.I n15)] []) (LH.seq (LH.block ?_))))
   obtain ⟨qj,ya,h⟩:=ao h
   refine LH.aj [(1,.ag (ak.lv p0).cells),(6,.ag [.I qj.Version,.I qj.Form,.I qj.Time]),(59,.al 3 (p0.Uses.map ay.lv)),(60,.I (p0.Uses.length:Int)),(61,.I n15)] [] R (sN (eM (f:=ay.lv) iZ rN l0 R R ay.ok ya R (sN (bc R rN IJ l0 R R (sN (j0 (id:=106) R IN R R (s_ (cF R R R rN l0 R R R (s0 ((Wk.trans (aQ [(1,.ag (ak.lv p0).cells),(6,.ptr 106 0),(59,.al 3 (p0.Uses.map ay.lv)),(60,.I (p0.Uses.length:Int)),(61,.I n15)] [(106,.box [.I qj.Version,.I qj.Form,.I qj.Time])]) (Wk.trans (Wk.bk 106 [.I qj.Version,.I qj.Form,.I qj.Time] R R R (bH R)) (Wk.eq R R R R))))))))))))) (LH.aj [(1,.ag (ak.lv p0).cells),(59,.al 3 (p0.Uses.map ay.lv)),(60,.I (p0.Uses.length:Int)),(61,.I n15),(75,.bool ((decide (qj.Version<1)) || (decide (qj.Version > (p0.ab.length:Int)))))] [] R ?_ ?_)
   ·refine sN (aw pg aE bb R R R (sN (bh R aE bN (sN (fy R R (bM R ?_))))))
    by_cases mz:(decide (qj.Version<1))=true
    ·exact sF R R mz (sF R R mz (sF R R mz (sF R R mz (sF R R mz (sF R R mz (sN (aZ (cB mz) (v:=(.bool _)) R (s0 (Wk.to (eC R (eC R (eC R (eC R (eC (cB (pn mz)) eN))))) mN R (aX R))))))))))
    ·replace mz:=bF mz
     exact sT R (cB mz) (aw pg aE bb R R R (sT R (cB mz) (bh R aE bN (sT R (cB mz) (aw cZ c7 fE R R R (sT R (cB mz) (bh R c7 ij (sT R (cB mz) (bV (f:=ai.lv) fw R (sT R (cB mz) (jx R R (sN (aW (cB mz) (v:=(.bool _)) R (s0 (Wk.to (eC R (eC R (eC R (eC R (eC (cB (gQ mz)) eN))))) mN R (aX R))))))))))))))))
   refine LH.cond (t:=((decide (qj.Version<1)) || (decide (qj.Version > (p0.ab.length:Int))))) R (fun kE=>?_) (fun kE=>?_)
   ·replace h:=aB h kE
    refine LH.aj [(2,.bool false)] [] R (ct R zS) (LH.ret (bD (aU (dW (bD (aU ?_))))))
    obtain rfl:=oI h
    exact aN (aT Tryz.results64) (bO R (bL ⟨aM mN,R,aX R,Sub.rfl⟩))
   replace h:=aA h kE
   refine LH.skip (aY (au (LH.aS [(1,.ag (ak.lv p0).cells),(59,.al 3 (p0.Uses.map ay.lv)),(60,.I (p0.Uses.length:Int)),(61,.I (i64 (n15+1)))] [] R (sN (cI R R (br R zS))) ?_)))
   exact bl ⟨(i64 (n15+1)),eE ▸ h,R,R⟩ (Wk.eq R R R R)
  replace h:=aA h iM
  refine LH.exit (cD (b6 (bP (au (LH.aj [(2,.bool true)] [] R (ct R zS) (LH.ret ?_))))))
  obtain rfl:=oI h
  exact aN (aT Tryz.results64) (bO R (bL ⟨aM mN,R,aX R,Sub.rfl⟩))
theorem J9 {F:Nat} {p0:aG} {r:Bool} (h:vD F p0=some r):aO Tryz.prog 35 [.agg [.al 5 (p0.aa.map ak.lv)]] (Mem.of []) (.bool r) (Mem.of []):=by
  unfold vD at h
  refine bx Tryz.func35 R (nT Tryz.ntmps35 R) (LH.wk (aQ [(0,.agg [.al 5 (p0.aa.map ak.lv)])] []) (LH.aj [(1,.ag [.al 5 (p0.aa.map ak.lv)])] [] R (sB (de R R R R (ct R zS))) (LH.seq (LH.aj [(1,.ag [.al 5 (p0.aa.map ak.lv)]),(8,.bool (decide ((p0.aa.length:Int) > 40)))] [] R (sN (aw bX bZ dq R R R (sN (bh R bZ e8 (sN (bV (f:=ak.lv) dE R (sN (jx R R zS)))))))) (LH.cond (t:=(decide ((p0.aa.length:Int) > 40))) R (fun jc=>?_) (fun jc=>?_))))))
  ·replace h:=aB h jc
   refine LH.aj [(2,.bool false)] [] R (ct R zS) (LH.ret (aU ?_))
   obtain rfl:=oI h
   exact aN (aT Tryz.results35) (bO R (bL ⟨aM mN,R,aX R,Sub.rfl⟩))
  replace h:=aA h jc
  refine LH.skip (au (LH.wk (aQ [(1,.ag [.al 5 (p0.aa.map ak.lv)])] []) (LH.seq (LH.aj [(1,.ag [.al 5 (p0.aa.map ak.lv)]),(10,.al 5 (p0.aa.map ak.lv)),(11,.I (p0.aa.length:Int)),(12,.I 0)] [] R (sN (aw bX bZ dq R R R (sN (bh R bZ e8 (sN (bV (f:=ak.lv) dE R (br R zS))))))) (LH.block (LH.loop (fun n e m=>∃ (n2:Int),vo F p0 n n2=some r∧e=Env.of [(1,.ag [.al 5 (p0.aa.map ak.lv)]),(10,.al 5 (p0.aa.map ak.lv)),(11,.I (p0.aa.length:Int)),(12,.I n2)]∧m=Mem.of []) F ⟨0,h,R,R⟩ ?_))))))
  clear h
  rintro n e m ⟨n2,h,rfl,rfl⟩
  rcases n with _ | n
  · cases (show Option.none=some _ from h)
  obtain ⟨aK,a7⟩:∃ f,f=vo F p0 n:=⟨_,rfl⟩
  replace h:yD F p0 aK n2=some r:=a7 ▸ h
  unfold yD at h
  refine LH.aj [(1,.ag [.al 5 (p0.aa.map ak.lv)]),(10,.al 5 (p0.aa.map ak.lv)),(11,.I (p0.aa.length:Int)),(12,.I n2),(13,.bool (decide (n2<(p0.aa.length:Int))))] [] R (sN (fy R R zS)) (LH.seq (LH.cond (t:=(decide (n2<(p0.aa.length:Int)))) R (fun ix=>?_) (fun ix=>?_)))
  ·replace h:=aB h ix
   refine LH.skip (au (LH.wk (aQ [(1,.ag [.al 5 (p0.aa.map ak.lv)]),(10,.al 5 (p0.aa.map ak.lv)),(11,.I (p0.aa.length:Int)),(12,.I n2)] []) (LH.seq (LH.block ?_))))
   obtain ⟨x4,AW,h⟩:=ao h
   refine LH.aj [(1,.ag [.al 5 (p0.aa.map ak.lv)]),(3,.I n2),(4,.ag (ak.lv x4).cells),(10,.al 5 (p0.aa.map ak.lv)),(11,.I (p0.aa.length:Int)),(12,.I n2)] [] R (br R (sN (eM (f:=ak.lv) dE cT cz R R ak.ok AW R (sN (bc R cT il cz R R (sN (j0 (id:=104) R qH R R (bt R (s_ (cF R R R cT cz R R R (s0 ((Wk.trans (aQ [(1,.ag [.al 5 (p0.aa.map ak.lv)]),(3,.I n2),(4,.ptr 104 0),(10,.al 5 (p0.aa.map ak.lv)),(11,.I (p0.aa.length:Int)),(12,.I n2)] [(104,.box (ak.lv x4).cells)]) (Wk.trans (Wk.bk 104 (ak.lv x4).cells R R R (bH R)) (Wk.eq R R R R))))))))))))))) ?_
   obtain ⟨w6,hv,h⟩:=ao h
   refine LH.cO mixed [] [0,0,0,0,0,0,0,0,0,0,0,0,0,0,0,0,0,0,0] [(1,.ag [.al 5 (p0.aa.map ak.lv)]),(10,.al 5 (p0.aa.map ak.lv)),(11,.I (p0.aa.length:Int)),(12,.I n2),(35,.bool w6)] [] R R (by kernel_rfl) ?_ ?_
   ·refine fC R (aD (jx R R ⟨R,iQ R ?_⟩))
    by_cases ca:(decide (n2 > 0))=true
    ·replace hv:=aB hv ca
     refine mT R (cB ca) (aD (aw bX bZ dq R R R ⟨R,mT R (cB ca) (aD (bh R bZ e8 ⟨R,mT R (cB ca) (fC R (mT R (cB ca) (aD (iS R R ⟨R,?_⟩))))⟩))⟩))
     obtain ⟨x8,uD,hv⟩:=ao hv
     refine mT R (cB ca) (aD (eM (f:=ak.lv) dE cT cz R R ak.ok uD R ⟨R,mT R (cB ca) (aD (aw fO aE bb R R R ⟨R,mT R (cB ca) (aD (bh R aE bN ⟨R,mT R (cB ca) (aD (aw fO aE bb R R R ⟨R,mT R (cB ca) (aD (bh R aE bN ⟨R,mT R (cB ca) (aD (pW R R ⟨R,aD (aZ (cB ca) (v:=(.bool _)) R ⟨R,iQ R ?_⟩)⟩))⟩))⟩))⟩))⟩))⟩))
     by_cases cW:(decide (x8.ID ≥ x4.ID))=true
     ·replace hv:=aB hv cW
      refine mF R R cW (mF R R cW (mF R R cW (aD (aZ (cB cW) (v:=(.bool _)) R ⟨R,?_⟩))))
      obtain rfl:=oI hv
      exact zM
     ·replace cW:=bF cW
      replace hv:=aA hv cW
      refine mT R (cB cW) (aD (bc R cT il cz R R ⟨R,?_⟩))
      obtain ⟨dG,qu,hv⟩:=ao hv
      refine mT R (cB cW) (aD (ej (args:=[ak.lv x4]) R JD R (aI bm) (JV qu) R ⟨R,mT R (cB cW) (aD (ic R ⟨R,aD (aW (cB cW) (v:=(.bool _)) R ⟨R,?_⟩)⟩))⟩))
      obtain rfl:=oI hv
      exact zM
    ·replace ca:=bF ca
     replace hv:=aA hv ca
     refine mF R R ca (mF R R ca (mF R R ca (mF R R ca (mF R R ca (mF R R ca (mF R R ca (mF R R ca (mF R R ca (mF R R ca (aD (aW (cB ca) (v:=(.bool _)) R ⟨R,iQ R (mT R R (aD (bc R cT il cz R R ⟨R,?_⟩)))⟩)))))))))))
     obtain ⟨cm,kr,hv⟩:=ao hv
     refine mT R R (aD (ej (args:=[ak.lv x4]) R JD R (aI bm) (JV kr) R ⟨R,mT R R (aD (ic R ⟨R,aD (aW R (v:=(.bool _)) R ⟨R,?_⟩)⟩))⟩))
     obtain rfl:=oI hv
     exact zM
   clear hv
   refine LH.cond (t:=w6) R (fun gh=>?_) (fun gh=>?_)
   ·replace h:=aB h gh
    refine LH.aj [(2,.bool false)] [] R (ct R zS) (LH.ret (bD (aU (dW (bD (aU ?_))))))
    obtain rfl:=oI h
    exact aN (aT Tryz.results35) (bO R (bL ⟨aM mN,R,aX R,Sub.rfl⟩))
   replace h:=aA h gh
   refine LH.skip (aY (au (LH.aS [(1,.ag [.al 5 (p0.aa.map ak.lv)]),(10,.al 5 (p0.aa.map ak.lv)),(11,.I (p0.aa.length:Int)),(12,.I (i64 (n2+1)))] [] R (sN (cI R R (br R zS))) ?_)))
   exact bl ⟨(i64 (n2+1)),a7 ▸ h,R,R⟩ (Wk.eq R R R R)
  replace h:=aA h ix
  refine LH.exit (cD (b6 (bP (au (LH.aj [(2,.bool true)] [] R (ct R zS) (LH.ret ?_))))))
  obtain rfl:=oI h
  exact aN (aT Tryz.results35) (bO R (bL ⟨aM mN,R,aX R,Sub.rfl⟩))
theorem Qa {p0:ay} {c0:Int} {c1:Int} {r:Bool} (h:yC p0 c0 c1=some r):aO Tryz.prog 37 [.agg [.I p0.Version,.I p0.Form,.I p0.Time],.ag [.I c0],.ag [.I c1]] (Mem.of []) (.bool r) (Mem.of []):=by
  unfold yC at h
  refine bx Tryz.func37 R (nT Tryz.ntmps37 R) (LH.wk (aQ [(0,.agg [.I p0.Version,.I p0.Form,.I p0.Time]),(1,.ag [.I c0]),(2,.ag [.I c1])] []) (LH.aj [(1,.ag [.I c0]),(2,.ag [.I c1]),(3,.ag [.I p0.Version,.I p0.Form,.I p0.Time])] [] R (sB (de R R R R (ct R zS))) (LH.aj [(4,.bool (decide (p0.Time > (i64 (c0 - c1)))))] [] R (sN (aw BC aE bb R R R (sN (bh R aE bN (sN (bh R aE bN (sN (bh R aE bN (sN (iS R R (sN (jx R R (ct R zS))))))))))))) (LH.ret ?_))))
  obtain rfl:=oI h
  exact aN (aT Tryz.results37) (bO R (bL ⟨aM mN,R,aX R,Sub.rfl⟩))
theorem JY {F:Nat} {p0:aG} {p1:Int} {p2:Int} {p3:Int} {r:List bR} (h:vn F p0 p1 p2 p3=some r):aO Tryz.prog 16 [.agg [.al 5 (p0.aa.map ak.lv)],.I p1,.I p2,.I p3] (Mem.of []) (.al 2 (r.map bR.lv)) (Mem.of []):=by
  unfold vn at h
  refine bx Tryz.func16 R (nT Tryz.ntmps16 R) (LH.wk (aQ [(0,.agg [.al 5 (p0.aa.map ak.lv)]),(1,.I p1),(2,.I p2),(3,.I p3)] []) (LH.aj [(3,.I p3),(4,.ag [.al 5 (p0.aa.map ak.lv)]),(5,.ag [.I p1]),(6,.ag [.I p2])] [] R (sB (de R R R R (sB (de R R R R (sB (de R R R R (k9 R zS))))))) (LH.seq ?_)))
  obtain ⟨w2,hv,h⟩:=ao h
  refine LH.aj [(3,.I p3),(4,.ag [.al 5 (p0.aa.map ak.lv)]),(5,.ag [.I p1]),(6,.ag [.I p2]),(35,.bool w2)] [] R ?_ ?_
  ·refine sN (bc R bd bW bf R R ?_)
   obtain ⟨r3,ot,hv⟩:=ao hv
   refine sN (ej (args:=[.agg [.al 5 (p0.aa.map ak.lv)]]) R Ju R (aI bm) (J9 ot) R (sN (ic R (bM R ?_))))
   by_cases bG:(!r3)=true
   ·replace hv:=aB hv bG
    refine sF R R bG (sF R R bG (sN (aZ (cB bG) (v:=(.bool _)) R (bM R (sF R R R (sF R R R (sN (aZ R (v:=(.bool _)) R (bM R (sF R R R (sF R R R (sN (aZ R (v:=(.bool _)) R (bM R (sF R R R (sF R R R (sN (aZ R (v:=(.bool _)) R (bM R (sF R R R (sF R R R (sN (aZ R (v:=(.bool _)) R ?_)))))))))))))))))))))))
    obtain rfl:=oI hv
    exact zS
   ·replace bG:=bF bG
    replace hv:=aA hv bG
    refine sT R (cB bG) (bh R aE bN (sT R (cB bG) (fy R R (sN (aW (cB bG) (v:=(.bool _)) R (bM R ?_))))))
    by_cases bI:(decide (p1<0))=true
    ·replace hv:=aB hv bI
     refine sF R R bI (sF R R bI (sN (aZ (cB bI) (v:=(.bool _)) R (bM R (sF R R R (sF R R R (sN (aZ R (v:=(.bool _)) R (bM R (sF R R R (sF R R R (sN (aZ R (v:=(.bool _)) R (bM R (sF R R R (sF R R R (sN (aZ R (v:=(.bool _)) R ?_))))))))))))))))))
     obtain rfl:=oI hv
     exact zS
    ·replace bI:=bF bI
     replace hv:=aA hv bI
     refine sT R (cB bI) (bh R aE bN (sT R (cB bI) (jx R R (sN (aW (cB bI) (v:=(.bool _)) R (bM R ?_))))))
     by_cases cn:(decide (p1 > 1000000))=true
     ·replace hv:=aB hv cn
      refine sF R R cn (sF R R cn (sN (aZ (cB cn) (v:=(.bool _)) R (bM R (sF R R R (sF R R R (sN (aZ R (v:=(.bool _)) R (bM R (sF R R R (sF R R R (sN (aZ R (v:=(.bool _)) R ?_)))))))))))))
      obtain rfl:=oI hv
      exact zS
     ·replace cn:=bF cn
      replace hv:=aA hv cn
      refine sT R (cB cn) (bh R aE bN (sT R (cB cn) (fy R R (sN (aW (cB cn) (v:=(.bool _)) R (bM R ?_))))))
      by_cases ca:(decide (p2<0))=true
      ·replace hv:=aB hv ca
       refine sF R R ca (sF R R ca (sN (aZ (cB ca) (v:=(.bool _)) R (bM R (sF R R R (sF R R R (sN (aZ R (v:=(.bool _)) R ?_))))))))
       obtain rfl:=oI hv
       exact zS
      ·replace ca:=bF ca
       replace hv:=aA hv ca
       refine sT R (cB ca) (bh R aE bN (sT R (cB ca) (jx R R (sN (aW (cB ca) (v:=(.bool _)) R (bM R ?_))))))
       by_cases dy:(decide (p2 > 1000000))=true
       ·replace hv:=aB hv dy
        refine sF R R dy (sF R R dy (sN (aZ (cB dy) (v:=(.bool _)) R ?_)))
        obtain rfl:=oI hv
        exact zS
       ·replace dy:=bF dy
        replace hv:=aA hv dy
        refine sT R (cB dy) (oM (v:=(.int _ _)) R (sT R (cB dy) (fy R R (sN (aW (cB dy) (v:=(.bool _)) R ?_)))))
        obtain rfl:=oI hv
        exact zS
  clear hv
  refine LH.cond (t:=w2) R (fun uh=>?_) (fun uh=>?_)
  ·replace h:=aB h uh
   refine LH.aj [(8,.nil)] [] R (k9 R zS) (LH.ret (aU ?_))
   obtain rfl:=oI h
   exact aN (aT Tryz.results16) (bO R (bL ⟨aM mN,R,aX R,Sub.nil⟩))
  replace h:=aA h uh
  refine LH.skip (au (LH.aj [(3,.I p3),(4,.ag [.al 5 (p0.aa.map ak.lv)]),(5,.ag [.I p1]),(6,.ag [.I p2]),(9,.nil)] [] R (k9 R zS) (LH.seq (LH.aj [(3,.I p3),(5,.ag [.I p1]),(6,.ag [.I p2]),(9,.nil),(37,.al 5 (p0.aa.map ak.lv)),(38,.I (p0.aa.length:Int)),(39,.I 0)] [] R (sN (aw bX bZ dq R R R (sN (bh R bZ e8 (sN (bV (f:=ak.lv) dE R (br R zS))))))) (LH.block (LH.wk ((Wk.trans (aQ [(3,.I p3),(5,.ag [.I p1]),(6,.ag [.I p2]),(9,.nil),(37,.al 5 (p0.aa.map ak.lv)),(38,.I (p0.aa.length:Int)),(39,.I 0)] []) (Wk.trans (aQ [(3,.I p3),(5,.ag [.I p1]),(6,.ag [.I p2]),(9,.nil),(37,.al 5 (p0.aa.map ak.lv)),(38,.I (p0.aa.length:Int)),(39,.I 0)] []) (Wk.trans (Wk.tC (fB:=[(3,.I p3),(5,.ag [.I p1]),(6,.ag [.I p2]),(9,.arr 176 (List.length ([]:List bR))),(37,.al 5 (p0.aa.map ak.lv)),(38,.I (p0.aa.length:Int)),(39,.I 0)]) 176 43 2 R R (wK (wK (wK (wO (wK (wK (wK wN)))))))) (aQ [(3,.I p3),(5,.ag [.I p1]),(6,.ag [.I p2]),(9,.arr 176 (List.length ([]:List bR))),(37,.al 5 (p0.aa.map ak.lv)),(38,.I (p0.aa.length:Int)),(39,.I 0)] [(176,.arr 43 2 (List.map bR.lv ([]:List bR)))]))))) (LH.loop (fun n e m=>∃ (n10:Int) (gP:List bR),Bm F p0 p1 p2 p3 n n10 gP=some r∧e=Env.of [(3,.I p3),(5,.ag [.I p1]),(6,.ag [.I p2]),(9,.arr 176 gP.length),(37,.al 5 (p0.aa.map ak.lv)),(38,.I (p0.aa.length:Int)),(39,.I n10)]∧m=Mem.of [(176,.arr 43 2 (gP.map bR.lv))]) F ⟨0,([]:List bR),h,R,R⟩ ?_)))))))
  clear h
  rintro n e m ⟨n10,gP,h,rfl,rfl⟩
  rcases n with _ | n
  · cases (show Option.none=some _ from h)
  obtain ⟨aK,a7⟩:∃ f,f=Bm F p0 p1 p2 p3 n:=⟨_,rfl⟩
  replace h:GQ F p0 p1 p2 p3 aK n10 gP=some r:=a7 ▸ h
  unfold GQ at h
  refine LH.aj [(3,.I p3),(5,.ag [.I p1]),(6,.ag [.I p2]),(9,.arr 176 gP.length),(37,.al 5 (p0.aa.map ak.lv)),(38,.I (p0.aa.length:Int)),(39,.I n10),(40,.bool (decide (n10<(p0.aa.length:Int))))] [(176,.arr 43 2 (gP.map bR.lv))] R (sN (fy R R zS)) (LH.seq (LH.cond (t:=(decide (n10<(p0.aa.length:Int)))) R (fun gh=>?_) (fun gh=>?_)))
  ·replace h:=aB h gh
   refine LH.skip (au (LH.wk (aQ [(3,.I p3),(5,.ag [.I p1]),(6,.ag [.I p2]),(9,.arr 176 gP.length),(37,.al 5 (p0.aa.map ak.lv)),(38,.I (p0.aa.length:Int)),(39,.I n10)] [(176,.arr 43 2 (gP.map bR.lv))]) (LH.seq (LH.block ?_))))
   obtain ⟨fg,ob,h⟩:=ao h
   refine LH.aj [(3,.I p3),(5,.ag [.I p1]),(6,.ag [.I p2]),(9,.arr 176 gP.length),(11,.ag (ak.lv fg).cells),(37,.al 5 (p0.aa.map ak.lv)),(38,.I (p0.aa.length:Int)),(39,.I n10)] [(176,.arr 43 2 (gP.map bR.lv))] R (sN (eM (f:=ak.lv) dE cT cz R R ak.ok ob R (sN (bc R cT il cz R R (sN (j0 (id:=111) R qH R R (s_ (cF R R R cT cz R R R (s0 ((Wk.trans (aQ [(3,.I p3),(5,.ag [.I p1]),(6,.ag [.I p2]),(9,.arr 176 gP.length),(11,.ptr 111 0),(37,.al 5 (p0.aa.map ak.lv)),(38,.I (p0.aa.length:Int)),(39,.I n10)] [(111,.box (ak.lv fg).cells),(176,.arr 43 2 (gP.map bR.lv))]) (Wk.trans (Wk.bk 111 (ak.lv fg).cells R R R (bH R)) (Wk.eq R R R R))))))))))))) (LH.seq (LH.aj [(3,.I p3),(5,.ag [.I p1]),(6,.ag [.I p2]),(9,.arr 176 gP.length),(11,.ag (ak.lv fg).cells),(37,.al 5 (p0.aa.map ak.lv)),(38,.I (p0.aa.length:Int)),(39,.I n10),(51,.bool (fg.ae || (decide ((fg.Uses.length:Int) > p3))))] [(176,.arr 43 2 (gP.map bR.lv))] R ?_ ?_))
   ·refine sN (aw ja jL lP R R R (sN (bh R jL uN (bM R ?_))))
    by_cases b4:fg.ae=true
    ·exact sF R R b4 (sF R R b4 (sF R R b4 (sF R R b4 (sF R R b4 (sN (aZ (cB b4) (v:=(.bool _)) R (s0 (Wk.to (eC R (eC R (eC R (eC R (eC R (eC R (eC R (eC R (eC (cB (pn b4)) eN))))))))) ⟨R,trivial⟩ R (aX R)))))))))
    ·replace b4:=bF b4
     exact sT R (cB b4) (aw dK dS gZ R R R (sT R (cB b4) (bh R dS kx (sT R (cB b4) (bV (f:=ay.lv) iZ R (sT R (cB b4) (oM (v:=(.int _ _)) R (sT R (cB b4) (jx R R (sN (aW (cB b4) (v:=(.bool _)) R (s0 (Wk.to (eC R (eC R (eC R (eC R (eC R (eC R (eC R (eC R (eC (cB (gQ b4)) eN))))))))) ⟨R,trivial⟩ R (aX R))))))))))))))
   refine LH.cond (t:=(fg.ae || (decide ((fg.Uses.length:Int) > p3)))) R (fun iM=>?_) (fun iM=>?_)
   ·replace h:=aB h iM
    refine LH.exit (cD (bP (au (LH.aS [(3,.I p3),(5,.ag [.I p1]),(6,.ag [.I p2]),(9,.arr 176 gP.length),(37,.al 5 (p0.aa.map ak.lv)),(38,.I (p0.aa.length:Int)),(39,.I (i64 (n10+1)))] [(176,.arr 43 2 (gP.map bR.lv))] R (sN (cI R R (br R zS))) ?_))))
    exact bl ⟨(i64 (n10+1)),gP,a7 ▸ h,R,R⟩ (Wk.eq R R R R)
   replace h:=aA h iM
   refine LH.skip (au (LH.wk (aQ [(3,.I p3),(5,.ag [.I p1]),(6,.ag [.I p2]),(9,.arr 176 gP.length),(11,.ag (ak.lv fg).cells),(37,.al 5 (p0.aa.map ak.lv)),(38,.I (p0.aa.length:Int)),(39,.I n10)] [(176,.arr 43 2 (gP.map bR.lv))]) (LH.seq ?_)))
   obtain ⟨iC,Lk,h⟩:=ao h
   refine LH.aj [(3,.I p3),(5,.ag [.I p1]),(6,.ag [.I p2]),(9,.arr 176 gP.length),(11,.ag (ak.lv fg).cells),(37,.al 5 (p0.aa.map ak.lv)),(38,.I (p0.aa.length:Int)),(39,.I n10),(55,.bool iC)] [(176,.arr 43 2 (gP.map bR.lv))] R (sN (aw dK dS gZ R R R (sN (bh R dS kx (sN (PW (vs:=[.ag [.I p1],.ag [.I p2]]) R (sN (ej (args:=[.al 3 (fg.Uses.map ay.lv),.fn 37 [.ag [.I p1],.ag [.I p2]]]) R Jv R (aI (aI bm)) (JS (dY:=37) (df:=[.ag [.I p1],.ag [.I p2]]) O1 R (fun _ _ h=>Qa h) Lk) R zS)))))))) (LH.cond (t:=iC) R (fun km=>?_) (fun km=>?_))
   ·replace h:=aB h km
    refine LH.exit (cD (bP (au (LH.aS [(3,.I p3),(5,.ag [.I p1]),(6,.ag [.I p2]),(9,.arr 176 gP.length),(37,.al 5 (p0.aa.map ak.lv)),(38,.I (p0.aa.length:Int)),(39,.I (i64 (n10+1)))] [(176,.arr 43 2 (gP.map bR.lv))] R (sN (cI R R (br R zS))) ?_))))
    exact bl ⟨(i64 (n10+1)),gP,a7 ▸ h,R,R⟩ (Wk.eq R R R R)
   replace h:=aA h km
   refine LH.skip (au (LH.aj [(3,.I p3),(5,.ag [.I p1]),(6,.ag [.I p2]),(9,.arr 176 gP.length),(11,.ag (ak.lv fg).cells),(12,.I (i64 ((fg.ah.length:Int) - 1))),(37,.al 5 (p0.aa.map ak.lv)),(38,.I (p0.aa.length:Int)),(39,.I n10)] [(176,.arr 43 2 (gP.map bR.lv))] R (sN (aw dJ dZ gN R R R (sN (bh R dZ lM (sN (bV (f:=LV.bool) jy R (sN (iS R R (bt R zS))))))))) (LH.block (LH.loop (fun n e m=>∃ (n19:Int),Bn aK n10 gP fg n n19=some r∧e=Env.of [(3,.I p3),(5,.ag [.I p1]),(6,.ag [.I p2]),(9,.arr 176 gP.length),(11,.ag (ak.lv fg).cells),(12,.I n19),(37,.al 5 (p0.aa.map ak.lv)),(38,.I (p0.aa.length:Int)),(39,.I n10)]∧m=Mem.of [(176,.arr 43 2 (gP.map bR.lv))]) F ⟨(i64 ((fg.ah.length:Int) - 1)),h,R,R⟩ ?_))))
   clear h
   rintro n e m ⟨n19,h,rfl,rfl⟩
   rcases n with _ | n
   · cases (show Option.none=some _ from h)
   obtain ⟨fv,eE⟩:∃ f,f=Bn aK n10 gP fg n:=⟨_,rfl⟩
   replace h:GR aK n10 gP fg fv n19=some r:=eE ▸ h
   unfold GR at h
   refine LH.seq (LH.aj [(3,.I p3),(5,.ag [.I p1]),(6,.ag [.I p2]),(9,.arr 176 gP.length),(11,.ag (ak.lv fg).cells),(12,.I n19),(37,.al 5 (p0.aa.map ak.lv)),(38,.I (p0.aa.length:Int)),(39,.I n10),(61,.bool (decide (n19 ≥ 0)))] [(176,.arr 43 2 (gP.map bR.lv))] R (br R (sN (pW R R zS))) (LH.cond (t:=(decide (n19 ≥ 0))) R (fun kE=>?_) (fun kE=>?_)))
   ·replace h:=aB h kE
    refine LH.skip (au (LH.wk (aQ [(3,.I p3),(5,.ag [.I p1]),(6,.ag [.I p2]),(9,.arr 176 gP.length),(11,.ag (ak.lv fg).cells),(12,.I n19),(37,.al 5 (p0.aa.map ak.lv)),(38,.I (p0.aa.length:Int)),(39,.I n10)] [(176,.arr 43 2 (gP.map bR.lv))]) (LH.seq (LH.block ?_))))
    obtain ⟨xt,AV,h⟩:=ao h
    refine LH.aj [(3,.I p3),(5,.ag [.I p1]),(6,.ag [.I p2]),(9,.arr 176 gP.length),(11,.ag (ak.lv fg).cells),(12,.I n19),(37,.al 5 (p0.aa.map ak.lv)),(38,.I (p0.aa.length:Int)),(39,.I n10),(68,.bool xt)] [(176,.arr 43 2 (gP.map bR.lv))] R (sN (aw dJ dZ gN R R R (sN (bh R dZ lM (br R (sN (eM (f:=LV.bool) jy jL lP R R okB AV R (sN (bh R jL uN zS))))))))) (LH.cond (t:=xt) R (fun ko=>?_) (fun ko=>?_))
    ·replace h:=aB h ko
     obtain ⟨v23,AT,h⟩:=ao h
     refine LH.aj [(3,.I p3),(5,.ag [.I p1]),(6,.ag [.I p2]),(9,.arr 176 v23.length),(37,.al 5 (p0.aa.map ak.lv)),(38,.I (p0.aa.length:Int)),(39,.I n10)] [(176,.arr 43 2 (v23.map bR.lv))] R (jQ R (sN (aw fO aE bb R R R (sN (bh R aE bN (br R (sN (cI R R (sN (fU (vs:=[(0,.I fg.ID),(1,.I (i64 (n19+1)))]) D6 D7 R (lf jK bb aE R R R (lf fa bb aE R R R fT)) (sN (ka (f:=bR.lv) (ys:=[(bR.mk fg.ID (i64 (n19+1)))]) Hc QY gA R R R bR.ok (sN (nL (f:=bR.lv) Hc QY gA R R (bH R) R AT (nQ R zS))))))))))))))) (LH.exit (EJ R (cD (b6 (bP (aY (au (LH.aS [(3,.I p3),(5,.ag [.I p1]),(6,.ag [.I p2]),(9,.arr 176 v23.length),(37,.al 5 (p0.aa.map ak.lv)),(38,.I (p0.aa.length:Int)),(39,.I (i64 (n10+1)))] [(176,.arr 43 2 (v23.map bR.lv))] R (sN (cI R R (br R zS))) ?_))))))))
     exact bl ⟨(i64 (n10+1)),v23,a7 ▸ h,R,R⟩ (Wk.eq R R R R)
    replace h:=aA h ko
    refine LH.skip (aY (au (LH.aS [(3,.I p3),(5,.ag [.I p1]),(6,.ag [.I p2]),(9,.arr 176 gP.length),(11,.ag (ak.lv fg).cells),(12,.I (i64 (n19 - 1))),(37,.al 5 (p0.aa.map ak.lv)),(38,.I (p0.aa.length:Int)),(39,.I n10)] [(176,.arr 43 2 (gP.map bR.lv))] R (br R (sN (iS R R (bt R zS)))) ?_)))
    exact bl ⟨(i64 (n19 - 1)),eE ▸ h,R,R⟩ (Wk.eq R R R R)
   replace h:=aA h kE
   refine LH.exit (cD (b6 (bP (aY (au (LH.aS [(3,.I p3),(5,.ag [.I p1]),(6,.ag [.I p2]),(9,.arr 176 gP.length),(37,.al 5 (p0.aa.map ak.lv)),(38,.I (p0.aa.length:Int)),(39,.I (i64 (n10+1)))] [(176,.arr 43 2 (gP.map bR.lv))] R (sN (cI R R (br R zS))) ?_))))))
   exact bl ⟨(i64 (n10+1)),gP,a7 ▸ h,R,R⟩ (Wk.eq R R R R)
  replace h:=aA h gh
  refine LH.exit (cD (b6 (bP (au (LH.wk ((Wk.trans (aQ [(9,.arr 176 gP.length)] [(176,.arr 43 2 (gP.map bR.lv))]) (Wk.trans (Wk.lC (f:=bR.lv) (fB:=[(9,.al 2 (gP.map bR.lv))]) 176 43 2 gP R R (bH R) (fZ fN)) (aQ [(9,.al 2 (gP.map bR.lv))] [])))) (LH.aj [(8,.al 2 (gP.map bR.lv))] [] R (fh R (qB R zS)) (LH.ret ?_)))))))
  obtain rfl:=oI h
  exact aN (aT Tryz.results16) (bO R (bL ⟨aM mN,R,aX R,Sub.rfl⟩))
theorem J4 {F:Nat} {r:Bool} (h:vA F=some r):aO Tryz.prog 14 [] (Mem.of []) (.bool r) (Mem.of []):=by
  unfold vA at h
  refine bx Tryz.func14 R (nT Tryz.ntmps14 R) (LH.wk (aQ [] []) (LH.aj [] [] R (ct R zS) (LH.aj [(1,.ag [.I 5,.I 1,.str (ByteArray.mk #[113]),.al 6 (List.map aq.lv [(aq.mk 1 3 0 0 0 0)]),.nil])] [] R (sN (fU (vs:=[(0,.I 1),(1,.I 3)]) Q3 Hh R (lf pf bb aE R R R (lf nu bb aE R R R fT)) (sN (ka (f:=aq.lv) (ys:=[(aq.mk 1 3 0 0 0 0)]) gy BD dN R R R aq.ok (sN (fU (vs:=[(0,.I 5),(1,.I 1),(2,.str (ByteArray.mk #[113])),(3,.al 6 (List.map aq.lv [(aq.mk 1 3 0 0 0 0)]))]) Q1 xf R (lf fb bb aE R R R (lf fP bb aE R R R (lf gY xr po R R R (lf c8 fF db R R R fT)))) (sN (j0 (id:=101) R xf R R (s_ (cF R R R cv cd R R R (s0 ((Wk.trans (aQ [(1,.ptr 101 0)] [(101,.box [.I 5,.I 1,.str (ByteArray.mk #[113]),.al 6 (List.map aq.lv [(aq.mk 1 3 0 0 0 0)]),.nil])]) (Wk.trans (Wk.bk 101 [.I 5,.I 1,.str (ByteArray.mk #[113]),.al 6 (List.map aq.lv [(aq.mk 1 3 0 0 0 0)]),.nil] R R R (bH R)) (Wk.eq R R R R))))))))))))))) (LH.aj [(2,.al 12 (List.map ax.lv ([(ax.mk (aL.mk 3 0 2) 4 (ai.mk 0 0 (ByteArray.mk #[]) [] []) (bR.mk 5 1) 9),(ax.mk (aL.mk 1 0 0) 1 (ai.mk 5 1 (ByteArray.mk #[113]) [(aq.mk 1 3 0 0 0 0)] []) (bR.mk 0 0) 0),(ax.mk (aL.mk 2 0 1) 3 (ai.mk 0 0 (ByteArray.mk #[]) [] []) (bR.mk 5 1) 0)])))] [] R (sN (fU (vs:=[(0,.I 3),(2,.I 2)]) Hg uO R (lf fc bb aE R R R (lf dL bb aE R R R fT)) (sN (fU (vs:=[(0,.I 5),(1,.I 1)]) D6 D7 R (lf jK bb aE R R R (lf fa bb aE R R R fT)) (sN (fU (vs:=[(0,.agg [.I 3,.I 0,.I 2]),(1,.I 4),(3,.agg [.I 5,.I 1]),(4,.I 9)]) IM xg R (lf di b7 cc R R R (lf dM bb aE R R R (lf e5 gA gM R R R (lf lg bb aE R R R fT)))) (sN (fU (vs:=[(0,.I 1)]) Hg uO R (lf fc bb aE R R R fT) (sN (bc R cv eZ cd R R (sN (fU (vs:=[(0,.agg [.I 1,.I 0,.I 0]),(1,.I 1),(2,.agg [.I 5,.I 1,.str (ByteArray.mk #[113]),.al 6 (List.map aq.lv [(aq.mk 1 3 0 0 0 0)]),.nil])]) IM xg R (lf di b7 cc R R R (lf dM bb aE R R R (lf fe cd cv R R R fT))) (sN (fU (vs:=[(0,.I 2),(2,.I 1)]) Hg uO R (lf fc bb aE R R R (lf dL bb aE R R R fT)) (sN (fU (vs:=[(0,.I 5),(1,.I 1)]) D6 D7 R (lf jK bb aE R R R (lf fa bb aE R R R fT)) (sN (fU (vs:=[(0,.agg [.I 2,.I 0,.I 1]),(1,.I 3),(3,.agg [.I 5,.I 1])]) IM xg R (lf di b7 cc R R R (lf dM bb aE R R R (lf e5 gA gM R R R fT))) (sX (Mc (f:=ax.lv) (ys:=[(ax.mk (aL.mk 3 0 2) 4 (ai.mk 0 0 (ByteArray.mk #[]) [] []) (bR.mk 5 1) 9),(ax.mk (aL.mk 1 0 0) 1 (ai.mk 5 1 (ByteArray.mk #[113]) [(aq.mk 1 3 0 0 0 0)] []) (bR.mk 0 0) 0),(ax.mk (aL.mk 2 0 1) 3 (ai.mk 0 0 (ByteArray.mk #[]) [] []) (bR.mk 5 1) 0)]) fR zF dF R R R (T0 R R R (T0 R R R (T0 R R R WO))) (lj (Sub.agg (aI (aI (aI (aI (aI (aI (aI (qC (qC (aI (aI (aI bm))))))))))))) (lj (Sub.agg (aI (aI (aI (aI (aI (aI (aI (aI (qC (aI (aI (aI bm))))))))))))) (lj (Sub.agg (aI (aI (aI (aI (aI (aI (aI (qC (qC (aI (aI (aI bm))))))))))))) bm))) ax.ok) (qB R zS)))))))))))))))))))) ?_))))
  obtain ⟨r1,ei,h⟩:=ao h
  refine LH.aj [(3,.ag [.al 5 (r1.1.aa.map ak.lv)]),(4,.al 3 (r1.2.1.map cg.lv)),(5,.I r1.2.2)] [] R (fh R (sN (ej (args:=[.al 12 (List.map ax.lv ([(ax.mk (aL.mk 3 0 2) 4 (ai.mk 0 0 (ByteArray.mk #[]) [] []) (bR.mk 5 1) 9),(ax.mk (aL.mk 1 0 0) 1 (ai.mk 5 1 (ByteArray.mk #[113]) [(aq.mk 1 3 0 0 0 0)] []) (bR.mk 0 0) 0),(ax.mk (aL.mk 2 0 1) 3 (ai.mk 0 0 (ByteArray.mk #[]) [] []) (bR.mk 5 1) 0)])),.I 100]) R OP R (aI (aI bm)) (QE ei) R (wU R (sN (fV R R (sN (fV R R (sN (fV R R (sN (j0 (id:=103) R dH R R (s_ (cF R R R bd bf R R R (qB R (bt R (s0 ((Wk.trans (aQ [(3,.ptr 103 0),(4,.al 3 (r1.2.1.map cg.lv)),(5,.I r1.2.2)] [(103,.box [.al 5 (r1.1.aa.map ak.lv)])]) (Wk.trans (Wk.bk 103 [.al 5 (r1.1.aa.map ak.lv)] R R R (bH R)) (Wk.eq R R R R))))))))))))))))))))) ?_
  obtain ⟨r2,fH,h⟩:=ao h
  refine LH.aj [(3,.ag [.al 5 (r1.1.aa.map ak.lv)]),(4,.al 3 (r1.2.1.map cg.lv)),(5,.I r1.2.2),(6,.al 2 (r2.map bR.lv))] [] R (sN (bc R bd bW bf R R (sN (ej (args:=[.agg [.al 5 (r1.1.aa.map ak.lv)],.I 10,.I 7,.I 1]) R Jr R (aI (aI (aI (aI bm)))) (JY fH) R (qB R zS))))) ?_
  obtain ⟨w4,hv,h⟩:=ao h
  refine LH.aj [(0,.bool w4)] [] R ?_ ?_
  ·refine br R (sN (gr R R (bM R ?_)))
   by_cases bI:(r1.2.2 == 0)=true
   ·replace hv:=aB hv bI
    refine sT R (cB bI) (oM (v:=(.al _ _)) R (sT R (cB bI) (bV (f:=cg.lv) nk R (sT R (cB bI) (gr R R (sN (aZ (cB bI) (v:=(.bool _)) R (bM R ?_))))))))
    by_cases cn:((r1.2.1.length:Int) == 0)=true
    ·replace hv:=aB hv cn
     refine sT R (cB cn) (oM (v:=(.al _ _)) R (sT R (cB cn) (bV (f:=bR.lv) Hc R (sT R (cB cn) (gr R R (sN (aZ (cB cn) (v:=(.bool _)) R (bM R ?_))))))))
     by_cases ca:((r2.length:Int) == 1)=true
     ·replace hv:=aB hv ca
      refine sT R (cB ca) (oM (v:=(.al _ _)) R ?_)
      obtain ⟨x8,uD,hv⟩:=ao hv
      refine sT R (cB ca) (eM (f:=bR.lv) Hc gM gA R R bR.ok uD R (sT R (cB ca) (bc R gM wZ gA R R (sT R (cB ca) (fU (vs:=[(0,.I 5),(1,.I 1)]) D6 D7 R (lf jK bb aE R R R (lf fa bb aE R R R fT)) (sT R (cB ca) (Dr R R (Ks x8 (bR.mk 5 1)) (sN (aZ (cB ca) (v:=(.bool _)) R (bM R ?_))))))))))
      by_cases cW:(decide (x8=(bR.mk 5 1)))=true
      ·replace hv:=aB hv cW
       refine sT R (cB cW) (bc R bd bW bf R R ?_)
       obtain ⟨dG,qu,hv⟩:=ao hv
       refine sT R (cB cW) (ej (args:=[.agg [.al 5 (r1.1.aa.map ak.lv)],.I 10,.I 8,.I 1]) R Jr R (aI (aI (aI (aI bm)))) (JY qu) R (sT R (cB cW) (bV (f:=bR.lv) Hc R (sT R (cB cW) (gr R R (sN (aZ (cB cW) (v:=(.bool _)) R (ct R ?_))))))))
       obtain rfl:=oI hv
       exact zS
      ·replace cW:=bF cW
       replace hv:=aA hv cW
       refine sF R R cW (sF R R cW (sF R R cW (sF R R cW (sN (aW (cB cW) (v:=(.bool _)) R (ct R ?_))))))
       obtain rfl:=oI hv
       exact zS
     ·replace ca:=bF ca
      replace hv:=aA hv ca
      refine sF R R ca (sF R R ca (sF R R ca (sF R R ca (sF R R ca (sN (aW (cB ca) (v:=(.bool _)) R (bM R (sF R R R (sF R R R (sF R R R (sF R R R (sN (aW R (v:=(.bool _)) R (ct R ?_))))))))))))))
      obtain rfl:=oI hv
      exact zS
    ·replace cn:=bF cn
     replace hv:=aA hv cn
     refine sF R R cn (sF R R cn (sF R R cn (sN (aW (cB cn) (v:=(.bool _)) R (bM R (sF R R R (sF R R R (sF R R R (sF R R R (sF R R R (sN (aW R (v:=(.bool _)) R (bM R (sF R R R (sF R R R (sF R R R (sF R R R (sN (aW R (v:=(.bool _)) R (ct R ?_))))))))))))))))))))
     obtain rfl:=oI hv
     exact zS
   ·replace bI:=bF bI
    replace hv:=aA hv bI
    refine sF R R bI (sF R R bI (sF R R bI (sN (aW (cB bI) (v:=(.bool _)) R (bM R (sF R R R (sF R R R (sF R R R (sN (aW R (v:=(.bool _)) R (bM R (sF R R R (sF R R R (sF R R R (sF R R R (sF R R R (sN (aW R (v:=(.bool _)) R (bM R (sF R R R (sF R R R (sF R R R (sF R R R (sN (aW R (v:=(.bool _)) R (ct R ?_))))))))))))))))))))))))))
    obtain rfl:=oI hv
    exact zS
  clear hv
  refine LH.ret ?_
  obtain rfl:=oI h
  exact aN (aT Tryz.results14) (bO R (bL ⟨aM mN,R,aX R,Sub.rfl⟩))
end Go.Proofs.YtmollikhdbaikaaGreat
