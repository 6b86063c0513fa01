import Derived.Test.YtmollikhdbaikaaGreatZW4
set_option linter.unusedVariables false
set_option linter.unusedSimpArgs false
set_option maxRecDepth 100000
set_option maxHeartbeats 1000000
namespace Go.Proofs.YtmollikhdbaikaaGreat
open Go.L Go.Sh
set_option maxHeartbeats 4000000 in
theorem P9 {F:Nat} {p0:ak} {p1:ak} {r:Bool} (h:yt F p0 p1=some r):aO Tryz.prog 23 [ak.lv p0,ak.lv p1] (Mem.of []) (.bool r) (Mem.of []):=by
  unfold yt at h
  refine bx Tryz.func23 R (nT Tryz.ntmps23 R) (LH.wk (aQ [(0,ak.lv p0),(1,ak.lv p1)] []) (LH.aj [(2,.ag (ak.lv p0).cells),(3,.ag (ak.lv p1).cells)] [] R (sB (de R R R R (sB (de R R R R (ct R zS))))) (LH.seq (LH.aj [(2,.ag (ak.lv p0).cells),(3,.ag (ak.lv p1).cells),(46,.bool ((p0.ID != p1.ID) || ((!(p0.ae == p1.ae)) || (((p0.ab.length:Int) != (p1.ab.length:Int)) || (((p0.ah.length:Int) != (p1.ah.length:Int)) || ((p0.Uses.length:Int) != (p1.Uses.length:Int)))))))] [] R ?_ ?_))))
  ·refine sN (aw fO aE bb R R R (sN (bh R aE bN (sN (aw fO aE bb R R R (sN (bh R aE bN (sN (iR R R (bM R ?_))))))))))
   by_cases cE:(p0.ID != p1.ID)=true
   ·exact sF R R cE (sF R R cE (sF R R cE (sF R R cE (sF R R cE (sN (aZ (cB cE) (v:=(.bool _)) R (bM R (sF R R R (sF R R R (sF R R R (sF R R R (sF R R R (sF R R R (sF R R R (sN (aZ R (v:=(.bool _)) R (bM R (sF R R R (sF R R R (sF R R R (sF R R R (sF R R R (sF R R R (sF R R R (sN (aZ R (v:=(.bool _)) R (bM R (sF R R R (sF R R R (sF R R R (sF R R R (sF R R R (sF R R R (sF R R R (sN (aZ R (v:=(.bool _)) R (s0 (Wk.to (eC R (eC R (eC (cB (pn cE)) eN))) mN R (aX R)))))))))))))))))))))))))))))))))))))))
   ·replace cE:=bF cE
    refine sT R (cB cE) (aw ja jL lP R R R (sT R (cB cE) (bh R jL uN (sT R (cB cE) (aw ja jL lP R R R (sT R (cB cE) (bh R jL uN (sT R (cB cE) (PX R R RH (sN (aW (cB cE) (v:=(.bool _)) R (bM R ?_))))))))))))
    by_cases bS:(!(p0.ae == p1.ae))=true
    ·exact sF R R bS (sF R R bS (sF R R bS (sF R R bS (sF R R bS (sF R R bS (sF R R bS (sN (aZ (cB bS) (v:=(.bool _)) R (bM R (sF R R R (sF R R R (sF R R R (sF R R R (sF R R R (sF R R R (sF R R R (sN (aZ R (v:=(.bool _)) R (bM R (sF R R R (sF R R R (sF R R R (sF R R R (sF R R R (sF R R R (sF R R R (sN (aZ R (v:=(.bool _)) R (s0 (Wk.to (eC R (eC R (eC (cB (Eq.trans (pn bS) (gQ cE))) eN))) mN R (aX R)))))))))))))))))))))))))))))))
    ·replace bS:=bF bS
     refine sT R (cB bS) (aw cZ c7 fE R R R (sT R (cB bS) (bh R c7 ij (sT R (cB bS) (bV (f:=ai.lv) fw R (sT R (cB bS) (aw cZ c7 fE R R R (sT R (cB bS) (bh R c7 ij (sT R (cB bS) (bV (f:=ai.lv) fw R (sT R (cB bS) (iR R R (sN (aW (cB bS) (v:=(.bool _)) R (bM R ?_))))))))))))))))
     by_cases bG:((p0.ab.length:Int) != (p1.ab.length:Int))=true
     ·exact sF R R bG (sF R R bG (sF R R bG (sF R R bG (sF R R bG (sF R R bG (sF R R bG (sN (aZ (cB bG) (v:=(.bool _)) R (bM R (sF R R R (sF R R R (sF R R R (sF R R R (sF R R R (sF R R R (sF R R R (sN (aZ R (v:=(.bool _)) R (s0 (Wk.to (eC R (eC R (eC (cB (Eq.trans (Eq.trans (pn bG) (gQ bS)) (gQ cE))) eN))) mN R (aX R)))))))))))))))))))))
     ·replace bG:=bF bG
      refine sT R (cB bG) (aw dJ dZ gN R R R (sT R (cB bG) (bh R dZ lM (sT R (cB bG) (bV (f:=LV.bool) jy R (sT R (cB bG) (aw dJ dZ gN R R R (sT R (cB bG) (bh R dZ lM (sT R (cB bG) (bV (f:=LV.bool) jy R (sT R (cB bG) (iR R R (sN (aW (cB bG) (v:=(.bool _)) R (bM R ?_))))))))))))))))
      by_cases bI:((p0.ah.length:Int) != (p1.ah.length:Int))=true
      ·exact sF R R bI (sF R R bI (sF R R bI (sF R R bI (sF R R bI (sF R R bI (sF R R bI (sN (aZ (cB bI) (v:=(.bool _)) R (s0 (Wk.to (eC R (eC R (eC (cB (Eq.trans (Eq.trans (Eq.trans (pn bI) (gQ bG)) (gQ bS)) (gQ cE))) eN))) mN R (aX R)))))))))))
      ·replace bI:=bF bI
       exact sT R (cB bI) (aw dK dS gZ R R R (sT R (cB bI) (bh R dS kx (sT R (cB bI) (bV (f:=ay.lv) iZ R (sT R (cB bI) (aw dK dS gZ R R R (sT R (cB bI) (bh R dS kx (sT R (cB bI) (bV (f:=ay.lv) iZ R (sT R (cB bI) (iR R R (sN (aW (cB bI) (v:=(.bool _)) R (s0 (Wk.to (eC R (eC R (eC (cB (Eq.trans (Eq.trans (Eq.trans (gQ bI) (gQ bG)) (gQ bS)) (gQ cE))) eN))) mN R (aX R))))))))))))))))))
  refine LH.cond (t:=((p0.ID != p1.ID) || ((!(p0.ae == p1.ae)) || (((p0.ab.length:Int) != (p1.ab.length:Int)) || (((p0.ah.length:Int) != (p1.ah.length:Int)) || ((p0.Uses.length:Int) != (p1.Uses.length:Int))))))) R (fun fQ=>?_) (fun fQ=>?_)
  ·replace h:=aB h fQ
   refine LH.aj [(4,.bool false)] [] R (ct R zS) (LH.ret (aU ?_))
   obtain rfl:=oI h
   exact aN (aT Tryz.results23) (bO R (bL ⟨aM mN,R,aX R,Sub.rfl⟩))
  replace h:=aA h fQ
  refine LH.skip (au (LH.wk (aQ [(2,.ag (ak.lv p0).cells),(3,.ag (ak.lv p1).cells)] []) (LH.seq (LH.aj [(2,.ag (ak.lv p0).cells),(3,.ag (ak.lv p1).cells),(5,.I 0)] [] R (bt R zS) (LH.block (LH.loop (fun n e m=>∃ (n7:Int),Be F p0 p1 n n7=some r∧e=Env.of [(2,.ag (ak.lv p0).cells),(3,.ag (ak.lv p1).cells),(5,.I n7)]∧m=Mem.of []) F ⟨0,h,R,R⟩ ?_))))))
  clear h
  rintro n e m ⟨n7,h,rfl,rfl⟩
  rcases n with _ | n
  · cases (show Option.none=some _ from h)
  obtain ⟨aK,a7⟩:∃ f,f=Be F p0 p1 n:=⟨_,rfl⟩
  replace h:GC F p0 p1 aK n7=some r:=a7 ▸ h
  unfold GC at h
  refine LH.seq (LH.aj [(2,.ag (ak.lv p0).cells),(3,.ag (ak.lv p1).cells),(5,.I n7),(51,.bool (decide (n7<(p0.ab.length:Int))))] [] R (br R (sN (aw cZ c7 fE R R R (sN (bh R c7 ij (sN (bV (f:=ai.lv) fw R (sN (fy R R zS))))))))) (LH.cond (t:=(decide (n7<(p0.ab.length:Int)))) R (fun kY=>?_) (fun kY=>?_)))
  ·replace h:=aB h kY
   refine LH.skip (au (LH.wk (aQ [(2,.ag (ak.lv p0).cells),(3,.ag (ak.lv p1).cells),(5,.I n7)] []) (LH.seq (LH.block ?_))))
   obtain ⟨x9,xn,h⟩:=ao h
   obtain ⟨pq,rE,h⟩:=ao h
   obtain ⟨cm,kr,h⟩:=ao h
   refine LH.cO mixed [] [0,0,0,0,0,0,0,0,0,0,0,0] [(2,.ag (ak.lv p0).cells),(3,.ag (ak.lv p1).cells),(5,.I n7),(65,.bool (!cm))] [] R R (by kernel_rfl) (aD (aw cZ c7 fE R R R ⟨R,aD (bh R c7 ij ⟨R,fC R (aD (eM (f:=ai.lv) fw cv cd R R ai.ok xn R ⟨R,aD (bc R cv eZ cd R R ⟨R,aD (aw cZ c7 fE R R R ⟨R,aD (bh R c7 ij ⟨R,fC R (aD (eM (f:=ai.lv) fw cv cd R R ai.ok rE R ⟨R,aD (bc R cv eZ cd R R ⟨R,aD (ej (args:=[ai.lv x9,ai.lv pq]) R Js R (aI (aI bm)) (Ka kr) R ⟨R,aD (ic R ⟨R,zM⟩)⟩)⟩)⟩))⟩)⟩)⟩)⟩))⟩)⟩)) (LH.cond (t:=(!cm)) R (fun gh=>?_) (fun gh=>?_))
   ·replace h:=aB h gh
    refine LH.aj [(4,.bool false)] [] R (ct R zS) (LH.ret (bD (aU (dW (bD (aU ?_))))))
    obtain rfl:=oI h
    exact aN (aT Tryz.results23) (bO R (bL ⟨aM mN,R,aX R,Sub.rfl⟩))
   replace h:=aA h gh
   refine LH.skip (aY (au (LH.aS [(2,.ag (ak.lv p0).cells),(3,.ag (ak.lv p1).cells),(5,.I (i64 (n7+1)))] [] R (br R (sN (cI R R (bt R zS)))) ?_)))
   exact bl ⟨(i64 (n7+1)),a7 ▸ h,R,R⟩ (Wk.eq R R R R)
  replace h:=aA h kY
  refine LH.exit (cD (b6 (bP (au (LH.wk (aQ [(2,.ag (ak.lv p0).cells),(3,.ag (ak.lv p1).cells)] []) (LH.seq (LH.aj [(2,.ag (ak.lv p0).cells),(3,.ag (ak.lv p1).cells),(6,.I 0)] [] R (bt R zS) (LH.block (LH.loop (fun n e m=>∃ (n13:Int),y5 F p0 p1 n n13=some r∧e=Env.of [(2,.ag (ak.lv p0).cells),(3,.ag (ak.lv p1).cells),(6,.I n13)]∧m=Mem.of []) F ⟨0,h,R,R⟩ ?_)))))))))
  clear h
  rintro n e m ⟨n13,h,rfl,rfl⟩
  rcases n with _ | n
  · cases (show Option.none=some _ from h)
  obtain ⟨fv,eE⟩:∃ f,f=y5 F p0 p1 n:=⟨_,rfl⟩
  replace h:GD F p0 p1 fv n13=some r:=eE ▸ h
  unfold GD at h
  refine LH.seq (LH.aj [(2,.ag (ak.lv p0).cells),(3,.ag (ak.lv p1).cells),(6,.I n13),(70,.bool (decide (n13<(p0.ah.length:Int))))] [] R (br R (sN (aw dJ dZ gN R R R (sN (bh R dZ lM (sN (bV (f:=LV.bool) jy R (sN (fy R R zS))))))))) (LH.cond (t:=(decide (n13<(p0.ah.length:Int)))) R (fun pI=>?_) (fun pI=>?_)))
  ·replace h:=aB h pI
   refine LH.skip (au (LH.wk (aQ [(2,.ag (ak.lv p0).cells),(3,.ag (ak.lv p1).cells),(6,.I n13)] []) (LH.seq (LH.block ?_))))
   obtain ⟨Km,LJ,h⟩:=ao h
   obtain ⟨CE,wx,h⟩:=ao h
   refine LH.cO mixed [] [0,0,0,0,0,0,0,0,0,0,0] [(2,.ag (ak.lv p0).cells),(3,.ag (ak.lv p1).cells),(6,.I n13),(83,.bool (!(Km == CE)))] [] R R (by kernel_rfl) (aD (aw dJ dZ gN R R R ⟨R,aD (bh R dZ lM ⟨R,fC R (aD (eM (f:=LV.bool) jy jL lP R R okB LJ R ⟨R,aD (bh R jL uN ⟨R,aD (aw dJ dZ gN R R R ⟨R,aD (bh R dZ lM ⟨R,fC R (aD (eM (f:=LV.bool) jy jL lP R R okB wx R ⟨R,aD (bh R jL uN ⟨R,aD (PX R R RH ⟨R,zM⟩)⟩)⟩))⟩)⟩)⟩)⟩))⟩)⟩)) (LH.cond (t:=(!(Km == CE))) R (fun kl=>?_) (fun kl=>?_))
   ·replace h:=aB h kl
    refine LH.aj [(4,.bool false)] [] R (ct R zS) (LH.ret (bD (aU (dW (bD (aU ?_))))))
    obtain rfl:=oI h
    exact aN (aT Tryz.results23) (bO R (bL ⟨aM mN,R,aX R,Sub.rfl⟩))
   replace h:=aA h kl
   refine LH.skip (aY (au (LH.aS [(2,.ag (ak.lv p0).cells),(3,.ag (ak.lv p1).cells),(6,.I (i64 (n13+1)))] [] R (br R (sN (cI R R (bt R zS)))) ?_)))
   exact bl ⟨(i64 (n13+1)),eE ▸ h,R,R⟩ (Wk.eq R R R R)
  replace h:=aA h pI
  refine LH.exit (cD (b6 (bP (au (LH.wk (aQ [(2,.ag (ak.lv p0).cells),(3,.ag (ak.lv p1).cells)] []) (LH.seq (LH.aj [(2,.ag (ak.lv p0).cells),(3,.ag (ak.lv p1).cells),(7,.I 0)] [] R (bt R zS) (LH.block (LH.loop (fun n e m=>∃ (n18:Int),Bf p0 p1 n n18=some r∧e=Env.of [(2,.ag (ak.lv p0).cells),(3,.ag (ak.lv p1).cells),(7,.I n18)]∧m=Mem.of []) F ⟨0,h,R,R⟩ ?_)))))))))
  clear h
  rintro n e m ⟨n18,h,rfl,rfl⟩
  rcases n with _ | n
  · cases (show Option.none=some _ from h)
  obtain ⟨o9,mZ⟩:∃ f,f=Bf p0 p1 n:=⟨_,rfl⟩
  replace h:GF p0 p1 o9 n18=some r:=mZ ▸ h
  unfold GF at h
  refine LH.seq (LH.aj [(2,.ag (ak.lv p0).cells),(3,.ag (ak.lv p1).cells),(7,.I n18),(88,.bool (decide (n18<(p0.Uses.length:Int))))] [] R (br R (sN (aw dK dS gZ R R R (sN (bh R dS kx (sN (bV (f:=ay.lv) iZ R (sN (fy R R zS))))))))) (LH.cond (t:=(decide (n18<(p0.Uses.length:Int)))) R (fun pJ=>?_) (fun pJ=>?_)))
  ·replace h:=aB h pJ
   refine LH.skip (au (LH.wk (aQ [(2,.ag (ak.lv p0).cells),(3,.ag (ak.lv p1).cells),(7,.I n18)] []) (LH.seq (LH.block ?_))))
   obtain ⟨HF,Dk,h⟩:=ao h
   obtain ⟨xt,AV,h⟩:=ao h
   refine LH.cO mixed [] [0,0,0,0,0,0,0,0,0,0,0] [(2,.ag (ak.lv p0).cells),(3,.ag (ak.lv p1).cells),(7,.I n18),(101,.bool (!(decide (HF=xt))))] [] R R (by kernel_rfl) (aD (aw dK dS gZ R R R ⟨R,aD (bh R dS kx ⟨R,fC R (aD (eM (f:=ay.lv) iZ rN l0 R R ay.ok Dk R ⟨R,aD (bc R rN IJ l0 R R ⟨R,aD (aw dK dS gZ R R R ⟨R,aD (bh R dS kx ⟨R,fC R (aD (eM (f:=ay.lv) iZ rN l0 R R ay.ok AV R ⟨R,aD (bc R rN IJ l0 R R ⟨R,aD (Io R R (RW HF xt) ⟨R,zM⟩)⟩)⟩))⟩)⟩)⟩)⟩))⟩)⟩)) (LH.cond (t:=(!(decide (HF=xt)))) R (fun ko=>?_) (fun ko=>?_))
   ·replace h:=aB h ko
    refine LH.aj [(4,.bool false)] [] R (ct R zS) (LH.ret (bD (aU (dW (bD (aU ?_))))))
    obtain rfl:=oI h
    exact aN (aT Tryz.results23) (bO R (bL ⟨aM mN,R,aX R,Sub.rfl⟩))
   replace h:=aA h ko
   refine LH.skip (aY (au (LH.aS [(2,.ag (ak.lv p0).cells),(3,.ag (ak.lv p1).cells),(7,.I (i64 (n18+1)))] [] R (br R (sN (cI R R (bt R zS)))) ?_)))
   exact bl ⟨(i64 (n18+1)),mZ ▸ h,R,R⟩ (Wk.eq R R R R)
  replace h:=aA h pJ
  refine LH.exit (cD (b6 (bP (au (LH.aj [(4,.bool true)] [] R (ct R zS) (LH.ret ?_))))))
  obtain rfl:=oI h
  exact aN (aT Tryz.results23) (bO R (bL ⟨aM mN,R,aX R,Sub.rfl⟩))
theorem QA {F:Nat} {p0:aG} {p1:aG} {r:Bool} (h:y2 F p0 p1=some r):aO Tryz.prog 12 [.agg [.al 5 (p0.aa.map ak.lv)],.agg [.al 5 (p1.aa.map ak.lv)]] (Mem.of []) (.bool r) (Mem.of []):=by
  unfold y2 at h
  refine bx Tryz.func12 R (nT Tryz.ntmps12 R) (LH.wk (aQ [(0,.agg [.al 5 (p0.aa.map ak.lv)]),(1,.agg [.al 5 (p1.aa.map ak.lv)])] []) (LH.aj [(2,.ag [.al 5 (p0.aa.map ak.lv)]),(3,.ag [.al 5 (p1.aa.map ak.lv)])] [] R (sB (de R R R R (sB (de R R R R (ct R zS))))) (LH.seq (LH.aj [(2,.ag [.al 5 (p0.aa.map ak.lv)]),(3,.ag [.al 5 (p1.aa.map ak.lv)]),(12,.bool ((p0.aa.length:Int) != (p1.aa.length:Int)))] [] R (sN (aw bX bZ dq R R R (sN (bh R bZ e8 (sN (bV (f:=ak.lv) dE R (sN (aw bX bZ dq R R R (sN (bh R bZ e8 (sN (bV (f:=ak.lv) dE R (sN (iR R R zS)))))))))))))) (LH.cond (t:=((p0.aa.length:Int) != (p1.aa.length:Int))) R (fun jc=>?_) (fun jc=>?_))))))
  ·replace h:=aB h jc
   refine LH.aj [(4,.bool false)] [] R (ct R zS) (LH.ret (aU ?_))
   obtain rfl:=oI h
   exact aN (aT Tryz.results12) (bO R (bL ⟨aM mN,R,aX R,Sub.rfl⟩))
  replace h:=aA h jc
  refine LH.skip (au (LH.wk (aQ [(2,.ag [.al 5 (p0.aa.map ak.lv)]),(3,.ag [.al 5 (p1.aa.map ak.lv)])] []) (LH.seq (LH.aj [(2,.ag [.al 5 (p0.aa.map ak.lv)]),(3,.ag [.al 5 (p1.aa.map ak.lv)]),(5,.I 0)] [] R (bt R zS) (LH.block (LH.loop (fun n e m=>∃ (n2:Int),vr F p0 p1 n n2=some r∧e=Env.of [(2,.ag [.al 5 (p0.aa.map ak.lv)]),(3,.ag [.al 5 (p1.aa.map ak.lv)]),(5,.I n2)]∧m=Mem.of []) F ⟨0,h,R,R⟩ ?_))))))
  clear h
  rintro n e m ⟨n2,h,rfl,rfl⟩
  rcases n with _ | n
  · cases (show Option.none=some _ from h)
  obtain ⟨aK,a7⟩:∃ f,f=vr F p0 p1 n:=⟨_,rfl⟩
  replace h:yF F p0 p1 aK n2=some r:=a7 ▸ h
  unfold yF at h
  refine LH.seq (LH.aj [(2,.ag [.al 5 (p0.aa.map ak.lv)]),(3,.ag [.al 5 (p1.aa.map ak.lv)]),(5,.I n2),(17,.bool (decide (n2<(p0.aa.length:Int))))] [] R (br R (sN (aw bX bZ dq R R R (sN (bh R bZ e8 (sN (bV (f:=ak.lv) dE R (sN (fy R R zS))))))))) (LH.cond (t:=(decide (n2<(p0.aa.length:Int)))) R (fun ix=>?_) (fun ix=>?_)))
  ·replace h:=aB h ix
   refine LH.skip (au (LH.wk (aQ [(2,.ag [.al 5 (p0.aa.map ak.lv)]),(3,.ag [.al 5 (p1.aa.map ak.lv)]),(5,.I n2)] []) (LH.seq (LH.block ?_))))
   obtain ⟨x4,AW,h⟩:=ao h
   obtain ⟨x5,mG,h⟩:=ao h
   obtain ⟨r6,Dj,h⟩:=ao h
   refine LH.cO mixed [] [0,0,0,0,0,0,0,0,0,0,0,0] [(2,.ag [.al 5 (p0.aa.map ak.lv)]),(3,.ag [.al 5 (p1.aa.map ak.lv)]),(5,.I n2),(31,.bool (!r6))] [] R R (by kernel_rfl) (aD (aw bX bZ dq R R R ⟨R,aD (bh R bZ e8 ⟨R,fC R (aD (eM (f:=ak.lv) dE cT cz R R ak.ok AW R ⟨R,aD (bc R cT il cz R R ⟨R,aD (aw bX bZ dq R R R ⟨R,aD (bh R bZ e8 ⟨R,fC R (aD (eM (f:=ak.lv) dE cT cz R R ak.ok mG R ⟨R,aD (bc R cT il cz R R ⟨R,aD (ej (args:=[ak.lv x4,ak.lv x5]) R OV R (aI (aI bm)) (P9 Dj) R ⟨R,aD (ic R ⟨R,zM⟩)⟩)⟩)⟩))⟩)⟩)⟩)⟩))⟩)⟩)) (LH.cond (t:=(!r6)) R (fun jd=>?_) (fun jd=>?_))
   ·replace h:=aB h jd
    refine LH.aj [(4,.bool false)] [] R (ct R zS) (LH.ret (bD (aU (dW (bD (aU ?_))))))
    obtain rfl:=oI h
    exact aN (aT Tryz.results12) (bO R (bL ⟨aM mN,R,aX R,Sub.rfl⟩))
   replace h:=aA h jd
   refine LH.skip (aY (au (LH.aS [(2,.ag [.al 5 (p0.aa.map ak.lv)]),(3,.ag [.al 5 (p1.aa.map ak.lv)]),(5,.I (i64 (n2+1)))] [] R (br R (sN (cI R R (bt R zS)))) ?_)))
   exact bl ⟨(i64 (n2+1)),a7 ▸ h,R,R⟩ (Wk.eq R R R R)
  replace h:=aA h ix
  refine LH.exit (cD (b6 (bP (au (LH.aj [(4,.bool true)] [] R (ct R zS) (LH.ret ?_))))))
  obtain rfl:=oI h
  exact aN (aT Tryz.results12) (bO R (bL ⟨aM mN,R,aX R,Sub.rfl⟩))
set_option maxHeartbeats 4000000 in
theorem RR {F:Nat} {p0:aP} {p1:Int} {r:aG × aP} (h:MJ F p0 p1=some r):aO Tryz.prog 15 [.ptr 7 0,.I p1] (Mem.of [(1,.dead),(7,.box [.L p0.L,.I p0.At])]) (.agg [.al 5 (r.1.aa.map ak.lv)]) (Mem.of [(1,.dead),(7,.box [.L r.2.L,.I r.2.At])]):=by
  unfold MJ at h
  refine bx Tryz.func15 R (nT Tryz.ntmps15 R) (LH.wk (aQ [(0,.ptr 7 0),(1,.I p1)] [(1,.dead),(7,.box [.L p0.L,.I p0.At])]) (LH.aj [(0,.ptr 7 0),(1,.I p1),(4,.ptr 104 0)] [(1,.dead),(7,.box [.L p0.L,.I p0.At]),(104,.box [.nil])] R (sN (j0 (id:=104) R dH R R zS)) ?_))
  obtain ⟨r1,ei,h⟩:=ao h
  obtain ⟨r2,fH,h⟩:=ao h
  refine LH.aj [(0,.ptr 7 0),(1,.I p1),(4,.ptr 104 0),(5,.ptr 105 0)] [(1,.dead),(7,.box [.L r1.2.L,.I r1.2.At]),(104,.box [.nil]),(105,.box [.aJ true 49 5 (List.map (ak.lt true) r2.1.aa)])] R (ig R (sN (dX (args:=[.ptr 7 0,.I 14,.I 0]) (ml:=[(7,.box [.L p0.L,.I p0.At])]) (cQ:=[(7,.box [.L r1.2.L,.I r1.2.At])]) R Pr R (aI (aI (aI bm))) (Nb ei) (mC R mN) (bT R bU) R (sN (ej (args:=[.al 12 (r1.1.map ax.lv),.I 1000000]) R OR R (aI (aI bm)) (Qv (T:=true) fH) R (wU R (sN (fV R R (sN (fV R R (sN (fV R R (sN (j0 (id:=105) R dH R R (s_ (cF R R R bd bf R R R (qB R (bt R zS)))))))))))))))))) (LH.seq ?_)
  obtain ⟨w6,hv,h⟩:=ao h
  refine LH.aj [(0,.ptr 7 0),(4,.ptr 104 0),(5,.ptr 105 0),(29,.bool w6.1)] [(1,.dead),(7,.box [.L w6.2.1,.I w6.2.2]),(104,.box [.nil]),(105,.box [.aJ true 49 5 (List.map (ak.lt true) r2.1.aa)])] R ?_ ?_
  ·refine br R (sN (jx R R (bM R ?_)))
   by_cases ca:(decide (p1 > 0))=true
   ·replace hv:=aB hv ca
    refine sT R (cB ca) (oM (v:=(.ptr _ _)) R (sT R (cB ca) (oM (v:=(.int _ _)) R ?_)))
    obtain ⟨r8,Lt,hv⟩:=ao hv
    refine sT R (cB ca) (dX (args:=[.ptr 7 0,.I p1]) (ml:=[(7,.box [.L r1.2.L,.I r1.2.At])]) (cQ:=[(7,.box [.L r8.2.L,.I r8.2.At])]) R tg R (aI (aI bm)) (Ah Lt) (mC R mN) (bT R bU) R (sN (aZ (cB ca) (v:=(.bool _)) R (bM R ?_))))
    by_cases cW:r8.1=true
    ·replace hv:=aB hv cW
     refine sT R (cB cW) (dI bX bZ dq R R (sT R (cB cW) (dQ R R R R bZ e8 (Mx R (cB cW) ((tu (f:=(ak.lt true)) dE R).ok) (sT R (cB cW) (jx R R (sN (aZ (cB cW) (v:=(.bool _)) R ?_))))))))
     obtain rfl:=oI hv
     exact zS
    ·replace cW:=bF cW
     replace hv:=aA hv cW
     refine sF R R cW (sF R R cW (sF R R cW (sF R R cW (sN (aW (cB cW) (v:=(.bool _)) R ?_)))))
     obtain rfl:=oI hv
     exact zS
   ·replace ca:=bF ca
    replace hv:=aA hv ca
    refine sF R R ca (sF R R ca (sF R R ca (sN (aW (cB ca) (v:=(.bool _)) R (bM R (sF R R R (sF R R R (sF R R R (sF R R R (sN (aW R (v:=(.bool _)) R ?_)))))))))))
    obtain rfl:=oI hv
    exact zS
  clear hv
  refine LH.cond (t:=w6.1) R (fun ib=>?_) (fun ib=>?_)
  ·replace h:=aB h ib
   obtain ⟨bg,xZ,h⟩:=ao h
   refine LH.aj [(0,.ptr 7 0),(4,.ptr 104 0),(5,.ptr 105 0),(8,.ptr 108 0)] [(1,.dead),(7,.box [.L w6.2.1,.I w6.2.2]),(104,.box [.nil]),(105,.box [.aJ true 49 5 (List.map (ak.lt true) r2.1.aa)]),(108,.box [.I bg.ID,.al 5 (bg.ab.map ai.lv),.aJ true 4 1 (bg.ah.map LV.bool),.aJ true 88 3 (bg.Uses.map ay.lv),.bool bg.ae])] R ?_ ?_
   ·refine sN (dI bX bZ dq R R (sN (dQ R R R R bZ e8 (sX ((iT (f:=(ak.lt true)) dE cT cz R R ak.Cj xZ R).ok) (sX ((nN R cT il cz R R).ok) ?_)))))
    exact sN (j0 (id:=108) R qH R R (s_ (cF R R R cT cz R R R zS)))
   refine LH.seq ?_
   obtain ⟨dD,Ft,h⟩:=ao h
   refine LH.aj [(0,.ptr 7 0),(4,.ptr 104 0),(5,.ptr 105 0),(8,.ptr 108 0),(35,.I dD.1)] [(1,.dead),(7,.box [.L dD.2.L,.I dD.2.At]),(104,.box [.nil]),(105,.box [.aJ true 49 5 (List.map (ak.lt true) r2.1.aa)]),(108,.box [.I bg.ID,.al 5 (bg.ab.map ai.lv),.aJ true 4 1 (bg.ah.map LV.bool),.aJ true 88 3 (bg.Uses.map ay.lv),.bool bg.ae])] R (ig R (sN (dX (args:=[.ptr 7 0,.I 4]) (ml:=[(7,.box [.L w6.2.1,.I w6.2.2])]) (cQ:=[(7,.box [.L dD.2.L,.I dD.2.At])]) R gJ R (aI (aI bm)) (kT Ft) (mC R mN) (bT R bU) R zS))) (LH.block (LH.aj [(0,.ptr 7 0),(4,.ptr 104 0),(5,.ptr 105 0),(8,.ptr 108 0),(35,.I dD.1),(42,.bool (dD.1 == 0))] [(1,.dead),(7,.box [.L dD.2.L,.I dD.2.At]),(104,.box [.nil]),(105,.box [.aJ true 49 5 (List.map (ak.lt true) r2.1.aa)]),(108,.box [.I bg.ID,.al 5 (bg.ab.map ai.lv),.aJ true 4 1 (bg.ah.map LV.bool),.aJ true 88 3 (bg.Uses.map ay.lv),.bool bg.ae])] R (sN (gr R R (ct R zS))) (LH.cond (t:=(dD.1 == 0)) R (fun oP=>?_) (fun oP=>?_))))
   ·replace h:=aB h oP
    obtain ⟨kR,AS,h⟩:=ao h
    refine LH.aS [(4,.ptr 104 0),(5,.ptr 105 0),(8,.ag [.I bg.ID,.al 5 (bg.ab.map ai.lv),.al 1 (kR.map LV.bool),.al 3 (bg.Uses.map ay.lv),.bool bg.ae])] [(1,.dead),(7,.box [.L dD.2.L,.I dD.2.At]),(104,.box [.nil]),(105,.box [.al 5 (r2.1.aa.map ak.lv)])] R (sN (dI dJ dZ gN R R (sN (dQ R R R R dZ lM (sN (ka (f:=LV.bool) (ys:=[true]) jy HD lP R R R okB (cH.wk (aQ [(4,.ptr 104 0),(5,.ptr 105 0),(8,.ptr 108 0),(45,.aJ true 4 1 (bg.ah.map LV.bool)),(46,.al 1 (List.map LV.bool [true]))] [(1,.dead),(7,.box [.L dD.2.L,.I dD.2.At]),(104,.box [.nil]),(105,.box [.aJ true 49 5 (List.map (ak.lt true) r2.1.aa)]),(108,.box [.I bg.ID,.al 5 (bg.ab.map ai.lv),.aJ true 4 1 (bg.ah.map LV.bool),.aJ true 88 3 (bg.Uses.map ay.lv),.bool bg.ae])]) (Bt (f:=LV.bool) (g:=LV.bool) (es:=[(4,.ptr 104 0),(5,.ptr 105 0),(8,.ptr 108 0),(45,.aJ true 4 1 (bg.ah.map LV.bool)),(46,.al 1 (List.map LV.bool [true]))]) (ml:=[(1,.dead),(7,.box [.L dD.2.L,.I dD.2.At]),(104,.box [.nil]),(105,.box [.aJ true 49 5 (List.map (ak.lt true) r2.1.aa)]),(108,.box [.I bg.ID,.al 5 (bg.ab.map ai.lv),.aJ true 4 1 (bg.ah.map LV.bool),.aJ true 88 3 (bg.Uses.map ay.lv),.bool bg.ae])]) (jF:=[(4,.ptr 104 0),(5,.ptr 105 0),(8,.ptr 108 0),(45,.al 1 (bg.ah.map LV.bool)),(46,.al 1 (List.map LV.bool [true]))]) (cQ:=[(1,.dead),(7,.box [.L dD.2.L,.I dD.2.At]),(104,.box [.nil]),(105,.box [.al 5 (r2.1.aa.map ak.lv)]),(108,.box (ak.lv bg).cells)]) PY jy HD lP R R AS (fun _=>Rel.bool) (fun _=>R) (wP (Rel.ptr R) (wP (Rel.ptr R) (wP (Rel.ptr R) (wP (Rel.aJ (fun _=>Rel.bool) (fun _=>R)) (wP (Rel.al (fun _=>Rel.bool) (fun _=>R)) QL))))) (uu im.dead (uu (im.box (eY (Rel.al (fun _=>Rel.int) (fun _=>R)) (eY Rel.int lX))) (uu (im.box (eY Rel.nil lX)) (uu (im.box (eY (Rel.aJ ak.p5 (fun _=>R)) lX)) (uu (im.box (eY Rel.int (eY (Rel.al ai.rel (fun _=>R)) (eY (Rel.aJ (fun _=>Rel.bool) (fun _=>R)) (eY (Rel.aJ ay.rel (fun _=>R)) (eY Rel.bool lX)))))) Mu))))) (sN (dI dJ dZ gN R R (s_ (cF R R R dZ gN R R R (s0 ((Wk.trans (aQ [(4,.ptr 104 0),(5,.ptr 105 0),(8,.ptr 108 0)] [(1,.dead),(7,.box [.L dD.2.L,.I dD.2.At]),(104,.box [.nil]),(105,.box [.al 5 (r2.1.aa.map ak.lv)]),(108,.box [.I bg.ID,.al 5 (bg.ab.map ai.lv),.al 1 (kR.map LV.bool),.al 3 (bg.Uses.map ay.lv),.bool bg.ae])]) (Wk.trans (Wk.bk 108 [.I bg.ID,.al 5 (bg.ab.map ai.lv),.al 1 (kR.map LV.bool),.al 3 (bg.Uses.map ay.lv),.bool bg.ae] R R R (bH R)) (Wk.eq R R R R))))))))))))))))) (aY (au (LH.aj [(4,.ptr 104 0),(5,.ptr 105 0),(8,.ag [.I bg.ID,.al 5 (bg.ab.map ai.lv),.al 1 (kR.map LV.bool),.al 3 (bg.Uses.map ay.lv),.bool bg.ae]),(9,.nil)] [(1,.dead),(7,.box [.L dD.2.L,.I dD.2.At]),(104,.box [.nil]),(105,.box [.al 5 (r2.1.aa.map ak.lv)])] R (k9 R zS) ?_)))
    obtain ⟨Ad,Ti,h⟩:=ao h
    refine LH.aj [(4,.ptr 104 0),(5,.ptr 105 0),(8,.ag [.I bg.ID,.al 5 (bg.ab.map ai.lv),.al 1 (kR.map LV.bool),.al 3 (bg.Uses.map ay.lv),.bool bg.ae]),(9,.arr 167 Ad.length)] [(1,.dead),(7,.box [.L dD.2.L,.I dD.2.At]),(104,.box [.nil]),(105,.box [.al 5 (r2.1.aa.map ak.lv)]),(167,.arr 49 5 (Ad.map ak.lv))] R (IG R (sN (dI bX bZ dq R R (sN (dQ R R R R bZ e8 (sN (Dq (f:=ak.lv) (id:=167) R dE p9 cz R R Ti R (nQ R zS)))))))) ?_
    obtain ⟨CE,wx,h⟩:=ao h
    refine LH.aj [(4,.ptr 104 0),(5,.ptr 105 0),(9,.al 5 (List.map ak.lv (Ad.set ((0:Int).toNat) (ak.mk bg.ID bg.ab kR bg.Uses bg.ae))))] [(1,.dead),(7,.box [.L dD.2.L,.I dD.2.At]),(104,.box [.nil]),(105,.box [.al 5 (r2.1.aa.map ak.lv)])] R (jQ R (sN (bc R cT il cz R R (sN (gV (f:=ak.lv) dE cT cz R R R wx (s_ (qx (f:=ak.lv) (z':=(ak.mk bg.ID bg.ab kR bg.Uses bg.ae)) R R R R cT cz R (dB wx).2 R (s0 ((Wk.trans (Wk.to (el:=[(4,.ptr 104 0),(5,.ptr 105 0),(9,.arr 167 (List.length (Ad.set ((0:Int).toNat) (ak.mk bg.ID bg.ab kR bg.Uses bg.ae))))]) (ml:=[(1,.dead),(7,.box [.L dD.2.L,.I dD.2.At]),(104,.box [.nil]),(105,.box [.al 5 (r2.1.aa.map ak.lv)]),(167,.arr 49 5 (List.map ak.lv (Ad.set ((0:Int).toNat) (ak.mk bg.ID bg.ab kR bg.Uses bg.ae))))]) (eC R (eC R (eC (congrArg (LV.arr 167) (by simp)) eN))) ⟨R,R,R,R,R,trivial⟩ R (aX R)) (Wk.trans (Wk.lC (f:=ak.lv) (fB:=[(4,.ptr 104 0),(5,.ptr 105 0),(9,.al 5 (List.map ak.lv (Ad.set ((0:Int).toNat) (ak.mk bg.ID bg.ab kR bg.Uses bg.ae))))]) 167 49 5 (Ad.set ((0:Int).toNat) (ak.mk bg.ID bg.ab kR bg.Uses bg.ae)) R R (bH R) (fK R (fK R (fZ fN)))) (Wk.eq R R R R)))))))))))) (LH.aS [(4,.ptr 104 0),(5,.ag [.al 5 (List.map ak.lv (Ad.set ((0:Int).toNat) (ak.mk bg.ID bg.ab kR bg.Uses bg.ae)))])] [(1,.dead),(7,.box [.L dD.2.L,.I dD.2.At]),(104,.box [.nil])] R (fh R (sN (dI bX bZ dq R R (s_ (cF R R R bZ dq R R R (s0 ((Wk.trans (aQ [(4,.ptr 104 0),(5,.ptr 105 0)] [(1,.dead),(7,.box [.L dD.2.L,.I dD.2.At]),(104,.box [.nil]),(105,.box [.al 5 (List.map ak.lv (Ad.set ((0:Int).toNat) (ak.mk bg.ID bg.ab kR bg.Uses bg.ae)))])]) (Wk.trans (Wk.bk 105 [.al 5 (List.map ak.lv (Ad.set ((0:Int).toNat) (ak.mk bg.ID bg.ab kR bg.Uses bg.ae)))] R R R (bH R)) (Wk.eq R R R R)))))))))) (au (LH.aj [(4,.ag [.al 5 (List.map ak.lv (Ad.set ((0:Int).toNat) (ak.mk bg.ID bg.ab kR bg.Uses bg.ae)))])] [(1,.dead),(7,.box [.L dD.2.L,.I dD.2.At])] R (sN (bc R bd bW bf R R (s_ (cF R R R bd bf R R R (s0 ((Wk.trans (aQ [(4,.ptr 104 0)] [(1,.dead),(7,.box [.L dD.2.L,.I dD.2.At]),(104,.box [.al 5 (List.map ak.lv (Ad.set ((0:Int).toNat) (ak.mk bg.ID bg.ab kR bg.Uses bg.ae)))])]) (Wk.trans (Wk.bk 104 [.al 5 (List.map ak.lv (Ad.set ((0:Int).toNat) (ak.mk bg.ID bg.ab kR bg.Uses bg.ae)))] R R R (bH R)) (Wk.eq R R R R))))))))) (LH.ret ?_))))
    obtain rfl:=oI h
    exact aN (aT Tryz.results15) (cN R bd bW bf R R (bL ⟨aM (mC R (mC R mN)),R,aX R,Sub.rfl⟩))
   replace h:=aA h oP
   refine LH.aj [(0,.ptr 7 0),(4,.ptr 104 0),(5,.ptr 105 0),(8,.ptr 108 0),(35,.I dD.1),(49,.bool (dD.1 == 1))] [(1,.dead),(7,.box [.L dD.2.L,.I dD.2.At]),(104,.box [.nil]),(105,.box [.aJ true 49 5 (List.map (ak.lt true) r2.1.aa)]),(108,.box [.I bg.ID,.al 5 (bg.ab.map ai.lv),.aJ true 4 1 (bg.ah.map LV.bool),.aJ true 88 3 (bg.Uses.map ay.lv),.bool bg.ae])] R (sN (gr R R (ct R zS))) (LH.cond (t:=(dD.1 == 1)) R (fun kl=>?_) (fun kl=>?_))
   ·replace h:=aB h kl
    obtain ⟨j5,SP,h⟩:=ao h
    refine LH.aS [(4,.ptr 104 0),(5,.ptr 105 0),(8,.ag [.I j5.1,.al 5 (bg.ab.map ai.lv),.aJ true 4 1 (bg.ah.map LV.bool),.aJ true 88 3 (bg.Uses.map ay.lv),.bool bg.ae])] [(1,.dead),(7,.box [.L j5.2.L,.I j5.2.At]),(104,.box [.nil]),(105,.box [.aJ true 49 5 (List.map (ak.lt true) r2.1.aa)])] R (ig R (sN (dX (args:=[.ptr 7 0,.I 5]) (ml:=[(7,.box [.L dD.2.L,.I dD.2.At])]) (cQ:=[(7,.box [.L j5.2.L,.I j5.2.At])]) R gJ R (aI (aI bm)) (kT SP) (mC R mN) (bT R bU) R (sN (dI fO aE bb R R (s_ (cF R R R aE bb R R R (s0 ((Wk.trans (aQ [(4,.ptr 104 0),(5,.ptr 105 0),(8,.ptr 108 0)] [(1,.dead),(7,.box [.L j5.2.L,.I j5.2.At]),(104,.box [.nil]),(105,.box [.aJ true 49 5 (List.map (ak.lt true) r2.1.aa)]),(108,.box [.I j5.1,.al 5 (bg.ab.map ai.lv),.aJ true 4 1 (bg.ah.map LV.bool),.aJ true 88 3 (bg.Uses.map ay.lv),.bool bg.ae])]) (Wk.trans (Wk.bk 108 [.I j5.1,.al 5 (bg.ab.map ai.lv),.aJ true 4 1 (bg.ah.map LV.bool),.aJ true 88 3 (bg.Uses.map ay.lv),.bool bg.ae] R R R (bH R)) (Wk.eq R R R R)))))))))))) (aY (au (LH.wk (Wk.loose (el:=[(4,.ptr 104 0),(5,.ptr 105 0),(8,.ag [.I j5.1,.al 5 (bg.ab.map ai.lv),.aJ true 4 1 (bg.ah.map LV.bool),.aJ true 88 3 (bg.Uses.map ay.lv),.bool bg.ae])]) (ml:=[(1,.dead),(7,.box [.L j5.2.L,.I j5.2.At]),(104,.box [.nil]),(105,.box [.aJ true 49 5 (List.map (ak.lt true) r2.1.aa)])]) (fB:=[(4,.ptr 104 0),(5,.ptr 105 0),(8,.ag [.I j5.1,.al 5 (bg.ab.map ai.lv),.al 1 (bg.ah.map LV.bool),.al 3 (bg.Uses.map ay.lv),.bool bg.ae])]) (cQ:=[(1,.dead),(7,.box [.L j5.2.L,.I j5.2.At]),(104,.box [.nil]),(105,.box [.al 5 (r2.1.aa.map ak.lv)])]) PY (wP (Rel.ptr R) (wP (Rel.ptr R) (wP (Rel.ag (eY Rel.int (eY (Rel.al ai.rel (fun _=>R)) (eY (Rel.aJ (fun _=>Rel.bool) (fun _=>R)) (eY (Rel.aJ ay.rel (fun _=>R)) (eY Rel.bool lX)))))) QL))) (uu im.dead (uu (im.box (eY (Rel.al (fun _=>Rel.int) (fun _=>R)) (eY Rel.int lX))) (uu (im.box (eY Rel.nil lX)) (uu (im.box (eY (Rel.aJ ak.p5 (fun _=>R)) lX)) Mu))))) (LH.aj [(4,.ptr 104 0),(5,.ptr 105 0),(8,.ag [.I j5.1,.al 5 (bg.ab.map ai.lv),.al 1 (bg.ah.map LV.bool),.al 3 (bg.Uses.map ay.lv),.bool bg.ae]),(9,.nil)] [(1,.dead),(7,.box [.L j5.2.L,.I j5.2.At]),(104,.box [.nil]),(105,.box [.al 5 (r2.1.aa.map ak.lv)])] R (k9 R zS) ?_))))
    obtain ⟨rm,FI,h⟩:=ao h
    refine LH.aj [(4,.ptr 104 0),(5,.ptr 105 0),(8,.ag [.I j5.1,.al 5 (bg.ab.map ai.lv),.al 1 (bg.ah.map LV.bool),.al 3 (bg.Uses.map ay.lv),.bool bg.ae]),(9,.arr 167 rm.length)] [(1,.dead),(7,.box [.L j5.2.L,.I j5.2.At]),(104,.box [.nil]),(105,.box [.al 5 (r2.1.aa.map ak.lv)]),(167,.arr 49 5 (rm.map ak.lv))] R (IG R (sN (dI bX bZ dq R R (sN (dQ R R R R bZ e8 (sN (Dq (f:=ak.lv) (id:=167) R dE p9 cz R R FI R (nQ R zS)))))))) ?_
    obtain ⟨HF,Dk,h⟩:=ao h
    refine LH.aj [(4,.ptr 104 0),(5,.ptr 105 0),(9,.al 5 (List.map ak.lv (rm.set ((0:Int).toNat) (ak.mk j5.1 bg.ab bg.ah bg.Uses bg.ae))))] [(1,.dead),(7,.box [.L j5.2.L,.I j5.2.At]),(104,.box [.nil]),(105,.box [.al 5 (r2.1.aa.map ak.lv)])] R (jQ R (sN (bc R cT il cz R R (sN (gV (f:=ak.lv) dE cT cz R R R Dk (s_ (qx (f:=ak.lv) (z':=(ak.mk j5.1 bg.ab bg.ah bg.Uses bg.ae)) R R R R cT cz R (dB Dk).2 R (s0 ((Wk.trans (Wk.to (el:=[(4,.ptr 104 0),(5,.ptr 105 0),(9,.arr 167 (List.length (rm.set ((0:Int).toNat) (ak.mk j5.1 bg.ab bg.ah bg.Uses bg.ae))))]) (ml:=[(1,.dead),(7,.box [.L j5.2.L,.I j5.2.At]),(104,.box [.nil]),(105,.box [.al 5 (r2.1.aa.map ak.lv)]),(167,.arr 49 5 (List.map ak.lv (rm.set ((0:Int).toNat) (ak.mk j5.1 bg.ab bg.ah bg.Uses bg.ae))))]) (eC R (eC R (eC (congrArg (LV.arr 167) (by simp)) eN))) ⟨R,R,R,R,R,trivial⟩ R (aX R)) (Wk.trans (Wk.lC (f:=ak.lv) (fB:=[(4,.ptr 104 0),(5,.ptr 105 0),(9,.al 5 (List.map ak.lv (rm.set ((0:Int).toNat) (ak.mk j5.1 bg.ab bg.ah bg.Uses bg.ae))))]) 167 49 5 (rm.set ((0:Int).toNat) (ak.mk j5.1 bg.ab bg.ah bg.Uses bg.ae)) R R (bH R) (fK R (fK R (fZ fN)))) (Wk.eq R R R R)))))))))))) (LH.aS [(4,.ptr 104 0),(5,.ag [.al 5 (List.map ak.lv (rm.set ((0:Int).toNat) (ak.mk j5.1 bg.ab bg.ah bg.Uses bg.ae)))])] [(1,.dead),(7,.box [.L j5.2.L,.I j5.2.At]),(104,.box [.nil])] R (fh R (sN (dI bX bZ dq R R (s_ (cF R R R bZ dq R R R (s0 ((Wk.trans (aQ [(4,.ptr 104 0),(5,.ptr 105 0)] [(1,.dead),(7,.box [.L j5.2.L,.I j5.2.At]),(104,.box [.nil]),(105,.box [.al 5 (List.map ak.lv (rm.set ((0:Int).toNat) (ak.mk j5.1 bg.ab bg.ah bg.Uses bg.ae)))])]) (Wk.trans (Wk.bk 105 [.al 5 (List.map ak.lv (rm.set ((0:Int).toNat) (ak.mk j5.1 bg.ab bg.ah bg.Uses bg.ae)))] R R R (bH R)) (Wk.eq R R R R)))))))))) (au (LH.aj [(4,.ag [.al 5 (List.map ak.lv (rm.set ((0:Int).toNat) (ak.mk j5.1 bg.ab bg.ah bg.Uses bg.ae)))])] [(1,.dead),(7,.box [.L j5.2.L,.I j5.2.At])] R (sN (bc R bd bW bf R R (s_ (cF R R R bd bf R R R (s0 ((Wk.trans (aQ [(4,.ptr 104 0)] [(1,.dead),(7,.box [.L j5.2.L,.I j5.2.At]),(104,.box [.al 5 (List.map ak.lv (rm.set ((0:Int).toNat) (ak.mk j5.1 bg.ab bg.ah bg.Uses bg.ae)))])]) (Wk.trans (Wk.bk 104 [.al 5 (List.map ak.lv (rm.set ((0:Int).toNat) (ak.mk j5.1 bg.ab bg.ah bg.Uses bg.ae)))] R R R (bH R)) (Wk.eq R R R R))))))))) (LH.ret ?_))))
    obtain rfl:=oI h
    exact aN (aT Tryz.results15) (cN R bd bW bf R R (bL ⟨aM (mC R (mC R mN)),R,aX R,Sub.rfl⟩))
   replace h:=aA h kl
   refine LH.aj [(0,.ptr 7 0),(4,.ptr 104 0),(5,.ptr 105 0),(8,.ptr 108 0),(54,.bool (dD.1 == 2))] [(1,.dead),(7,.box [.L dD.2.L,.I dD.2.At]),(104,.box [.nil]),(105,.box [.aJ true 49 5 (List.map (ak.lt true) r2.1.aa)]),(108,.box [.I bg.ID,.al 5 (bg.ab.map ai.lv),.aJ true 4 1 (bg.ah.map LV.bool),.aJ true 88 3 (bg.Uses.map ay.lv),.bool bg.ae])] R (sN (gr R R (ct R zS))) (LH.cond (t:=(dD.1 == 2)) R (fun oQ=>?_) (fun oQ=>?_))
   ·replace h:=aB h oQ
    obtain ⟨j6,Fv,h⟩:=ao h
    obtain ⟨v23,AT,h⟩:=ao h
    refine LH.PK (n:=6) mixed [] [0,1108,0,100007,0,0] [(4,.ptr 104 0),(5,.ptr 105 0),(8,.ptr 108 0),(57,.aJ true 88 3 (bg.Uses.map ay.lv)),(61,.al 3 (List.map ay.lv [(ay.mk j6.1 0 0)]))] [(1,.dead),(7,.box [.L j6.2.L,.I j6.2.At]),(104,.box [.nil]),(105,.box [.aJ true 49 5 (List.map (ak.lt true) r2.1.aa)]),(108,.box [.I bg.ID,.al 5 (bg.ab.map ai.lv),.aJ true 4 1 (bg.ah.map LV.bool),.aJ true 88 3 (bg.Uses.map ay.lv),.bool bg.ae])] [(4,.ptr 104 0),(5,.ptr 105 0),(8,.ag [.I bg.ID,.al 5 (bg.ab.map ai.lv),.al 1 (bg.ah.map LV.bool),.al 3 (v23.map ay.lv),.bool bg.ae])] [(1,.dead),(7,.box [.L j6.2.L,.I j6.2.At]),(104,.box [.nil]),(105,.box [.al 5 (r2.1.aa.map ak.lv)])] R (Nat.le_of_ble_eq_true R) R (by kernel_rfl) ?_ ?_ ?_
    ·exact aD (dI dK dS gZ R R ⟨R,mD R R R (fun _ b _ d=>dQ R b R R dS kx d) (Cd R (mW R R R (fun _ b _ d=>dX (args:=[.ptr 7 0,.I 0,.I 9]) (ml:=[(7,.box [.L dD.2.L,.I dD.2.At])]) (cQ:=[(7,.box [.L j6.2.L,.I j6.2.At])]) R oc R (aI (aI (aI bm))) (nX Fv) (mC b mN) (bT R bU) R d) (aD (fU (vs:=[(0,.I j6.1)]) MD IN R (lf pg bb aE R R R fT) ⟨R,aD (ka (f:=ay.lv) (ys:=[(ay.mk j6.1 0 0)]) iZ BF l0 R R R ay.ok ⟨R,zM⟩)⟩))))⟩)
    ·exact cH.wk (aQ [(4,.ptr 104 0),(5,.ptr 105 0),(8,.ptr 108 0),(57,.aJ true 88 3 (bg.Uses.map ay.lv)),(61,.al 3 (List.map ay.lv [(ay.mk j6.1 0 0)]))] [(1,.dead),(7,.box [.L j6.2.L,.I j6.2.At]),(104,.box [.nil]),(105,.box [.aJ true 49 5 (List.map (ak.lt true) r2.1.aa)]),(108,.box [.I bg.ID,.al 5 (bg.ab.map ai.lv),.aJ true 4 1 (bg.ah.map LV.bool),.aJ true 88 3 (bg.Uses.map ay.lv),.bool bg.ae])]) (Bt (f:=ay.lv) (g:=ay.lv) (es:=[(4,.ptr 104 0),(5,.ptr 105 0),(8,.ptr 108 0),(57,.aJ true 88 3 (bg.Uses.map ay.lv)),(61,.al 3 (List.map ay.lv [(ay.mk j6.1 0 0)]))]) (ml:=[(1,.dead),(7,.box [.L j6.2.L,.I j6.2.At]),(104,.box [.nil]),(105,.box [.aJ true 49 5 (List.map (ak.lt true) r2.1.aa)]),(108,.box [.I bg.ID,.al 5 (bg.ab.map ai.lv),.aJ true 4 1 (bg.ah.map LV.bool),.aJ true 88 3 (bg.Uses.map ay.lv),.bool bg.ae])]) (jF:=[(4,.ptr 104 0),(5,.ptr 105 0),(8,.ptr 108 0),(57,.al 3 (bg.Uses.map ay.lv)),(61,.al 3 (List.map ay.lv [(ay.mk j6.1 0 0)]))]) (cQ:=[(1,.dead),(7,.box [.L j6.2.L,.I j6.2.At]),(104,.box [.nil]),(105,.box [.al 5 (r2.1.aa.map ak.lv)]),(108,.box (ak.lv bg).cells)]) PY iZ BF l0 R R AT ay.rel (fun _=>R) (wP (Rel.ptr R) (wP (Rel.ptr R) (wP (Rel.ptr R) (wP (Rel.aJ ay.rel (fun _=>R)) (wP (Rel.al ay.rel (fun _=>R)) QL))))) (uu im.dead (uu (im.box (eY (Rel.al (fun _=>Rel.int) (fun _=>R)) (eY Rel.int lX))) (uu (im.box (eY Rel.nil lX)) (uu (im.box (eY (Rel.aJ ak.p5 (fun _=>R)) lX)) (uu (im.box (eY Rel.int (eY (Rel.al ai.rel (fun _=>R)) (eY (Rel.aJ (fun _=>Rel.bool) (fun _=>R)) (eY (Rel.aJ ay.rel (fun _=>R)) (eY Rel.bool lX)))))) Mu))))) (sN (dI dK dS gZ R R (s_ (cF R R R dS gZ R R R (s0 ((Wk.trans (aQ [(4,.ptr 104 0),(5,.ptr 105 0),(8,.ptr 108 0)] [(1,.dead),(7,.box [.L j6.2.L,.I j6.2.At]),(104,.box [.nil]),(105,.box [.al 5 (r2.1.aa.map ak.lv)]),(108,.box [.I bg.ID,.al 5 (bg.ab.map ai.lv),.al 1 (bg.ah.map LV.bool),.al 3 (v23.map ay.lv),.bool bg.ae])]) (Wk.trans (Wk.bk 108 [.I bg.ID,.al 5 (bg.ab.map ai.lv),.al 1 (bg.ah.map LV.bool),.al 3 (v23.map ay.lv),.bool bg.ae] R R R (bH R)) (Wk.eq R R R R))))))))))
    refine aY (au (LH.aj [(4,.ptr 104 0),(5,.ptr 105 0),(8,.ag [.I bg.ID,.al 5 (bg.ab.map ai.lv),.al 1 (bg.ah.map LV.bool),.al 3 (v23.map ay.lv),.bool bg.ae]),(9,.nil)] [(1,.dead),(7,.box [.L j6.2.L,.I j6.2.At]),(104,.box [.nil]),(105,.box [.al 5 (r2.1.aa.map ak.lv)])] R (k9 R zS) ?_))
    obtain ⟨v24,Tm,h⟩:=ao h
    refine LH.aj [(4,.ptr 104 0),(5,.ptr 105 0),(8,.ag [.I bg.ID,.al 5 (bg.ab.map ai.lv),.al 1 (bg.ah.map LV.bool),.al 3 (v23.map ay.lv),.bool bg.ae]),(9,.arr 167 v24.length)] [(1,.dead),(7,.box [.L j6.2.L,.I j6.2.At]),(104,.box [.nil]),(105,.box [.al 5 (r2.1.aa.map ak.lv)]),(167,.arr 49 5 (v24.map ak.lv))] R (IG R (sN (dI bX bZ dq R R (sN (dQ R R R R bZ e8 (sN (Dq (f:=ak.lv) (id:=167) R dE p9 cz R R Tm R (nQ R zS)))))))) ?_
    obtain ⟨M9,H9,h⟩:=ao h
    refine LH.aj [(4,.ptr 104 0),(5,.ptr 105 0),(9,.al 5 (List.map ak.lv (v24.set ((0:Int).toNat) (ak.mk bg.ID bg.ab bg.ah v23 bg.ae))))] [(1,.dead),(7,.box [.L j6.2.L,.I j6.2.At]),(104,.box [.nil]),(105,.box [.al 5 (r2.1.aa.map ak.lv)])] R (jQ R (sN (bc R cT il cz R R (sN (gV (f:=ak.lv) dE cT cz R R R H9 (s_ (qx (f:=ak.lv) (z':=(ak.mk bg.ID bg.ab bg.ah v23 bg.ae)) R R R R cT cz R (dB H9).2 R (s0 ((Wk.trans (Wk.to (el:=[(4,.ptr 104 0),(5,.ptr 105 0),(9,.arr 167 (List.length (v24.set ((0:Int).toNat) (ak.mk bg.ID bg.ab bg.ah v23 bg.ae))))]) (ml:=[(1,.dead),(7,.box [.L j6.2.L,.I j6.2.At]),(104,.box [.nil]),(105,.box [.al 5 (r2.1.aa.map ak.lv)]),(167,.arr 49 5 (List.map ak.lv (v24.set ((0:Int).toNat) (ak.mk bg.ID bg.ab bg.ah v23 bg.ae))))]) (eC R (eC R (eC (congrArg (LV.arr 167) (by simp)) eN))) ⟨R,R,R,R,R,trivial⟩ R (aX R)) (Wk.trans (Wk.lC (f:=ak.lv) (fB:=[(4,.ptr 104 0),(5,.ptr 105 0),(9,.al 5 (List.map ak.lv (v24.set ((0:Int).toNat) (ak.mk bg.ID bg.ab bg.ah v23 bg.ae))))]) 167 49 5 (v24.set ((0:Int).toNat) (ak.mk bg.ID bg.ab bg.ah v23 bg.ae)) R R (bH R) (fK R (fK R (fZ fN)))) (Wk.eq R R R R)))))))))))) (LH.aS [(4,.ptr 104 0),(5,.ag [.al 5 (List.map ak.lv (v24.set ((0:Int).toNat) (ak.mk bg.ID bg.ab bg.ah v23 bg.ae)))])] [(1,.dead),(7,.box [.L j6.2.L,.I j6.2.At]),(104,.box [.nil])] R (fh R (sN (dI bX bZ dq R R (s_ (cF R R R bZ dq R R R (s0 ((Wk.trans (aQ [(4,.ptr 104 0),(5,.ptr 105 0)] [(1,.dead),(7,.box [.L j6.2.L,.I j6.2.At]),(104,.box [.nil]),(105,.box [.al 5 (List.map ak.lv (v24.set ((0:Int).toNat) (ak.mk bg.ID bg.ab bg.ah v23 bg.ae)))])]) (Wk.trans (Wk.bk 105 [.al 5 (List.map ak.lv (v24.set ((0:Int).toNat) (ak.mk bg.ID bg.ab bg.ah v23 bg.ae)))] R R R (bH R)) (Wk.eq R R R R)))))))))) (au (LH.aj [(4,.ag [.al 5 (List.map ak.lv (v24.set ((0:Int).toNat) (ak.mk bg.ID bg.ab bg.ah v23 bg.ae)))])] [(1,.dead),(7,.box [.L j6.2.L,.I j6.2.At])] R (sN (bc R bd bW bf R R (s_ (cF R R R bd bf R R R (s0 ((Wk.trans (aQ [(4,.ptr 104 0)] [(1,.dead),(7,.box [.L j6.2.L,.I j6.2.At]),(104,.box [.al 5 (List.map ak.lv (v24.set ((0:Int).toNat) (ak.mk bg.ID bg.ab bg.ah v23 bg.ae)))])]) (Wk.trans (Wk.bk 104 [.al 5 (List.map ak.lv (v24.set ((0:Int).toNat) (ak.mk bg.ID bg.ab bg.ah v23 bg.ae)))] R R R (bH R)) (Wk.eq R R R R))))))))) (LH.ret ?_))))
    obtain rfl:=oI h
    exact aN (aT Tryz.results15) (cN R bd bW bf R R (bL ⟨aM (mC R (mC R mN)),R,aX R,Sub.rfl⟩))
   replace h:=aA h oQ
   obtain ⟨v26,Tn,h⟩:=ao h
   refine LH.aS [(4,.ptr 104 0),(5,.ptr 105 0),(8,.ag (ak.lv bg).cells)] [(1,.dead),(7,.box [.L dD.2.L,.I dD.2.At]),(104,.box [.nil]),(105,.box [.al 5 (v26.map ak.lv)])] R (sN (dI bX bZ dq R R (sN (dQ R R R R bZ e8 (sN (lJ R R R cT il cz R R (sN (ka (f:=(ak.lt true)) (ys:=[bg]) dE p9 cz R R R ak.Cj (cH.wk ((Wk.trans (aQ [(4,.ptr 104 0),(5,.ptr 105 0),(8,.ptr 108 0),(37,.aJ true 49 5 (List.map (ak.lt true) r2.1.aa)),(39,.al 5 (List.map (ak.lt true) [bg]))] [(1,.dead),(7,.box [.L dD.2.L,.I dD.2.At]),(104,.box [.nil]),(105,.box [.aJ true 49 5 (List.map (ak.lt true) r2.1.aa)]),(108,.box [.I bg.ID,.al 5 (bg.ab.map ai.lv),.aJ true 4 1 (bg.ah.map LV.bool),.aJ true 88 3 (bg.Uses.map ay.lv),.bool bg.ae])]) (Wk.trans (Wk.bk 108 [.I bg.ID,.al 5 (bg.ab.map ai.lv),.aJ true 4 1 (bg.ah.map LV.bool),.aJ true 88 3 (bg.Uses.map ay.lv),.bool bg.ae] R R R (bH R)) (aQ [(4,.ptr 104 0),(5,.ptr 105 0),(8,.ag [.I bg.ID,.al 5 (bg.ab.map ai.lv),.aJ true 4 1 (bg.ah.map LV.bool),.aJ true 88 3 (bg.Uses.map ay.lv),.bool bg.ae]),(37,.aJ true 49 5 (List.map (ak.lt true) r2.1.aa)),(39,.al 5 (List.map (ak.lt true) [bg]))] [(1,.dead),(7,.box [.L dD.2.L,.I dD.2.At]),(104,.box [.nil]),(105,.box [.aJ true 49 5 (List.map (ak.lt true) r2.1.aa)])])))) (Bt (f:=(ak.lt true)) (g:=ak.lv) (es:=[(4,.ptr 104 0),(5,.ptr 105 0),(8,.ag [.I bg.ID,.al 5 (bg.ab.map ai.lv),.aJ true 4 1 (bg.ah.map LV.bool),.aJ true 88 3 (bg.Uses.map ay.lv),.bool bg.ae]),(37,.aJ true 49 5 (List.map (ak.lt true) r2.1.aa)),(39,.al 5 (List.map (ak.lt true) [bg]))]) (ml:=[(1,.dead),(7,.box [.L dD.2.L,.I dD.2.At]),(104,.box [.nil]),(105,.box [.aJ true 49 5 (List.map (ak.lt true) r2.1.aa)])]) (jF:=[(4,.ptr 104 0),(5,.ptr 105 0),(8,.ag (ak.lv bg).cells),(37,.al 5 (r2.1.aa.map ak.lv)),(39,.al 5 (List.map ak.lv [bg]))]) (cQ:=[(1,.dead),(7,.box [.L dD.2.L,.I dD.2.At]),(104,.box [.nil]),(105,.box [.al 5 (r2.1.aa.map ak.lv)])]) PY dE p9 cz R R Tn ak.p5 (fun _=>R) (wP (Rel.ptr R) (wP (Rel.ptr R) (wP (Rel.ag (eY Rel.int (eY (Rel.al ai.rel (fun _=>R)) (eY (Rel.aJ (fun _=>Rel.bool) (fun _=>R)) (eY (Rel.aJ ay.rel (fun _=>R)) (eY Rel.bool lX)))))) (wP (Rel.aJ ak.p5 (fun _=>R)) (wP (Rel.al ak.p5 (fun _=>R)) QL))))) (uu im.dead (uu (im.box (eY (Rel.al (fun _=>Rel.int) (fun _=>R)) (eY Rel.int lX))) (uu (im.box (eY Rel.nil lX)) (uu (im.box (eY (Rel.aJ ak.p5 (fun _=>R)) lX)) Mu)))) (sN (dI bX bZ dq R R (s_ (cF R R R bZ dq R R R zS)))))))))))))) (aY (au (LH.aj [(4,.ptr 104 0),(5,.ptr 105 0),(8,.ag (ak.lv bg).cells),(9,.nil)] [(1,.dead),(7,.box [.L dD.2.L,.I dD.2.At]),(104,.box [.nil]),(105,.box [.al 5 (v26.map ak.lv)])] R (k9 R zS) ?_)))
   obtain ⟨Ae,To,h⟩:=ao h
   refine LH.aj [(4,.ptr 104 0),(5,.ptr 105 0),(8,.ag (ak.lv bg).cells),(9,.arr 167 Ae.length)] [(1,.dead),(7,.box [.L dD.2.L,.I dD.2.At]),(104,.box [.nil]),(105,.box [.al 5 (v26.map ak.lv)]),(167,.arr 49 5 (Ae.map ak.lv))] R (IG R (sN (dI bX bZ dq R R (sN (dQ R R R R bZ e8 (sN (Dq (f:=ak.lv) (id:=167) R dE p9 cz R R To R (nQ R zS)))))))) ?_
   obtain ⟨RO,Ia,h⟩:=ao h
   refine LH.aj [(4,.ptr 104 0),(5,.ptr 105 0),(9,.al 5 (List.map ak.lv (Ae.set ((0:Int).toNat) bg)))] [(1,.dead),(7,.box [.L dD.2.L,.I dD.2.At]),(104,.box [.nil]),(105,.box [.al 5 (v26.map ak.lv)])] R (jQ R (sN (bc R cT il cz R R (sN (gV (f:=ak.lv) dE cT cz R R R Ia (s_ (qx (f:=ak.lv) (z':=bg) R R R R cT cz R (dB Ia).2 R (s0 ((Wk.trans (Wk.to (el:=[(4,.ptr 104 0),(5,.ptr 105 0),(9,.arr 167 (List.length (Ae.set ((0:Int).toNat) bg)))]) (ml:=[(1,.dead),(7,.box [.L dD.2.L,.I dD.2.At]),(104,.box [.nil]),(105,.box [.al 5 (v26.map ak.lv)]),(167,.arr 49 5 (List.map ak.lv (Ae.set ((0:Int).toNat) bg)))]) (eC R (eC R (eC (congrArg (LV.arr 167) (by simp)) eN))) ⟨R,R,R,R,R,trivial⟩ R (aX R)) (Wk.trans (Wk.lC (f:=ak.lv) (fB:=[(4,.ptr 104 0),(5,.ptr 105 0),(9,.al 5 (List.map ak.lv (Ae.set ((0:Int).toNat) bg)))]) 167 49 5 (Ae.set ((0:Int).toNat) bg) R R (bH R) (fK R (fK R (fZ fN)))) (Wk.eq R R R R)))))))))))) (LH.aS [(4,.ptr 104 0),(5,.ag [.al 5 (List.map ak.lv (Ae.set ((0:Int).toNat) bg))])] [(1,.dead),(7,.box [.L dD.2.L,.I dD.2.At]),(104,.box [.nil])] R (fh R (sN (dI bX bZ dq R R (s_ (cF R R R bZ dq R R R (s0 ((Wk.trans (aQ [(4,.ptr 104 0),(5,.ptr 105 0)] [(1,.dead),(7,.box [.L dD.2.L,.I dD.2.At]),(104,.box [.nil]),(105,.box [.al 5 (List.map ak.lv (Ae.set ((0:Int).toNat) bg))])]) (Wk.trans (Wk.bk 105 [.al 5 (List.map ak.lv (Ae.set ((0:Int).toNat) bg))] R R R (bH R)) (Wk.eq R R R R)))))))))) (au (LH.aj [(4,.ag [.al 5 (List.map ak.lv (Ae.set ((0:Int).toNat) bg))])] [(1,.dead),(7,.box [.L dD.2.L,.I dD.2.At])] R (sN (bc R bd bW bf R R (s_ (cF R R R bd bf R R R (s0 ((Wk.trans (aQ [(4,.ptr 104 0)] [(1,.dead),(7,.box [.L dD.2.L,.I dD.2.At]),(104,.box [.al 5 (List.map ak.lv (Ae.set ((0:Int).toNat) bg))])]) (Wk.trans (Wk.bk 104 [.al 5 (List.map ak.lv (Ae.set ((0:Int).toNat) bg))] R R R (bH R)) (Wk.eq R R R R))))))))) (LH.ret ?_))))
   obtain rfl:=oI h
   exact aN (aT Tryz.results15) (cN R bd bW bf R R (bL ⟨aM (mC R (mC R mN)),R,aX R,Sub.rfl⟩))
  replace h:=aA h ib
  refine LH.skip (au (LH.wk ((Wk.trans (aQ [(4,.ptr 104 0),(5,.ptr 105 0)] [(1,.dead),(7,.box [.L w6.2.1,.I w6.2.2]),(104,.box [.nil]),(105,.box [.aJ true 49 5 (List.map (ak.lt true) r2.1.aa)])]) (Wk.trans (Wk.bk 105 [.aJ true 49 5 (List.map (ak.lt true) r2.1.aa)] R R R (bH R)) (aQ [(4,.ptr 104 0),(5,.ag [.aJ true 49 5 (List.map (ak.lt true) r2.1.aa)])] [(1,.dead),(7,.box [.L w6.2.1,.I w6.2.2]),(104,.box [.nil])])))) (LH.aj [(4,.ag [.aJ true 49 5 (List.map (ak.lt true) r2.1.aa)])] [(1,.dead),(7,.box [.L w6.2.1,.I w6.2.2])] R (sN (bc R bd bW bf R R (s_ (cF R R R bd bf R R R (s0 ((Wk.trans (aQ [(4,.ptr 104 0)] [(1,.dead),(7,.box [.L w6.2.1,.I w6.2.2]),(104,.box [.aJ true 49 5 (List.map (ak.lt true) r2.1.aa)])]) (Wk.trans (Wk.bk 104 [.aJ true 49 5 (List.map (ak.lt true) r2.1.aa)] R R R (bH R)) (Wk.eq R R R R))))))))) (LH.wk (Wk.loose (el:=[(4,.ag [.aJ true 49 5 (List.map (ak.lt true) r2.1.aa)])]) (ml:=[(1,.dead),(7,.box [.L w6.2.1,.I w6.2.2])]) (fB:=[(4,.ag [.al 5 (r2.1.aa.map ak.lv)])]) (cQ:=[(1,.dead),(7,.box [.L w6.2.1,.I w6.2.2])]) PY (wP (Rel.ag (eY (Rel.aJ ak.p5 (fun _=>R)) lX)) QL) (uu im.dead (uu (im.box (eY (Rel.al (fun _=>Rel.int) (fun _=>R)) (eY Rel.int lX))) Mu))) (LH.wk (aQ [(4,.ag [.al 5 (r2.1.aa.map ak.lv)])] [(1,.dead),(7,.box [.L w6.2.1,.I w6.2.2])]) (LH.ret ?_))))))
  obtain rfl:=oI h
  exact aN (aT Tryz.results15) (cN R bd bW bf R R (bL ⟨aM (mC R (mC R mN)),R,aX R,Sub.rfl⟩))
theorem RQ {F:Nat} {p0:aP} {p1:Int} {r:aG × aP} (h:MJ F p0 p1=some r):aO Tryz.prog 15 [.ptr 7 0,.I p1] (Mem.of [(7,.box [.L p0.L,.I p0.At])]) (.agg [.al 5 (r.1.aa.map ak.lv)]) (Mem.of [(7,.box [.L r.2.L,.I r.2.At])]):=aO.IQ (RR h) rfl rfl (eY (Rel.ptr rfl) (eY Rel.int lX)) (uu (im.box (eY (Rel.al (fun _=>Rel.int) (fun _=>rfl)) (eY Rel.int lX))) Mu) (uu (im.box (eY (Rel.al (fun _=>Rel.int) (fun _=>rfl)) (eY Rel.int lX))) Mu) (Rel.agg (eY (Rel.al ak.rel (fun _=>rfl)) lX))
theorem P8 {F:Nat} {p0:ak} {r:ak} (h:yr F p0=some r):aO Tryz.prog 39 [ak.lv p0] (Mem.of []) (.agg [.I r.ID,.arr 109 r.ab.length,.arr 128 r.ah.length,.arr 132 r.Uses.length,.bool r.ae]) (Mem.of [(109,.arr 54 5 (r.ab.map ai.lv)),(128,.arr 4 1 (r.ah.map LV.bool)),(132,.arr 88 3 (r.Uses.map ay.lv))]):=by
  unfold yr at h
  refine bx Tryz.func39 R (nT Tryz.ntmps39 R) (LH.wk (aQ [(0,ak.lv p0)] []) (LH.aj [(1,.ptr 101 0),(2,.ptr 102 0)] [(101,.box (ak.lv p0).cells),(102,.box [.I 0,.nil,.nil,.nil,.bool false])] R (sN (RE (id:=101) R R R R R R (sN (j0 (id:=102) R qH R R zS)))) ?_))
  obtain ⟨v1,jY,h⟩:=ao h
  refine LH.aj [(1,.ptr 101 0),(2,.ptr 102 0),(3,.arr 109 v1.length)] [(101,.box (ak.lv p0).cells),(102,.box [.I 0,.nil,.nil,.nil,.bool false]),(109,.arr 54 5 (v1.map ai.lv))] R (sN (dI cZ c7 fE R R (sN (dQ R R R R c7 ij (sN (bV (f:=ai.lv) fw R (sX (Gf (f:=ai.lv) (z:=(ai.mk 0 0 (ByteArray.mk #[]) [] [])) (id:=109) R fw xf zE cd R R R (Sub.agg (aI (aI (aI (qC (qC bm)))))) ai.ok jY R) (nQ R zS)))))))) (LH.seq (LH.aj [(1,.ptr 101 0),(2,.ptr 102 0),(3,.arr 109 v1.length),(11,.al 5 (p0.ab.map ai.lv)),(12,.I (p0.ab.length:Int)),(13,.I 0)] [(101,.box (ak.lv p0).cells),(102,.box [.I 0,.nil,.nil,.nil,.bool false]),(109,.arr 54 5 (v1.map ai.lv))] R (sN (dI cZ c7 fE R R (sN (dQ R R R R c7 ij (sN (bV (f:=ai.lv) fw R (br R zS))))))) (LH.block (LH.loop (fun n e m=>∃ (n2:Int) (l3:List ai),Bc p0 n n2 l3=some r∧e=Env.of [(1,.ptr 101 0),(2,.ptr 102 0),(3,.arr 109 l3.length),(11,.al 5 (p0.ab.map ai.lv)),(12,.I (p0.ab.length:Int)),(13,.I n2)]∧m=Mem.of [(101,.box (ak.lv p0).cells),(102,.box [.I 0,.nil,.nil,.nil,.bool false]),(109,.arr 54 5 (l3.map ai.lv))]) F ⟨0,v1,h,R,R⟩ ?_))))
  clear h
  rintro n e m ⟨n2,l3,h,rfl,rfl⟩
  rcases n with _ | n
  · cases (show Option.none=some _ from h)
  obtain ⟨aK,a7⟩:∃ f,f=Bc p0 n:=⟨_,rfl⟩
  replace h:Gz p0 aK n2 l3=some r:=a7 ▸ h
  unfold Gz at h
  refine LH.aj [(1,.ptr 101 0),(2,.ptr 102 0),(3,.arr 109 l3.length),(11,.al 5 (p0.ab.map ai.lv)),(12,.I (p0.ab.length:Int)),(13,.I n2),(14,.bool (decide (n2<(p0.ab.length:Int))))] [(101,.box (ak.lv p0).cells),(102,.box [.I 0,.nil,.nil,.nil,.bool false]),(109,.arr 54 5 (l3.map ai.lv))] R (sN (fy R R zS)) (LH.seq (LH.cond (t:=(decide (n2<(p0.ab.length:Int)))) R (fun hT=>?_) (fun hT=>?_)))
  ·replace h:=aB h hT
   refine LH.skip (au (LH.wk (aQ [(1,.ptr 101 0),(2,.ptr 102 0),(3,.arr 109 l3.length),(11,.al 5 (p0.ab.map ai.lv)),(12,.I (p0.ab.length:Int)),(13,.I n2)] [(101,.box (ak.lv p0).cells),(102,.box [.I 0,.nil,.nil,.nil,.bool false]),(109,.arr 54 5 (l3.map ai.lv))]) (LH.seq (LH.block ?_))))
   obtain ⟨x5,mG,h⟩:=ao h
   refine LH.aj [(1,.ptr 101 0),(2,.ptr 102 0),(3,.arr 109 l3.length),(4,.I n2),(5,.ag (ai.lv x5).cells),(11,.al 5 (p0.ab.map ai.lv)),(12,.I (p0.ab.length:Int)),(13,.I n2)] [(101,.box (ak.lv p0).cells),(102,.box [.I 0,.nil,.nil,.nil,.bool false]),(109,.arr 54 5 (l3.map ai.lv))] R (br R (sN (eM (f:=ai.lv) fw cv cd R R ai.ok mG R (sN (bc R cv eZ cd R R (sN (j0 (id:=105) R xf R R (bt R (s_ (cF R R R cv cd R R R (s0 ((Wk.trans (aQ [(1,.ptr 101 0),(2,.ptr 102 0),(3,.arr 109 l3.length),(4,.I n2),(5,.ptr 105 0),(11,.al 5 (p0.ab.map ai.lv)),(12,.I (p0.ab.length:Int)),(13,.I n2)] [(101,.box (ak.lv p0).cells),(102,.box [.I 0,.nil,.nil,.nil,.bool false]),(105,.box (ai.lv x5).cells),(109,.arr 54 5 (l3.map ai.lv))]) (Wk.trans (Wk.bk 105 (ai.lv x5).cells R R R (bH R)) (Wk.eq R R R R))))))))))))))) ?_
   obtain ⟨r6,Dj,h⟩:=ao h
   obtain ⟨x7,xm,h⟩:=ao h
   refine LH.aS [(1,.ptr 101 0),(2,.ptr 102 0),(3,.arr 109 (List.length (l3.set n2.toNat r6))),(11,.al 5 (p0.ab.map ai.lv)),(12,.I (p0.ab.length:Int)),(13,.I n2)] [(101,.box (ak.lv p0).cells),(102,.box [.I 0,.nil,.nil,.nil,.bool false]),(109,.arr 54 5 (List.map ai.lv (l3.set n2.toNat r6)))] R (jQ R (br R (sN (bc R cv eZ cd R R (sN (ej (args:=[ai.lv x5]) R B9 R (aI bm) (Cm Dj) R (sN (gV (f:=ai.lv) fw cv cd R R R xm (s_ (qx (f:=ai.lv) (z':=r6) R R R R cv cd R (dB xm).2 R (s0 (Wk.to (eC R (eC R (eC (congrArg (LV.arr 109) (by simp)) (eC R (eC R (eC R eN)))))) ⟨R,R,R,trivial⟩ R (aX R))))))))))))) (aY (au (LH.aS [(1,.ptr 101 0),(2,.ptr 102 0),(3,.arr 109 (List.length (l3.set n2.toNat r6))),(11,.al 5 (p0.ab.map ai.lv)),(12,.I (p0.ab.length:Int)),(13,.I (i64 (n2+1)))] [(101,.box (ak.lv p0).cells),(102,.box [.I 0,.nil,.nil,.nil,.bool false]),(109,.arr 54 5 (List.map ai.lv (l3.set n2.toNat r6)))] R (sN (cI R R (br R zS))) ?_)))
   exact bl ⟨(i64 (n2+1)),(l3.set n2.toNat r6),a7 ▸ h,R,R⟩ (Wk.eq R R R R)
  replace h:=aA h hT
  refine LH.exit (cD (b6 (bP (au (LH.aj [(1,.ptr 101 0),(2,.ptr 102 0)] [(101,.box [.I p0.ID,.arr 109 l3.length,.al 1 (p0.ah.map LV.bool),.al 3 (p0.Uses.map ay.lv),.bool p0.ae]),(102,.box [.I 0,.nil,.nil,.nil,.bool false]),(109,.arr 54 5 (l3.map ai.lv))] R (jQ R (sN (dI cZ c7 fE R R (s_ (cF R R R c7 fE R R R zS))))) ?_)))))
  obtain ⟨v8,Ov,h⟩:=ao h
  refine LH.aj [(1,.ptr 101 0),(2,.ptr 102 0)] [(101,.box [.I p0.ID,.arr 109 l3.length,.arr 128 v8.length,.al 3 (p0.Uses.map ay.lv),.bool p0.ae]),(102,.box [.I 0,.nil,.nil,.nil,.bool false]),(109,.arr 54 5 (l3.map ai.lv)),(128,.arr 4 1 (v8.map LV.bool))] R (sN (dI dJ dZ gN R R (sN (dQ R R R R dZ lM (sN (dX (args:=[.al 1 (p0.ah.map LV.bool)]) (ml:=[]) (cQ:=[(128,.arr 4 1 (v8.map LV.bool))]) R Pj R (aI bm) (pA (g:=LV.bool) EL R 128 Ov) mN (lI R bU) R (sN (dI dJ dZ gN R R (s_ (cF R R R dZ gN R R R zS)))))))))) ?_
  obtain ⟨v9,Tx,h⟩:=ao h
  refine LH.aj [(1,.ptr 101 0),(2,.ptr 102 0)] [(101,.box [.I p0.ID,.arr 109 l3.length,.arr 128 v8.length,.arr 132 v9.length,.bool p0.ae]),(102,.box [.I 0,.nil,.nil,.nil,.bool false]),(109,.arr 54 5 (l3.map ai.lv)),(128,.arr 4 1 (v8.map LV.bool)),(132,.arr 88 3 (v9.map ay.lv))] R (sN (dI dK dS gZ R R (sN (dQ R R R R dS kx (sN (dX (args:=[.al 3 (p0.Uses.map ay.lv)]) (ml:=[]) (cQ:=[(132,.arr 88 3 (v9.map ay.lv))]) R Pk R (aI bm) (pA (g:=ay.lv) EM R 132 Tx) mN (lI R bU) R (sN (dI dK dS gZ R R (s_ (cF R R R dS gZ R R R zS)))))))))) (LH.aj [(2,.ptr 102 0)] [(102,.box [.I p0.ID,.arr 109 l3.length,.arr 128 v8.length,.arr 132 v9.length,.bool p0.ae]),(109,.arr 54 5 (l3.map ai.lv)),(128,.arr 4 1 (v8.map LV.bool)),(132,.arr 88 3 (v9.map ay.lv))] R (sN (lJ R R R cT il cz R R (s_ (cF R R R cT cz R R R zS)))) (LH.ret ?_))
  obtain rfl:=oI h
  exact aN (aT Tryz.results39) (PM R R R cT il cz R R (bL ⟨aM (mC R (mC R (mC R mN))),R,aX R,Sub.rfl⟩))
theorem DI {F:Nat} {p0:aG} {r:aG} (h:uH F p0=some r):aO Tryz.prog 44 [.agg [.al 5 (p0.aa.map ak.lv)]] (Mem.of []) (.agg [.arr 812 r.aa.length]) (Mem.of [(812,cC (r.aa.map ak.lv))]):=by
  unfold uH at h
  refine bx Tryz.func44 R (nT Tryz.ntmps44 R) (LH.wk (aQ [(0,.agg [.al 5 (p0.aa.map ak.lv)])] []) (LH.aj [(1,.ag [.al 5 (p0.aa.map ak.lv)]),(2,.ptr 102 0)] [(102,.box [.nil])] R (sB (de R R R R (sN (j0 (id:=102) R dH R R zS)))) ?_))
  obtain ⟨v1,jY,h⟩:=ao h
  refine LH.aj [(1,.ag [.al 5 (p0.aa.map ak.lv)]),(2,.ptr 102 0),(3,.arr 812 v1.length)] [(102,.box [.nil]),(812,cC (v1.map ak.lv))] R (sN (aw bX bZ dq R R R (sN (bh R bZ e8 (sN (bV (f:=ak.lv) dE R (sX ((Mg (f:=ak.lv) (z':=(ak.mk 0 [] [] [] false)) (v:=v1) (id:=812) (os:=[(1,54,5),(2,4,1),(3,88,3)]) dE qH p9 cz R R jY R R R).ok) (nQ R zS)))))))) (LH.seq (LH.aj [(2,.ptr 102 0),(3,.arr 812 v1.length),(11,.al 5 (p0.aa.map ak.lv)),(12,.I (p0.aa.length:Int)),(13,.I 0)] [(102,.box [.nil]),(812,cC (v1.map ak.lv))] R (sN (aw bX bZ dq R R R (sN (bh R bZ e8 (sN (bV (f:=ak.lv) dE R (br R zS))))))) (LH.block (LH.loop (fun n e m=>∃ (n2:Int) (l3:List ak),Bj F p0 n n2 l3=some r∧e=Env.of [(2,.ptr 102 0),(3,.arr 812 l3.length),(11,.al 5 (p0.aa.map ak.lv)),(12,.I (p0.aa.length:Int)),(13,.I n2)]∧m=Mem.of [(102,.box [.nil]),(812,cC (l3.map ak.lv))]) F ⟨0,v1,h,R,R⟩ ?_))))
  clear h
  rintro n e m ⟨n2,l3,h,rfl,rfl⟩
  rcases n with _ | n
  · cases (show Option.none=some _ from h)
  obtain ⟨aK,a7⟩:∃ f,f=Bj F p0 n:=⟨_,rfl⟩
  replace h:GN F p0 aK n2 l3=some r:=a7 ▸ h
  unfold GN at h
  refine LH.aj [(2,.ptr 102 0),(3,.arr 812 l3.length),(11,.al 5 (p0.aa.map ak.lv)),(12,.I (p0.aa.length:Int)),(13,.I n2),(14,.bool (decide (n2<(p0.aa.length:Int))))] [(102,.box [.nil]),(812,cC (l3.map ak.lv))] R (sN (fy R R zS)) (LH.seq (LH.cond (t:=(decide (n2<(p0.aa.length:Int)))) R (fun hT=>?_) (fun hT=>?_)))
  ·replace h:=aB h hT
   refine LH.skip (au (LH.wk (aQ [(2,.ptr 102 0),(3,.arr 812 l3.length),(11,.al 5 (p0.aa.map ak.lv)),(12,.I (p0.aa.length:Int)),(13,.I n2)] [(102,.box [.nil]),(812,cC (l3.map ak.lv))]) (LH.seq (LH.block ?_))))
   obtain ⟨x5,mG,h⟩:=ao h
   refine LH.aj [(2,.ptr 102 0),(3,.arr 812 l3.length),(4,.I n2),(5,.ag (ak.lv x5).cells),(11,.al 5 (p0.aa.map ak.lv)),(12,.I (p0.aa.length:Int)),(13,.I n2)] [(102,.box [.nil]),(812,cC (l3.map ak.lv))] R (br R (sN (eM (f:=ak.lv) dE cT cz R R ak.ok mG R (sN (bc R cT il cz R R (sN (j0 (id:=105) R qH R R (bt R (s_ (cF R R R cT cz R R R (s0 ((Wk.trans (aQ [(2,.ptr 102 0),(3,.arr 812 l3.length),(4,.I n2),(5,.ptr 105 0),(11,.al 5 (p0.aa.map ak.lv)),(12,.I (p0.aa.length:Int)),(13,.I n2)] [(102,.box [.nil]),(105,.box (ak.lv x5).cells),(812,cC (l3.map ak.lv))]) (Wk.trans (Wk.bk 105 (ak.lv x5).cells R R R (bH R)) (Wk.eq R R R R))))))))))))))) ?_
   obtain ⟨r6,Dj,h⟩:=ao h
   obtain ⟨x7,xm,h⟩:=ao h
   refine LH.aS [(2,.ptr 102 0),(3,.arr 812 (List.length (l3.set (n2).toNat r6))),(11,.al 5 (p0.aa.map ak.lv)),(12,.I (p0.aa.length:Int)),(13,.I n2)] [(102,.box [.nil]),(812,cC (List.map ak.lv (l3.set (n2).toNat r6)))] R (jQ R (br R (sN (bc R cT il cz R R (sN (dX (args:=[ak.lv x5]) (ml:=[]) (cQ:=[(109,.arr 54 5 (r6.ab.map ai.lv)),(128,.arr 4 1 (r6.ah.map LV.bool)),(132,.arr 88 3 (r6.Uses.map ay.lv))]) R O3 R (aI bm) (P8 Dj) mN (lI R (lI R (lI R bU))) R (sX ((Gc (f:=ak.lv) (xs:=l3) dE cT cz R R R R xm).ok) (HB ((Ml (f:=ak.lv) (xs:=l3) (z':=r6) R R R xm R cT cz R R (Q9 R R (Ng (g:=ai.lv) (ys:=r6.ab) R R (Ng (g:=LV.bool) (ys:=r6.ah) R R (Ng (g:=ay.lv) (ys:=r6.Uses) R R (Q9 R R Un))))) (by decide) (Nv (bH R) (Nv (bH R) (Nv (bH R) Uq))) R).ok) (s0 (Wk.to (eC R (eC (congrArg (LV.arr 812) (by simp)) (eC R (eC R (eC R eN))))) ⟨R,R,trivial⟩ R (aX R))))))))))) (aY (au (LH.aS [(2,.ptr 102 0),(3,.arr 812 (List.length (l3.set (n2).toNat r6))),(11,.al 5 (p0.aa.map ak.lv)),(12,.I (p0.aa.length:Int)),(13,.I (i64 (n2+1)))] [(102,.box [.nil]),(812,cC (List.map ak.lv (l3.set (n2).toNat r6)))] R (sN (cI R R (br R zS))) ?_)))
   exact bl ⟨(i64 (n2+1)),(l3.set (n2).toNat r6),a7 ▸ h,R,R⟩ (Wk.eq R R R R)
  replace h:=aA h hT
  refine LH.exit (cD (b6 (bP (au (LH.aj [(2,.ptr 102 0)] [(102,.box [.arr 812 l3.length]),(812,cC (l3.map ak.lv))] R (jQ R (sN (fU (vs:=[(0,.arr 812 l3.length)]) iB dH R (lf bX dq bZ R R R fT) (s_ (cF R R R bd bf R R R zS))))) (LH.ret ?_))))))
  obtain rfl:=oI h
  exact aN (aT Tryz.results44) (PM R R R bd bW bf R R (bL ⟨aM (mC R mN),R,aX R,Sub.rfl⟩))
set_option maxHeartbeats 4000000 in
theorem Qy {F:Nat} {p0:aG} {p1:ax} {r:aG × Int} (h:y1 F p0 p1=some r):aO Tryz.prog 25 [.agg [.al 5 (p0.aa.map ak.lv)],ax.lv p1] (Mem.of []) (.cV [.agg [.al 5 (r.1.aa.map ak.lv)],.I r.2]) (Mem.of []):=by
  unfold y1 at h
  refine bx Tryz.func25 R (nT Tryz.ntmps25 R) (LH.wk (aQ [(0,.agg [.al 5 (p0.aa.map ak.lv)]),(1,ax.lv p1)] []) (LH.aj [(2,.ag [.al 5 (p0.aa.map ak.lv)]),(3,.ag (ax.lv p1).cells),(4,.ptr 104 0)] [(104,.box [.nil])] R (sB (de R R R R (sB (de R R R R (sN (j0 (id:=104) R dH R R (bt R zS))))))) (LH.seq ?_)))
  obtain ⟨r1,ei,h⟩:=ao h
  refine LH.aj [(2,.ag [.al 5 (p0.aa.map ak.lv)]),(3,.ag (ax.lv p1).cells),(4,.ptr 104 0),(12,.bool (!r1))] [(104,.box [.nil])] R (sN (bc R bd bW bf R R (sN (ej (args:=[.agg [.al 5 (p0.aa.map ak.lv)]]) R Ju R (aI bm) (J9 ei) R (sN (ic R zS)))))) (LH.cond (t:=(!r1)) R (fun fG=>?_) (fun fG=>?_))
  ·replace h:=aB h fG
   refine LH.aj [(4,.ag [.nil]),(5,.I 1)] [] R (sN (fU (vs:=[]) iB dH R fT (s_ (cF R R R bd bf R R R (bt R (s0 ((Wk.trans (aQ [(4,.ptr 104 0),(5,.I 1)] [(104,.box [.nil])]) (Wk.trans (Wk.bk 104 [.nil] R R R (bH R)) (Wk.eq R R R R)))))))))) (LH.ret (aU ?_))
   obtain rfl:=oI h
   exact aN (aT Tryz.results25) (cN R bd bW bf R R (bO R (bL ⟨aM mN,R,aX R,(Sub.cV (lj (Sub.agg (qC bm)) (aI bm)))⟩)))
  replace h:=aA h fG
  refine LH.skip (au ?_)
  by_cases MU:(p1.Kind == 1)=true
  ·replace h:=aB h MU
   refine LH.cO mixed [] [2,0,0,3,0,0,0,0,0] [(2,.ag [.al 5 (p0.aa.map ak.lv)]),(3,.ag (ax.lv p1).cells),(4,.ptr 104 0),(6,.fn 57 []),(7,.bool true)] [(104,.box [.nil])] R R (by kernel_rfl) (yh (dX (args:=[]) (ml:=[]) (cQ:=[(10301,.map 3 78 (dO LV.I bu ba))]) R qW R bm (y7 (F:=F) (r:=ba) R) mN (lI R bU) R (aD (aw dM aE bb R R R ⟨R,aD (bh R aE bN ⟨R,mX (eO (f:=LV.I) (g:=bu) (xs:=ba) (key:=1) (z:=0) (o:=some 1) lN lF u7 R R (congrArg LV.I (eq_of_beq MU)) qa R) (JK R (aD (fV R R ⟨R,aD (fV R R ⟨R,M5 R (L6 R zM)⟩)⟩)))⟩)⟩)))) (LH.seq (LH.aj [(2,.ag [.al 5 (p0.aa.map ak.lv)]),(3,.ag (ax.lv p1).cells),(4,.ptr 104 0),(6,.fn 57 []),(22,.bool false)] [(104,.box [.nil])] R (bM R (sN (ic R zS))) (LH.cond (t:=false) R (fun hT=>?_) (fun hT=>?_))))
   ·cases hT
   refine LH.skip (au ?_)
   obtain ⟨r5,AQ,h⟩:=ao h
   refine LH.aj [(3,.ag (ax.lv p1).cells),(4,.ptr 104 0),(6,.fn 57 []),(8,.ptr 811 0)] [(104,.box [.nil]),(811,.box [.arr 812 r5.aa.length]),(812,cC (r5.aa.map ak.lv))] R (sN (bc R bd bW bf R R (sN (dX (args:=[.agg [.al 5 (p0.aa.map ak.lv)]]) (ml:=[]) (cQ:=[(812,cC (r5.aa.map ak.lv))]) R u5 R (aI bm) (DI AQ) mN (lI R bU) R (sX (o3 711 R dH R R) (s_ (cF R R R bd bf R R R zS))))))) (LH.seq ?_)
   obtain ⟨r6,Dj,h⟩:=ao h
   refine LH.aj [(4,.ptr 104 0),(8,.ptr 811 0),(9,.I r6.1)] [(104,.box [.nil]),(811,.box [.arr 812 r6.2.aa.length]),(812,cC (r6.2.aa.map ak.lv))] R (sN (oM (v:=(.fn _ _)) R (sN (bc R eo iX dF R R (sN (dX (args:=[.ptr 811 0,ax.lv p1]) (ml:=[(811,.box [.arr 812 r5.aa.length]),(812,cC (r5.aa.map ak.lv))]) (cQ:=[(811,.box [.arr 812 r6.2.aa.length]),(812,cC (r6.2.aa.map ak.lv))]) R Jy R (aI (aI bm)) (J6 Dj) ⟨R,R,trivial⟩ (bT R (bT R bU)) R (bt R zS))))))) (LH.aj [(4,.ptr 104 0),(8,.ptr 811 0),(9,.I r6.1),(30,.bool (r6.1 != 0))] [(104,.box [.nil]),(811,.box [.arr 812 r6.2.aa.length]),(812,cC (r6.2.aa.map ak.lv))] R (br R (sN (iR R R zS))) (LH.cond (t:=(r6.1 != 0)) R (fun jd=>?_) (fun jd=>?_)))
   ·replace h:=aB h jd
    refine LH.aj [(4,.ag [.nil]),(5,.I r6.1)] [] R (sN (fU (vs:=[]) iB dH R fT (br R (s_ (cF R R R bd bf R R R (bt R (s0 ((Wk.trans (aQ [(4,.ptr 104 0),(5,.I r6.1)] [(104,.box [.nil])]) (Wk.trans (Wk.bk 104 [.nil] R R R (bH R)) (Wk.eq R R R R))))))))))) (LH.ret (aU ?_))
    obtain rfl:=oI h
    exact aN (aT Tryz.results25) (cN R bd bW bf R R (bO R (bL ⟨aM mN,R,aX R,(Sub.cV (lj (Sub.agg (qC bm)) (aI bm)))⟩)))
   replace h:=aA h jd
   refine LH.skip (au (LH.aj [(4,.ag [.al 5 (r6.2.aa.map ak.lv)]),(5,.I 0)] [] R (cH.wk (aQ [(4,.ptr 104 0),(8,.ptr 811 0)] [(104,.box [.nil]),(811,.box [.arr 812 r6.2.aa.length]),(812,cC (r6.2.aa.map ak.lv))]) (cH.wk (Wk.trans (Wk.trans (Wk.ny (f:=ak.lv) 812 49 5 [(1,54,5),(2,4,1),(3,88,3)] r6.2.aa R ak.ok) (aQ [(4,.ptr 104 0),(8,.ptr 811 0)] [(104,.box [.nil]),(811,.box [.arr 812 r6.2.aa.length]),(812,.arr 49 5 (r6.2.aa.map ak.lv))])) (Wk.trans (Wk.fl (f:=ak.lv) 812 49 5 r6.2.aa 811 R R R (jm jl) R R (bH R)) (aQ [(4,.ptr 104 0),(8,.ptr 811 0)] [(104,.box [.nil]),(811,.box [.al 5 (r6.2.aa.map ak.lv)])]))) (sN (lJ R R R bd bW bf R R (s_ (cF R R R bd bf R R R (bt R (s0 ((Wk.trans (aQ [(4,.ptr 104 0),(5,.I 0)] [(104,.box [.al 5 (r6.2.aa.map ak.lv)])]) (Wk.trans (Wk.bk 104 [.al 5 (r6.2.aa.map ak.lv)] R R R (bH R)) (Wk.eq R R R R)))))))))))) (LH.ret ?_)))
   obtain rfl:=oI h
   exact aN (aT Tryz.results25) (cN R bd bW bf R R (bO R (bL ⟨aM mN,R,aX R,(Sub.cV (aI (aI bm)))⟩)))
  replace MU:=bF MU
  replace h:=aA h MU
  by_cases MV:(p1.Kind == 2)=true
  ·replace h:=aB h MV
   refine LH.cO mixed [] [2,0,0,3,0,0,0,0,0] [(2,.ag [.al 5 (p0.aa.map ak.lv)]),(3,.ag (ax.lv p1).cells),(4,.ptr 104 0),(6,.fn 58 []),(7,.bool true)] [(104,.box [.nil])] R R (by kernel_rfl) (yh (dX (args:=[]) (ml:=[]) (cQ:=[(10301,.map 3 78 (dO LV.I bu ba))]) R qW R bm (y7 (F:=F) (r:=ba) R) mN (lI R bU) R (aD (aw dM aE bb R R R ⟨R,aD (bh R aE bN ⟨R,mX (eO (f:=LV.I) (g:=bu) (xs:=ba) (key:=2) (z:=0) (o:=some 2) lN lF u7 R R (congrArg LV.I (eq_of_beq MV)) qa R) (JK R (aD (fV R R ⟨R,aD (fV R R ⟨R,M5 R (L6 R zM)⟩)⟩)))⟩)⟩)))) (LH.seq (LH.aj [(2,.ag [.al 5 (p0.aa.map ak.lv)]),(3,.ag (ax.lv p1).cells),(4,.ptr 104 0),(6,.fn 58 []),(22,.bool false)] [(104,.box [.nil])] R (bM R (sN (ic R zS))) (LH.cond (t:=false) R (fun uh=>?_) (fun uh=>?_))))
   ·cases uh
   refine LH.skip (au ?_)
   obtain ⟨dG,qu,h⟩:=ao h
   refine LH.aj [(3,.ag (ax.lv p1).cells),(4,.ptr 104 0),(6,.fn 58 []),(8,.ptr 811 0)] [(104,.box [.nil]),(811,.box [.arr 812 dG.aa.length]),(812,cC (dG.aa.map ak.lv))] R (sN (bc R bd bW bf R R (sN (dX (args:=[.agg [.al 5 (p0.aa.map ak.lv)]]) (ml:=[]) (cQ:=[(812,cC (dG.aa.map ak.lv))]) R u5 R (aI bm) (DI qu) mN (lI R bU) R (sX (o3 711 R dH R R) (s_ (cF R R R bd bf R R R zS))))))) (LH.seq ?_)
   obtain ⟨cm,kr,h⟩:=ao h
   refine LH.aj [(4,.ptr 104 0),(8,.ptr 811 0),(9,.I cm.1)] [(104,.box [.nil]),(811,.box [.arr 812 cm.2.aa.length]),(812,cC (cm.2.aa.map ak.lv))] R (sN (oM (v:=(.fn _ _)) R (sN (bc R eo iX dF R R (sN (dX (args:=[.ptr 811 0,ax.lv p1]) (ml:=[(811,.box [.arr 812 dG.aa.length]),(812,cC (dG.aa.map ak.lv))]) (cQ:=[(811,.box [.arr 812 cm.2.aa.length]),(812,cC (cm.2.aa.map ak.lv))]) R Jz R (aI (aI bm)) (J3 kr) ⟨R,R,trivial⟩ (bT R (bT R bU)) R (bt R zS))))))) (LH.aj [(4,.ptr 104 0),(8,.ptr 811 0),(9,.I cm.1),(30,.bool (cm.1 != 0))] [(104,.box [.nil]),(811,.box [.arr 812 cm.2.aa.length]),(812,cC (cm.2.aa.map ak.lv))] R (br R (sN (iR R R zS))) (LH.cond (t:=(cm.1 != 0)) R (fun gh=>?_) (fun gh=>?_)))
   ·replace h:=aB h gh
    refine LH.aj [(4,.ag [.nil]),(5,.I cm.1)] [] R (sN (fU (vs:=[]) iB dH R fT (br R (s_ (cF R R R bd bf R R R (bt R (s0 ((Wk.trans (aQ [(4,.ptr 104 0),(5,.I cm.1)] [(104,.box [.nil])]) (Wk.trans (Wk.bk 104 [.nil] R R R (bH R)) (Wk.eq R R R R))))))))))) (LH.ret (aU ?_))
    obtain rfl:=oI h
    exact aN (aT Tryz.results25) (cN R bd bW bf R R (bO R (bL ⟨aM mN,R,aX R,(Sub.cV (lj (Sub.agg (qC bm)) (aI bm)))⟩)))
   replace h:=aA h gh
   refine LH.skip (au (LH.aj [(4,.ag [.al 5 (cm.2.aa.map ak.lv)]),(5,.I 0)] [] R (cH.wk (aQ [(4,.ptr 104 0),(8,.ptr 811 0)] [(104,.box [.nil]),(811,.box [.arr 812 cm.2.aa.length]),(812,cC (cm.2.aa.map ak.lv))]) (cH.wk (Wk.trans (Wk.trans (Wk.ny (f:=ak.lv) 812 49 5 [(1,54,5),(2,4,1),(3,88,3)] cm.2.aa R ak.ok) (aQ [(4,.ptr 104 0),(8,.ptr 811 0)] [(104,.box [.nil]),(811,.box [.arr 812 cm.2.aa.length]),(812,.arr 49 5 (cm.2.aa.map ak.lv))])) (Wk.trans (Wk.fl (f:=ak.lv) 812 49 5 cm.2.aa 811 R R R (jm jl) R R (bH R)) (aQ [(4,.ptr 104 0),(8,.ptr 811 0)] [(104,.box [.nil]),(811,.box [.al 5 (cm.2.aa.map ak.lv)])]))) (sN (lJ R R R bd bW bf R R (s_ (cF R R R bd bf R R R (bt R (s0 ((Wk.trans (aQ [(4,.ptr 104 0),(5,.I 0)] [(104,.box [.al 5 (cm.2.aa.map ak.lv)])]) (Wk.trans (Wk.bk 104 [.al 5 (cm.2.aa.map ak.lv)] R R R (bH R)) (Wk.eq R R R R)))))))))))) (LH.ret ?_)))
   obtain rfl:=oI h
   exact aN (aT Tryz.results25) (cN R bd bW bf R R (bO R (bL ⟨aM mN,R,aX R,(Sub.cV (aI (aI bm)))⟩)))
  replace MV:=bF MV
  replace h:=aA h MV
  by_cases C9:(p1.Kind == 3)=true
  ·replace h:=aB h C9
   refine LH.cO mixed [] [2,0,0,3,0,0,0,0,0] [(2,.ag [.al 5 (p0.aa.map ak.lv)]),(3,.ag (ax.lv p1).cells),(4,.ptr 104 0),(6,.fn 59 []),(7,.bool true)] [(104,.box [.nil])] R R (by kernel_rfl) (yh (dX (args:=[]) (ml:=[]) (cQ:=[(10301,.map 3 78 (dO LV.I bu ba))]) R qW R bm (y7 (F:=F) (r:=ba) R) mN (lI R bU) R (aD (aw dM aE bb R R R ⟨R,aD (bh R aE bN ⟨R,mX (eO (f:=LV.I) (g:=bu) (xs:=ba) (key:=3) (z:=0) (o:=some 3) lN lF u7 R R (congrArg LV.I (eq_of_beq C9)) qa R) (JK R (aD (fV R R ⟨R,aD (fV R R ⟨R,M5 R (L6 R zM)⟩)⟩)))⟩)⟩)))) (LH.seq (LH.aj [(2,.ag [.al 5 (p0.aa.map ak.lv)]),(3,.ag (ax.lv p1).cells),(4,.ptr 104 0),(6,.fn 59 []),(22,.bool false)] [(104,.box [.nil])] R (bM R (sN (ic R zS))) (LH.cond (t:=false) R (fun pI=>?_) (fun pI=>?_))))
   ·cases pI
   refine LH.skip (au ?_)
   obtain ⟨fD,td,h⟩:=ao h
   refine LH.aj [(3,.ag (ax.lv p1).cells),(4,.ptr 104 0),(6,.fn 59 []),(8,.ptr 811 0)] [(104,.box [.nil]),(811,.box [.arr 812 fD.aa.length]),(812,cC (fD.aa.map ak.lv))] R (sN (bc R bd bW bf R R (sN (dX (args:=[.agg [.al 5 (p0.aa.map ak.lv)]]) (ml:=[]) (cQ:=[(812,cC (fD.aa.map ak.lv))]) R u5 R (aI bm) (DI td) mN (lI R bU) R (sX (o3 711 R dH R R) (s_ (cF R R R bd bf R R R zS))))))) (LH.seq ?_)
   obtain ⟨fW,Fu,h⟩:=ao h
   refine LH.aj [(4,.ptr 104 0),(8,.ptr 811 0),(9,.I fW.1)] [(104,.box [.nil]),(811,.box [.arr 812 fW.2.aa.length]),(812,cC (fW.2.aa.map ak.lv))] R (sN (oM (v:=(.fn _ _)) R (sN (bc R eo iX dF R R (sN (dX (args:=[.ptr 811 0,ax.lv p1]) (ml:=[(811,.box [.arr 812 fD.aa.length]),(812,cC (fD.aa.map ak.lv))]) (cQ:=[(811,.box [.arr 812 fW.2.aa.length]),(812,cC (fW.2.aa.map ak.lv))]) R JA R (aI (aI bm)) (J0 Fu) ⟨R,R,trivial⟩ (bT R (bT R bU)) R (bt R zS))))))) (LH.aj [(4,.ptr 104 0),(8,.ptr 811 0),(9,.I fW.1),(30,.bool (fW.1 != 0))] [(104,.box [.nil]),(811,.box [.arr 812 fW.2.aa.length]),(812,cC (fW.2.aa.map ak.lv))] R (br R (sN (iR R R zS))) (LH.cond (t:=(fW.1 != 0)) R (fun kl=>?_) (fun kl=>?_)))
   ·replace h:=aB h kl
    refine LH.aj [(4,.ag [.nil]),(5,.I fW.1)] [] R (sN (fU (vs:=[]) iB dH R fT (br R (s_ (cF R R R bd bf R R R (bt R (s0 ((Wk.trans (aQ [(4,.ptr 104 0),(5,.I fW.1)] [(104,.box [.nil])]) (Wk.trans (Wk.bk 104 [.nil] R R R (bH R)) (Wk.eq R R R R))))))))))) (LH.ret (aU ?_))
    obtain rfl:=oI h
    exact aN (aT Tryz.results25) (cN R bd bW bf R R (bO R (bL ⟨aM mN,R,aX R,(Sub.cV (lj (Sub.agg (qC bm)) (aI bm)))⟩)))
   replace h:=aA h kl
   refine LH.skip (au (LH.aj [(4,.ag [.al 5 (fW.2.aa.map ak.lv)]),(5,.I 0)] [] R (cH.wk (aQ [(4,.ptr 104 0),(8,.ptr 811 0)] [(104,.box [.nil]),(811,.box [.arr 812 fW.2.aa.length]),(812,cC (fW.2.aa.map ak.lv))]) (cH.wk (Wk.trans (Wk.trans (Wk.ny (f:=ak.lv) 812 49 5 [(1,54,5),(2,4,1),(3,88,3)] fW.2.aa R ak.ok) (aQ [(4,.ptr 104 0),(8,.ptr 811 0)] [(104,.box [.nil]),(811,.box [.arr 812 fW.2.aa.length]),(812,.arr 49 5 (fW.2.aa.map ak.lv))])) (Wk.trans (Wk.fl (f:=ak.lv) 812 49 5 fW.2.aa 811 R R R (jm jl) R R (bH R)) (aQ [(4,.ptr 104 0),(8,.ptr 811 0)] [(104,.box [.nil]),(811,.box [.al 5 (fW.2.aa.map ak.lv)])]))) (sN (lJ R R R bd bW bf R R (s_ (cF R R R bd bf R R R (bt R (s0 ((Wk.trans (aQ [(4,.ptr 104 0),(5,.I 0)] [(104,.box [.al 5 (fW.2.aa.map ak.lv)])]) (Wk.trans (Wk.bk 104 [.al 5 (fW.2.aa.map ak.lv)] R R R (bH R)) (Wk.eq R R R R)))))))))))) (LH.ret ?_)))
   obtain rfl:=oI h
   exact aN (aT Tryz.results25) (cN R bd bW bf R R (bO R (bL ⟨aM mN,R,aX R,(Sub.cV (aI (aI bm)))⟩)))
  replace C9:=bF C9
  replace h:=aA h C9
  by_cases Db:(p1.Kind == 4)=true
  ·replace h:=aB h Db
   refine LH.cO mixed [] [2,0,0,3,0,0,0,0,0] [(2,.ag [.al 5 (p0.aa.map ak.lv)]),(3,.ag (ax.lv p1).cells),(4,.ptr 104 0),(6,.fn 60 []),(7,.bool true)] [(104,.box [.nil])] R R (by kernel_rfl) (yh (dX (args:=[]) (ml:=[]) (cQ:=[(10301,.map 3 78 (dO LV.I bu ba))]) R qW R bm (y7 (F:=F) (r:=ba) R) mN (lI R bU) R (aD (aw dM aE bb R R R ⟨R,aD (bh R aE bN ⟨R,mX (eO (f:=LV.I) (g:=bu) (xs:=ba) (key:=4) (z:=0) (o:=some 4) lN lF u7 R R (congrArg LV.I (eq_of_beq Db)) qa R) (JK R (aD (fV R R ⟨R,aD (fV R R ⟨R,M5 R (L6 R zM)⟩)⟩)))⟩)⟩)))) (LH.seq (LH.aj [(2,.ag [.al 5 (p0.aa.map ak.lv)]),(3,.ag (ax.lv p1).cells),(4,.ptr 104 0),(6,.fn 60 []),(22,.bool false)] [(104,.box [.nil])] R (bM R (sN (ic R zS))) (LH.cond (t:=false) R (fun pJ=>?_) (fun pJ=>?_))))
   ·cases pJ
   refine LH.skip (au ?_)
   obtain ⟨En,Lm,h⟩:=ao h
   refine LH.aj [(3,.ag (ax.lv p1).cells),(4,.ptr 104 0),(6,.fn 60 []),(8,.ptr 811 0)] [(104,.box [.nil]),(811,.box [.arr 812 En.aa.length]),(812,cC (En.aa.map ak.lv))] R (sN (bc R bd bW bf R R (sN (dX (args:=[.agg [.al 5 (p0.aa.map ak.lv)]]) (ml:=[]) (cQ:=[(812,cC (En.aa.map ak.lv))]) R u5 R (aI bm) (DI Lm) mN (lI R bU) R (sX (o3 711 R dH R R) (s_ (cF R R R bd bf R R R zS))))))) (LH.seq ?_)
   obtain ⟨eS,wo,h⟩:=ao h
   refine LH.aj [(4,.ptr 104 0),(8,.ptr 811 0),(9,.I eS.1)] [(104,.box [.nil]),(811,.box [.arr 812 eS.2.aa.length]),(812,cC (eS.2.aa.map ak.lv))] R (sN (oM (v:=(.fn _ _)) R (sN (bc R eo iX dF R R (sN (dX (args:=[.ptr 811 0,ax.lv p1]) (ml:=[(811,.box [.arr 812 En.aa.length]),(812,cC (En.aa.map ak.lv))]) (cQ:=[(811,.box [.arr 812 eS.2.aa.length]),(812,cC (eS.2.aa.map ak.lv))]) R JB R (aI (aI bm)) (Kb wo) ⟨R,R,trivial⟩ (bT R (bT R bU)) R (bt R zS))))))) (LH.aj [(4,.ptr 104 0),(8,.ptr 811 0),(9,.I eS.1),(30,.bool (eS.1 != 0))] [(104,.box [.nil]),(811,.box [.arr 812 eS.2.aa.length]),(812,cC (eS.2.aa.map ak.lv))] R (br R (sN (iR R R zS))) (LH.cond (t:=(eS.1 != 0)) R (fun ko=>?_) (fun ko=>?_)))
   ·replace h:=aB h ko
    refine LH.aj [(4,.ag [.nil]),(5,.I eS.1)] [] R (sN (fU (vs:=[]) iB dH R fT (br R (s_ (cF R R R bd bf R R R (bt R (s0 ((Wk.trans (aQ [(4,.ptr 104 0),(5,.I eS.1)] [(104,.box [.nil])]) (Wk.trans (Wk.bk 104 [.nil] R R R (bH R)) (Wk.eq R R R R))))))))))) (LH.ret (aU ?_))
    obtain rfl:=oI h
    exact aN (aT Tryz.results25) (cN R bd bW bf R R (bO R (bL ⟨aM mN,R,aX R,(Sub.cV (lj (Sub.agg (qC bm)) (aI bm)))⟩)))
   replace h:=aA h ko
   refine LH.skip (au (LH.aj [(4,.ag [.al 5 (eS.2.aa.map ak.lv)]),(5,.I 0)] [] R (cH.wk (aQ [(4,.ptr 104 0),(8,.ptr 811 0)] [(104,.box [.nil]),(811,.box [.arr 812 eS.2.aa.length]),(812,cC (eS.2.aa.map ak.lv))]) (cH.wk (Wk.trans (Wk.trans (Wk.ny (f:=ak.lv) 812 49 5 [(1,54,5),(2,4,1),(3,88,3)] eS.2.aa R ak.ok) (aQ [(4,.ptr 104 0),(8,.ptr 811 0)] [(104,.box [.nil]),(811,.box [.arr 812 eS.2.aa.length]),(812,.arr 49 5 (eS.2.aa.map ak.lv))])) (Wk.trans (Wk.fl (f:=ak.lv) 812 49 5 eS.2.aa 811 R R R (jm jl) R R (bH R)) (aQ [(4,.ptr 104 0),(8,.ptr 811 0)] [(104,.box [.nil]),(811,.box [.al 5 (eS.2.aa.map ak.lv)])]))) (sN (lJ R R R bd bW bf R R (s_ (cF R R R bd bf R R R (bt R (s0 ((Wk.trans (aQ [(4,.ptr 104 0),(5,.I 0)] [(104,.box [.al 5 (eS.2.aa.map ak.lv)])]) (Wk.trans (Wk.bk 104 [.al 5 (eS.2.aa.map ak.lv)] R R R (bH R)) (Wk.eq R R R R)))))))))))) (LH.ret ?_)))
   obtain rfl:=oI h
   exact aN (aT Tryz.results25) (cN R bd bW bf R R (bO R (bL ⟨aM mN,R,aX R,(Sub.cV (aI (aI bm)))⟩)))
  replace Db:=bF Db
  replace h:=aA h Db
  by_cases Dd:(p1.Kind == 5)=true
  ·replace h:=aB h Dd
   refine LH.cO mixed [] [2,0,0,3,0,0,0,0,0] [(2,.ag [.al 5 (p0.aa.map ak.lv)]),(3,.ag (ax.lv p1).cells),(4,.ptr 104 0),(6,.fn 81 [.ag [.bool true]]),(7,.bool true)] [(104,.box [.nil])] R R (by kernel_rfl) (yh (dX (args:=[]) (ml:=[]) (cQ:=[(10301,.map 3 78 (dO LV.I bu ba))]) R qW R bm (y7 (F:=F) (r:=ba) R) mN (lI R bU) R (aD (aw dM aE bb R R R ⟨R,aD (bh R aE bN ⟨R,mX (eO (f:=LV.I) (g:=bu) (xs:=ba) (key:=5) (z:=0) (o:=some 5) lN lF u7 R R (congrArg LV.I (eq_of_beq Dd)) qa R) (JK R (aD (fV R R ⟨R,aD (fV R R ⟨R,M5 R (L6 R zM)⟩)⟩)))⟩)⟩)))) (LH.seq (LH.aj [(2,.ag [.al 5 (p0.aa.map ak.lv)]),(3,.ag (ax.lv p1).cells),(4,.ptr 104 0),(6,.fn 81 [.ag [.bool true]]),(22,.bool false)] [(104,.box [.nil])] R (bM R (sN (ic R zS))) (LH.cond (t:=false) R (fun uA=>?_) (fun uA=>?_))))
   ·cases uA
   refine LH.skip (au ?_)
   obtain ⟨qy,Lo,h⟩:=ao h
   refine LH.aj [(3,.ag (ax.lv p1).cells),(4,.ptr 104 0),(6,.fn 81 [.ag [.bool true]]),(8,.ptr 811 0)] [(104,.box [.nil]),(811,.box [.arr 812 qy.aa.length]),(812,cC (qy.aa.map ak.lv))] R (sN (bc R bd bW bf R R (sN (dX (args:=[.agg [.al 5 (p0.aa.map ak.lv)]]) (ml:=[]) (cQ:=[(812,cC (qy.aa.map ak.lv))]) R u5 R (aI bm) (DI Lo) mN (lI R bU) R (sX (o3 711 R dH R R) (s_ (cF R R R bd bf R R R zS))))))) (LH.seq ?_)
   obtain ⟨jA,Lp,h⟩:=ao h
   refine LH.aj [(4,.ptr 104 0),(8,.ptr 811 0),(9,.I jA.1)] [(104,.box [.nil]),(811,.box [.arr 812 jA.2.aa.length]),(812,cC (jA.2.aa.map ak.lv))] R (sN (oM (v:=(.fn _ _)) R (sN (bc R eo iX dF R R (sN (dX (args:=[.ptr 811 0,ax.lv p1,.ag [.bool true]]) (ml:=[(811,.box [.arr 812 qy.aa.length]),(812,cC (qy.aa.map ak.lv))]) (cQ:=[(811,.box [.arr 812 jA.2.aa.length]),(812,cC (jA.2.aa.map ak.lv))]) R Ca R (aI (aI (aI bm))) (Iz Lp) ⟨R,R,trivial⟩ (bT R (bT R bU)) R (bt R zS))))))) (LH.aj [(4,.ptr 104 0),(8,.ptr 811 0),(9,.I jA.1),(30,.bool (jA.1 != 0))] [(104,.box [.nil]),(811,.box [.arr 812 jA.2.aa.length]),(812,cC (jA.2.aa.map ak.lv))] R (br R (sN (iR R R zS))) (LH.cond (t:=(jA.1 != 0)) R (fun sP=>?_) (fun sP=>?_)))
   ·replace h:=aB h sP
    refine LH.aj [(4,.ag [.nil]),(5,.I jA.1)] [] R (sN (fU (vs:=[]) iB dH R fT (br R (s_ (cF R R R bd bf R R R (bt R (s0 ((Wk.trans (aQ [(4,.ptr 104 0),(5,.I jA.1)] [(104,.box [.nil])]) (Wk.trans (Wk.bk 104 [.nil] R R R (bH R)) (Wk.eq R R R R))))))))))) (LH.ret (aU ?_))
    obtain rfl:=oI h
    exact aN (aT Tryz.results25) (cN R bd bW bf R R (bO R (bL ⟨aM mN,R,aX R,(Sub.cV (lj (Sub.agg (qC bm)) (aI bm)))⟩)))
   replace h:=aA h sP
   refine LH.skip (au (LH.aj [(4,.ag [.al 5 (jA.2.aa.map ak.lv)]),(5,.I 0)] [] R (cH.wk (aQ [(4,.ptr 104 0),(8,.ptr 811 0)] [(104,.box [.nil]),(811,.box [.arr 812 jA.2.aa.length]),(812,cC (jA.2.aa.map ak.lv))]) (cH.wk (Wk.trans (Wk.trans (Wk.ny (f:=ak.lv) 812 49 5 [(1,54,5),(2,4,1),(3,88,3)] jA.2.aa R ak.ok) (aQ [(4,.ptr 104 0),(8,.ptr 811 0)] [(104,.box [.nil]),(811,.box [.arr 812 jA.2.aa.length]),(812,.arr 49 5 (jA.2.aa.map ak.lv))])) (Wk.trans (Wk.fl (f:=ak.lv) 812 49 5 jA.2.aa 811 R R R (jm jl) R R (bH R)) (aQ [(4,.ptr 104 0),(8,.ptr 811 0)] [(104,.box [.nil]),(811,.box [.al 5 (jA.2.aa.map ak.lv)])]))) (sN (lJ R R R bd bW bf R R (s_ (cF R R R bd bf R R R (bt R (s0 ((Wk.trans (aQ [(4,.ptr 104 0),(5,.I 0)] [(104,.box [.al 5 (jA.2.aa.map ak.lv)])]) (Wk.trans (Wk.bk 104 [.al 5 (jA.2.aa.map ak.lv)] R R R (bH R)) (Wk.eq R R R R)))))))))))) (LH.ret ?_)))
   obtain rfl:=oI h
   exact aN (aT Tryz.results25) (cN R bd bW bf R R (bO R (bL ⟨aM mN,R,aX R,(Sub.cV (aI (aI bm)))⟩)))
  replace Dd:=bF Dd
  replace h:=aA h Dd
  by_cases Df:(p1.Kind == 6)=true
  ·replace h:=aB h Df
   refine LH.cO mixed [] [2,0,0,3,0,0,0,0,0] [(2,.ag [.al 5 (p0.aa.map ak.lv)]),(3,.ag (ax.lv p1).cells),(4,.ptr 104 0),(6,.fn 81 [.ag [.bool false]]),(7,.bool true)] [(104,.box [.nil])] R R (by kernel_rfl) (yh (dX (args:=[]) (ml:=[]) (cQ:=[(10301,.map 3 78 (dO LV.I bu ba))]) R qW R bm (y7 (F:=F) (r:=ba) R) mN (lI R bU) R (aD (aw dM aE bb R R R ⟨R,aD (bh R aE bN ⟨R,mX (eO (f:=LV.I) (g:=bu) (xs:=ba) (key:=6) (z:=0) (o:=some 6) lN lF u7 R R (congrArg LV.I (eq_of_beq Df)) qa R) (JK R (aD (fV R R ⟨R,aD (fV R R ⟨R,M5 R (L6 R zM)⟩)⟩)))⟩)⟩)))) (LH.seq (LH.aj [(2,.ag [.al 5 (p0.aa.map ak.lv)]),(3,.ag (ax.lv p1).cells),(4,.ptr 104 0),(6,.fn 81 [.ag [.bool false]]),(22,.bool false)] [(104,.box [.nil])] R (bM R (sN (ic R zS))) (LH.cond (t:=false) R (fun C1=>?_) (fun C1=>?_))))
   ·cases C1
   refine LH.skip (au ?_)
   obtain ⟨Mr,SS,h⟩:=ao h
   refine LH.aj [(3,.ag (ax.lv p1).cells),(4,.ptr 104 0),(6,.fn 81 [.ag [.bool false]]),(8,.ptr 811 0)] [(104,.box [.nil]),(811,.box [.arr 812 Mr.aa.length]),(812,cC (Mr.aa.map ak.lv))] R (sN (bc R bd bW bf R R (sN (dX (args:=[.agg [.al 5 (p0.aa.map ak.lv)]]) (ml:=[]) (cQ:=[(812,cC (Mr.aa.map ak.lv))]) R u5 R (aI bm) (DI SS) mN (lI R bU) R (sX (o3 711 R dH R R) (s_ (cF R R R bd bf R R R zS))))))) (LH.seq ?_)
   obtain ⟨cM,AP,h⟩:=ao h
   refine LH.aj [(4,.ptr 104 0),(8,.ptr 811 0),(9,.I cM.1)] [(104,.box [.nil]),(811,.box [.arr 812 cM.2.aa.length]),(812,cC (cM.2.aa.map ak.lv))] R (sN (oM (v:=(.fn _ _)) R (sN (bc R eo iX dF R R (sN (dX (args:=[.ptr 811 0,ax.lv p1,.ag [.bool false]]) (ml:=[(811,.box [.arr 812 Mr.aa.length]),(812,cC (Mr.aa.map ak.lv))]) (cQ:=[(811,.box [.arr 812 cM.2.aa.length]),(812,cC (cM.2.aa.map ak.lv))]) R Ca R (aI (aI (aI bm))) (Iz AP) ⟨R,R,trivial⟩ (bT R (bT R bU)) R (bt R zS))))))) (LH.aj [(4,.ptr 104 0),(8,.ptr 811 0),(9,.I cM.1),(30,.bool (cM.1 != 0))] [(104,.box [.nil]),(811,.box [.arr 812 cM.2.aa.length]),(812,cC (cM.2.aa.map ak.lv))] R (br R (sN (iR R R zS))) (LH.cond (t:=(cM.1 != 0)) R (fun sQ=>?_) (fun sQ=>?_)))
   ·replace h:=aB h sQ
    refine LH.aj [(4,.ag [.nil]),(5,.I cM.1)] [] R (sN (fU (vs:=[]) iB dH R fT (br R (s_ (cF R R R bd bf R R R (bt R (s0 ((Wk.trans (aQ [(4,.ptr 104 0),(5,.I cM.1)] [(104,.box [.nil])]) (Wk.trans (Wk.bk 104 [.nil] R R R (bH R)) (Wk.eq R R R R))))))))))) (LH.ret (aU ?_))
    obtain rfl:=oI h
    exact aN (aT Tryz.results25) (cN R bd bW bf R R (bO R (bL ⟨aM mN,R,aX R,(Sub.cV (lj (Sub.agg (qC bm)) (aI bm)))⟩)))
   replace h:=aA h sQ
   refine LH.skip (au (LH.aj [(4,.ag [.al 5 (cM.2.aa.map ak.lv)]),(5,.I 0)] [] R (cH.wk (aQ [(4,.ptr 104 0),(8,.ptr 811 0)] [(104,.box [.nil]),(811,.box [.arr 812 cM.2.aa.length]),(812,cC (cM.2.aa.map ak.lv))]) (cH.wk (Wk.trans (Wk.trans (Wk.ny (f:=ak.lv) 812 49 5 [(1,54,5),(2,4,1),(3,88,3)] cM.2.aa R ak.ok) (aQ [(4,.ptr 104 0),(8,.ptr 811 0)] [(104,.box [.nil]),(811,.box [.arr 812 cM.2.aa.length]),(812,.arr 49 5 (cM.2.aa.map ak.lv))])) (Wk.trans (Wk.fl (f:=ak.lv) 812 49 5 cM.2.aa 811 R R R (jm jl) R R (bH R)) (aQ [(4,.ptr 104 0),(8,.ptr 811 0)] [(104,.box [.nil]),(811,.box [.al 5 (cM.2.aa.map ak.lv)])]))) (sN (lJ R R R bd bW bf R R (s_ (cF R R R bd bf R R R (bt R (s0 ((Wk.trans (aQ [(4,.ptr 104 0),(5,.I 0)] [(104,.box [.al 5 (cM.2.aa.map ak.lv)])]) (Wk.trans (Wk.bk 104 [.al 5 (cM.2.aa.map ak.lv)] R R R (bH R)) (Wk.eq R R R R)))))))))))) (LH.ret ?_)))
   obtain rfl:=oI h
   exact aN (aT Tryz.results25) (cN R bd bW bf R R (bO R (bL ⟨aM mN,R,aX R,(Sub.cV (aI (aI bm)))⟩)))
  replace Df:=bF Df
  replace h:=aA h Df
  refine LH.cO mixed [] [2,0,0,3,0,0,0,0,0] [(2,.ag [.al 5 (p0.aa.map ak.lv)]),(3,.ag (ax.lv p1).cells),(4,.ptr 104 0),(6,.k5),(7,.bool false)] [(104,.box [.nil])] R R (by kernel_rfl) (yh (dX (args:=[]) (ml:=[]) (cQ:=[(10301,.map 3 78 (dO LV.I bu ba))]) R qW R bm (y7 (F:=F) (r:=ba) R) mN (lI R bU) R (aD (aw dM aE bb R R R ⟨R,aD (bh R aE bN ⟨R,mX (eO (f:=LV.I) (g:=bu) (xs:=ba) (key:=p1.Kind) (z:=0) (o:=none) lN lF u7 R R R qa (Em MU (Em MV (Em C9 (Em Db (Em Dd (Em Df R))))))) (JK R (aD (fV R R ⟨R,aD (fV R R ⟨R,aD (oA (v:=.k5) R ⟨R,L6 R zM⟩)⟩)⟩)))⟩)⟩)))) (LH.seq (LH.aj [(2,.ag [.al 5 (p0.aa.map ak.lv)]),(3,.ag (ax.lv p1).cells),(4,.ptr 104 0),(6,.k5),(22,.bool true)] [(104,.box [.nil])] R (bM R (sN (ic R zS))) (LH.cond (t:=true) R (fun NG=>?_) (fun NG=>?_))))
  ·refine LH.aj [(4,.ag [.nil]),(5,.I 2)] [] R (sN (fU (vs:=[]) iB dH R fT (s_ (cF R R R bd bf R R R (bt R (s0 ((Wk.trans (aQ [(4,.ptr 104 0),(5,.I 2)] [(104,.box [.nil])]) (Wk.trans (Wk.bk 104 [.nil] R R R (bH R)) (Wk.eq R R R R)))))))))) (LH.ret (aU ?_))
   obtain rfl:=oI h
   exact aN (aT Tryz.results25) (cN R bd bW bf R R (bO R (bL ⟨aM mN,R,aX R,(Sub.cV (lj (Sub.agg (qC bm)) (aI bm)))⟩)))
  ·cases NG
theorem Vd {F:Nat} {p0:List Int} {r:Bool} (h:Cn F p0=some r):aO Tryz.prog 6 [.L p0] (Mem.of []) (.bool r) (Mem.of []):=by
  unfold Cn at h
  refine bx Tryz.func6 R (nT Tryz.ntmps6 R) (LH.wk (aQ [(0,.L p0)] []) (LH.aj [(0,.L p0)] [] R (ct R zS) ?_))
  obtain ⟨r1,ei,h⟩:=ao h
  refine LH.aj [(3,.ptr 7 0)] [(7,.box [.L r1.L,.I r1.At])] R (fh R (sN (dX (args:=[.L p0]) (ml:=[]) (cQ:=[(7,.box [.L r1.L,.I r1.At])]) R TN R (aI bm) (QI ei) mN (lI R bU) R (T6 R zS)))) ?_
  obtain ⟨r2,fH,h⟩:=ao h
  refine LH.aj [(3,.ptr 7 0),(4,.ag [.al 5 (r2.1.aa.map ak.lv)])] [(7,.box [.L r2.2.L,.I r2.2.At])] R (ig R (sN (dX (args:=[.ptr 7 0,.I 10]) (ml:=[(7,.box [.L r1.L,.I r1.At])]) (cQ:=[(7,.box [.L r2.2.L,.I r2.2.At])]) R OT R (aI (aI bm)) (RQ fH) (mC R mN) (bT R bU) R (sN (j0 (id:=104) R dH R R (s_ (cF R R R bd bf R R R (s0 ((Wk.trans (aQ [(3,.ptr 7 0),(4,.ptr 104 0)] [(7,.box [.L r2.2.L,.I r2.2.At]),(104,.box [.al 5 (r2.1.aa.map ak.lv)])]) (Wk.trans (Wk.bk 104 [.al 5 (r2.1.aa.map ak.lv)] R R R (bH R)) (Wk.eq R R R R)))))))))))) ?_
  obtain ⟨r3,ot,h⟩:=ao h
  refine LH.aj [(4,.ag [.al 5 (r2.1.aa.map ak.lv)]),(5,.al 12 (r3.1.map ax.lv))] [] R (ig R (sN (dX (args:=[.ptr 7 0,.I 6,.I 3]) (ml:=[(7,.box [.L r2.2.L,.I r2.2.At])]) (cQ:=[(7,.box [.L r3.2.L,.I r3.2.At])]) R Pr R (aI (aI (aI bm))) (Nb ot) (mC R mN) (bT R bU) R (qB R zS)))) (LH.seq (LH.aj [(4,.ag [.al 5 (r2.1.aa.map ak.lv)]),(5,.al 12 (r3.1.map ax.lv)),(19,.bool ((r3.1.length:Int) == 0))] [] R (fh R (sN (bV (f:=ax.lv) fR R (sN (gr R R zS))))) (LH.cond (t:=((r3.1.length:Int) == 0)) R (fun hT=>?_) (fun hT=>?_))))
  ·replace h:=aB h hT
   obtain ⟨r5,AQ,h⟩:=ao h
   refine LH.aj [(2,.bool r5)] [] R (sN (ej (args:=[]) R Jq R bm (J4 AQ) R (ct R zS))) (LH.ret (aU ?_))
   obtain rfl:=oI h
   exact aN (aT Tryz.results6) (bO R (bL ⟨aM mN,R,aX R,Sub.rfl⟩))
  replace h:=aA h hT
  refine LH.skip (au ?_)
  obtain ⟨x6,LP,h⟩:=ao h
  refine LH.aj [(4,.ag [.al 5 (r2.1.aa.map ak.lv)]),(6,.ag (ax.lv x6).cells)] [] R (fh R (fh R (sN (bV (f:=ax.lv) fR R (sN (iS R R (sN (eM (f:=ax.lv) fR eo dF R R ax.ok LP R (sN (bc R eo iX dF R R (sN (j0 (id:=106) R xg R R (s_ (cF R R R eo dF R R R (s0 ((Wk.trans (aQ [(4,.ag [.al 5 (r2.1.aa.map ak.lv)]),(6,.ptr 106 0)] [(106,.box (ax.lv x6).cells)]) (Wk.trans (Wk.bk 106 (ax.lv x6).cells R R R (bH R)) (Wk.eq R R R R))))))))))))))))))) ?_
  obtain ⟨r7,AR,h⟩:=ao h
  refine LH.aj [(4,.ag [.al 5 (r2.1.aa.map ak.lv)]),(6,.ag (ax.lv x6).cells),(7,.ag [.al 5 (r7.1.aa.map ak.lv)]),(8,.I r7.2)] [] R (sN (bc R bd bW bf R R (sN (bc R eo iX dF R R (sN (ej (args:=[.agg [.al 5 (r2.1.aa.map ak.lv)],ax.lv x6]) R OW R (aI (aI bm)) (Qy AR) R (wU R (sN (fV R R (sN (fV R R (sN (j0 (id:=107) R dH R R (s_ (cF R R R bd bf R R R (bt R (s0 ((Wk.trans (aQ [(4,.ag [.al 5 (r2.1.aa.map ak.lv)]),(6,.ag (ax.lv x6).cells),(7,.ptr 107 0),(8,.I r7.2)] [(107,.box [.al 5 (r7.1.aa.map ak.lv)])]) (Wk.trans (Wk.bk 107 [.al 5 (r7.1.aa.map ak.lv)] R R R (bH R)) (Wk.eq R R R R))))))))))))))))))))) ?_
  obtain ⟨r8,Lt,h⟩:=ao h
  refine LH.aj [(7,.ag [.al 5 (r7.1.aa.map ak.lv)]),(8,.I r7.2),(9,.ag [.al 5 (r8.1.aa.map ak.lv)]),(10,.I r8.2)] [] R (sN (bc R bd bW bf R R (sN (bc R eo iX dF R R (sN (ej (args:=[.agg [.al 5 (r2.1.aa.map ak.lv)],ax.lv x6]) R Jt R (aI (aI bm)) (Qu Lt) R (wU R (sN (fV R R (sN (fV R R (sN (j0 (id:=109) R dH R R (s_ (cF R R R bd bf R R R (bt R (s0 ((Wk.trans (aQ [(7,.ag [.al 5 (r7.1.aa.map ak.lv)]),(8,.I r7.2),(9,.ptr 109 0),(10,.I r8.2)] [(109,.box [.al 5 (r8.1.aa.map ak.lv)])]) (Wk.trans (Wk.bk 109 [.al 5 (r8.1.aa.map ak.lv)] R R R (bH R)) (Wk.eq R R R R))))))))))))))))))))) ?_
  obtain ⟨D9,hv,h⟩:=ao h
  refine LH.aj [(2,.bool D9)] [] R ?_ ?_
  ·refine sN (bc R bd bW bf R R (sN (bc R bd bW bf R R ?_)))
   obtain ⟨cm,kr,hv⟩:=ao hv
   refine sN (ej (args:=[.agg [.al 5 (r7.1.aa.map ak.lv)],.agg [.al 5 (r8.1.aa.map ak.lv)]]) R OS R (aI (aI bm)) (QA kr) R (bM R ?_))
   by_cases dt:cm=true
   ·replace hv:=aB hv dt
    refine sT R (cB dt) (oM (v:=(.int _ _)) R (sT R (cB dt) (oM (v:=(.int _ _)) R (sT R (cB dt) (gr R R (sN (aZ (cB dt) (v:=(.bool _)) R (bM R ?_))))))))
    by_cases bQ:(r7.2 == r8.2)=true
    ·replace hv:=aB hv bQ
     obtain ⟨e7,tc,hv⟩:=ao hv
     refine sT R (cB bQ) (ej (args:=[]) R Jq R bm (J4 tc) R (sN (aZ (cB bQ) (v:=(.bool _)) R (ct R ?_))))
     obtain rfl:=oI hv
     exact zS
    ·replace bQ:=bF bQ
     replace hv:=aA hv bQ
     refine sF R R bQ (sN (aW (cB bQ) (v:=(.bool _)) R (ct R ?_)))
     obtain rfl:=oI hv
     exact zS
   ·replace dt:=bF dt
    replace hv:=aA hv dt
    refine sF R R dt (sF R R dt (sF R R dt (sN (aW (cB dt) (v:=(.bool _)) R (bM R (sF R R R (sN (aW R (v:=(.bool _)) R (ct R ?_)))))))))
    obtain rfl:=oI hv
    exact zS
  clear hv
  refine LH.ret ?_
  obtain rfl:=oI h
  exact aN (aT Tryz.results6) (bO R (bL ⟨aM mN,R,aX R,Sub.rfl⟩))
end Go.Proofs.YtmollikhdbaikaaGreat
