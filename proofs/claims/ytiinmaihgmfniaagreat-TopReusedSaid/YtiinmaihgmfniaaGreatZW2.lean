import Derived.Test.YtiinmaihgmfniaaGreatZW1
set_option linter.unusedVariables false
set_option linter.unusedSimpArgs false
set_option maxRecDepth 100000
set_option maxHeartbeats 1000000
namespace Go.Proofs.YtiinmaihgmfniaaGreat
open Go.L Go.Sh
theorem Ue {F:Nat} {p0:List Int} {p1:List Int} {r:Bool} (h:Ap F p0 p1=some r):aF Tryz.prog 225 [.L p0,.L p1] (Mem.of []) (.bool r) (Mem.of []):=by
  unfold Ap at h
  refine bh Tryz.func225 R (nT Tryz.ntmps225 R) (LH.aj R (cr R zQ) (LH.seq (LH.aj R (dY R (sN (bW (f:=LV.I) bU R (dY R (sN (bW (f:=LV.I) bU R (sN (iC R R zQ)))))))) (LH.cond (t:=((p0.length:Int) != (p1.length:Int))) R (fun hc1=>?_) (fun hc1=>?_)))))
  ·replace h:=aB h hc1
   refine LH.aj R (cr R zQ) (LH.ret (aO ?_))
   obtain rfl:=oI h
   exact aJ (aT Tryz.results225) (bT R (bP ⟨aG mN,R,aN R,Sub.rfl⟩))
  replace h:=aA h hc1
  refine LH.skip (ai (LH.seq (LH.ax [(0,.L p0),(1,.L p1),(12,.I (p0.length:Int)),(13,.I 0)] [] R (dY R (sN (bW (f:=LV.I) bU R (aZ R zS)))) (LH.block (LH.loop (fun n e m=>∃ (n2:Int),Gm p0 p1 n n2=some r∧e=Env.of [(0,.L p0),(1,.L p1),(12,.I (p0.length:Int)),(13,.I n2)]∧m=Mem.of []) F ⟨0,h,R,R⟩ ?_)))))
  clear h
  rintro n e m ⟨n2,h,rfl,rfl⟩
  rcases n with _ | n
  · cases (show Option.none=some _ from h)
  obtain ⟨aH,aI⟩:∃ f,f=Gm p0 p1 n:=⟨_,rfl⟩
  replace h:JS p0 p1 aH n2=some r:=aI ▸ h
  unfold JS at h
  refine LH.aj R (sN (eG R R zQ)) (LH.seq (LH.cond (t:=(decide (n2<(p0.length:Int)))) R (fun fT=>?_) (fun fT=>?_)))
  ·replace h:=aB h fT
   refine LH.skip (ai (LH.seq (LH.block (LH.aj R (aZ R (br R zQ)) ?_))))
   obtain ⟨x4,zL,h⟩:=ae h
   obtain ⟨x5,nB,h⟩:=ae h
   refine LH.du mixed [] [0,0,0,0,0,0,0,0,0] [(0,.L p0),(1,.L p1),(12,.I (p0.length:Int)),(13,.I n2),(24,.bool (x4 != x5))] [] R R (by kernel_rfl) (vX R (iT R (aX (eF (f:=LV.I) bU aD aW R R jB zL R ⟨R,aX (bj R aD b5 ⟨R,vX R (iT R (aX (eF (f:=LV.I) bU aD aW R R jB nB R ⟨R,aX (bj R aD b5 ⟨R,aX (iC R R ⟨R,zM⟩)⟩)⟩)))⟩)⟩)))) (LH.cond (t:=(x4 != x5)) R (fun fY=>?_) (fun fY=>?_))
   ·replace h:=aB h fY
    refine LH.aj R (cr R zQ) (LH.ret (bH (aO (dg (bH (aO ?_))))))
    obtain rfl:=oI h
    exact aJ (aT Tryz.results225) (bT R (bP ⟨aG mN,R,aN R,Sub.rfl⟩))
   replace h:=aA h fY
   refine LH.skip (aQ (ai (LH.bd R (sN (b8 R R (aZ R zQ))) ?_)))
   exact a7 ⟨(i64 (n2+1)),aI ▸ h,R,R⟩ (Wk.eq R R R R)
  replace h:=aA h fT
  refine LH.exit (cg (bO (bK (ai (LH.aj R (cr R zQ) (LH.ret ?_))))))
  obtain rfl:=oI h
  exact aJ (aT Tryz.results225) (bT R (bP ⟨aG mN,R,aN R,Sub.rfl⟩))
theorem UQ {F:Nat} {p0:ab} {p1:ab} {r:Bool} (h:Bg F p0 p1=some r):aF Tryz.prog 211 [ab.lv p0,ab.lv p1] (Mem.of []) (.bool r) (Mem.of []):=by
  unfold Bg at h
  refine bh Tryz.func211 R (nT Tryz.ntmps211 R) (LH.aj R (sB (dm R R R R (sB (dm R R R R (cr R zQ))))) ?_)
  obtain ⟨w2,hv,h⟩:=ae h
  refine LH.ax [(4,.bool w2)] [] R ?_ ?_
  ·refine sN (aC dZ aD aW R R R (sN (bj R aD b5 (sN (aC dZ aD aW R R R (sN (bj R aD b5 (sN (iX R R (bZ R ?_))))))))))
   by_cases hb3:(p0.ID == p1.ID)=true
   ·replace hv:=aB hv hb3
    refine sT R (cB hb3) (aC gh aD aW R R R (sT R (cB hb3) (bj R aD b5 (sT R (cB hb3) (aC gh aD aW R R R (sT R (cB hb3) (bj R aD b5 (sT R (cB hb3) (iX R R (sN (aY (cB hb3) (v:=(.bool _)) R (bZ R ?_))))))))))))
    by_cases bY:(p0.Version == p1.Version)=true
    ·replace hv:=aB hv bY
     refine sT R (cB bY) (aC kN B8 Kw R R R (sT R (cB bY) (bj R B8 RK (sT R (cB bY) (aC kN B8 Kw R R R (sT R (cB bY) (bj R B8 RK (ZR R (cB bY) ((Jm R R).ok) (sN (aY (cB bY) (v:=(.bool _)) R (bZ R ?_)))))))))))
     by_cases eD:(decide (p0.cn=p1.cn))=true
     ·replace hv:=aB hv eD
      refine sT R (cB eD) (aC dA cE dP R R R (sT R (cB eD) (bj R cE gf (sT R (cB eD) (aC dA cE dP R R R (sT R (cB eD) (bj R cE gf ?_)))))))
      obtain ⟨r6,Ip,hv⟩:=ae hv
      refine sT R (cB eD) (dq (args:=[.lst 6 (p0.aK.map ag.lv),.lst 6 (p1.aK.map ag.lv)]) R Qk R (aw (aw bl)) (Uc Ip) R (sN (aY (cB eD) (v:=(.bool _)) R (bZ R ?_))))
      by_cases cI:r6=true
      ·replace hv:=aB hv cI
       refine sT R (cB cI) (aC hT cm dQ R R R (sT R (cB cI) (bj R cm eu (sT R (cB cI) (aC hT cm dQ R R R (sT R (cB cI) (bj R cm eu ?_)))))))
       obtain ⟨r8,O8,hv⟩:=ae hv
       refine sT R (cB cI) (dq (args:=[.L p0.aL,.L p1.aL]) R Ql R (aw (aw bl)) (Ue O8) R (sN (aY (cB cI) (v:=(.bool _)) R (cr R ?_))))
       obtain rfl:=oI hv
       exact zS
      ·replace cI:=bF cI
       replace hv:=aA hv cI
       refine sF R R cI (sF R R cI (sF R R cI (sF R R cI (sF R R cI (sN (bc (cB cI) (v:=(.bool _)) R (cr R ?_)))))))
       obtain rfl:=oI hv
       exact zS
     ·replace eD:=bF eD
      replace hv:=aA hv eD
      refine sF R R eD (sF R R eD (sF R R eD (sF R R eD (sF R R eD (sN (bc (cB eD) (v:=(.bool _)) R (bZ R (sF R R R (sF R R R (sF R R R (sF R R R (sF R R R (sN (bc R (v:=(.bool _)) R (cr R ?_)))))))))))))))
      obtain rfl:=oI hv
      exact zS
    ·replace bY:=bF bY
     replace hv:=aA hv bY
     refine sF R R bY (sF R R bY (sF R R bY (sF R R bY (sF R R bY (sN (bc (cB bY) (v:=(.bool _)) R (bZ R (sF R R R (sF R R R (sF R R R (sF R R R (sF R R R (sN (bc R (v:=(.bool _)) R (bZ R (sF R R R (sF R R R (sF R R R (sF R R R (sF R R R (sN (bc R (v:=(.bool _)) R (cr R ?_)))))))))))))))))))))))
     obtain rfl:=oI hv
     exact zS
   ·replace hb3:=bF hb3
    replace hv:=aA hv hb3
    refine sF R R hb3 (sF R R hb3 (sF R R hb3 (sF R R hb3 (sF R R hb3 (sN (bc (cB hb3) (v:=(.bool _)) R (bZ R (sF R R R (sF R R R (sF R R R (sF R R R (sF R R R (sN (bc R (v:=(.bool _)) R (bZ R (sF R R R (sF R R R (sF R R R (sF R R R (sF R R R (sN (bc R (v:=(.bool _)) R (bZ R (sF R R R (sF R R R (sF R R R (sF R R R (sF R R R (sN (bc R (v:=(.bool _)) R (cr R ?_)))))))))))))))))))))))))))))))
    obtain rfl:=oI hv
    exact zS
  clear hv
  refine LH.ret ?_
  obtain rfl:=oI h
  exact aJ (aT Tryz.results211) (bT R (bP ⟨aG mN,R,aN R,Sub.rfl⟩))
theorem U1 {F:Nat} {p0:ba} {p1:ba} {r:Bool} (h:jZ F p0 p1=some r):aF Tryz.prog 178 [ba.lv p0,ba.lv p1] (Mem.of []) (.bool r) (Mem.of []):=by
  unfold jZ at h
  refine bh Tryz.func178 R (nT Tryz.ntmps178 R) (LH.aj R (sB (dm R R R R (sB (dm R R R R (cr R zQ))))) ?_)
  obtain ⟨w2,hv,h⟩:=ae h
  refine LH.ax [(4,.bool w2)] [] R ?_ ?_
  ·refine sN (aC dE di dh R R R (sN (bw R di jX dh R R (sN (aC dE di dh R R R (sN (bw R di jX dh R R (sN (Qv R R (Ob p0.ak p1.ak) (bZ R ?_))))))))))
   by_cases hb3:(decide (p0.ak=p1.ak))=true
   ·replace hv:=aB hv hb3
    refine sT R (cB hb3) (aC dB aD aW R R R (sT R (cB hb3) (bj R aD b5 (sT R (cB hb3) (aC dB aD aW R R R (sT R (cB hb3) (bj R aD b5 (sT R (cB hb3) (iX R R (sN (aY (cB hb3) (v:=(.bool _)) R (bZ R ?_))))))))))))
    by_cases bY:(p0.Kind == p1.Kind)=true
    ·replace hv:=aB hv bY
     refine sT R (cB bY) (aC fI eA dW R R R (sT R (cB bY) (bw R eA o6 dW R R (sT R (cB bY) (aC fI eA dW R R R (sT R (cB bY) (bw R eA o6 dW R R (sT R (cB bY) (Qv R R (Mv p0.Ref p1.Ref) (sN (aY (cB bY) (v:=(.bool _)) R (bZ R ?_))))))))))))
     by_cases eD:(decide (p0.Ref=p1.Ref))=true
     ·replace hv:=aB hv eD
      refine sT R (cB eD) (aC mB aD aW R R R (sT R (cB eD) (bj R aD b5 (sT R (cB eD) (aC mB aD aW R R R (sT R (cB eD) (bj R aD b5 (sT R (cB eD) (iX R R (sN (aY (cB eD) (v:=(.bool _)) R (bZ R ?_))))))))))))
      by_cases bV:(p0.Form == p1.Form)=true
      ·replace hv:=aB hv bV
       refine sT R (cB bV) (aC fu bA bn R R R (sT R (cB bV) (bw R bA c7 bn R R (sT R (cB bV) (aC fu bA bn R R R (sT R (cB bV) (bw R bA c7 bn R R ?_)))))))
       obtain ⟨r7,CJ,hv⟩:=ae hv
       refine sT R (cB bV) (dq (args:=[ab.lv p0.Item,ab.lv p1.Item]) R Qd R (aw (aw bl)) (UQ CJ) R (sN (aY (cB bV) (v:=(.bool _)) R (cr R ?_))))
       obtain rfl:=oI hv
       exact zS
      ·replace bV:=bF bV
       replace hv:=aA hv bV
       refine sF R R bV (sF R R bV (sF R R bV (sF R R bV (sF R R bV (sN (bc (cB bV) (v:=(.bool _)) R (cr R ?_)))))))
       obtain rfl:=oI hv
       exact zS
     ·replace eD:=bF eD
      replace hv:=aA hv eD
      refine sF R R eD (sF R R eD (sF R R eD (sF R R eD (sF R R eD (sN (bc (cB eD) (v:=(.bool _)) R (bZ R (sF R R R (sF R R R (sF R R R (sF R R R (sF R R R (sN (bc R (v:=(.bool _)) R (cr R ?_)))))))))))))))
      obtain rfl:=oI hv
      exact zS
    ·replace bY:=bF bY
     replace hv:=aA hv bY
     refine sF R R bY (sF R R bY (sF R R bY (sF R R bY (sF R R bY (sN (bc (cB bY) (v:=(.bool _)) R (bZ R (sF R R R (sF R R R (sF R R R (sF R R R (sF R R R (sN (bc R (v:=(.bool _)) R (bZ R (sF R R R (sF R R R (sF R R R (sF R R R (sF R R R (sN (bc R (v:=(.bool _)) R (cr R ?_)))))))))))))))))))))))
     obtain rfl:=oI hv
     exact zS
   ·replace hb3:=bF hb3
    replace hv:=aA hv hb3
    refine sF R R hb3 (sF R R hb3 (sF R R hb3 (sF R R hb3 (sF R R hb3 (sN (bc (cB hb3) (v:=(.bool _)) R (bZ R (sF R R R (sF R R R (sF R R R (sF R R R (sF R R R (sN (bc R (v:=(.bool _)) R (bZ R (sF R R R (sF R R R (sF R R R (sF R R R (sF R R R (sN (bc R (v:=(.bool _)) R (bZ R (sF R R R (sF R R R (sF R R R (sF R R R (sF R R R (sN (bc R (v:=(.bool _)) R (cr R ?_)))))))))))))))))))))))))))))))
    obtain rfl:=oI hv
    exact zS
  clear hv
  refine LH.ret ?_
  obtain rfl:=oI h
  exact aJ (aT Tryz.results178) (bT R (bP ⟨aG mN,R,aN R,Sub.rfl⟩))
theorem AQ {p0:ab} {r:ab} (h:yE p0=some r):aF Tryz.prog 113 [ab.lv p0] (Mem.of []) (ab.lv r) (Mem.of []):=by
  unfold yE at h
  refine bh Tryz.func113 R (nT Tryz.ntmps113 R) (LH.aj R (sN (TS (id:=101) R R R R R R (sN (hD (id:=102) R jO R R zQ)))) ?_)
  obtain ⟨v1,iR,h⟩:=ae h
  refine LH.aj R (sN (fo dA cE dP R R (sN (dv R R R R cE gf (sN (dq (args:=[.lst 6 (p0.aK.map ag.lv)]) R PZ R (aw bl) (aF.Ea (lG (g:=ag.lv) Fv R 105 iR) R) R (sN (fo dA cE dP R R (s_ (cM R R R cE dP R R R zQ)))))))))) ?_
  obtain ⟨v2,hv2,h⟩:=ae h
  refine LH.ax [(1,.sptr [.I p0.ID,.I p0.Version,.str p0.cn,.lst 6 (v1.map ag.lv),.L v2]),(2,.ptr 102 0)] [(102,.box gQ)] R (sN (fo hT cm dQ R R (sN (dv R R R R cm eu (sN (dq (args:=[.L p0.aL]) R IX R (aw bl) (aF.Ea (lG (g:=LV.I) tw R 109 hv2) R) R (sN (fo hT cm dQ R R (s_ (cM R R R cm dQ R R R (s0 ((Wk.trans (bM [(1,.ptr 101 0),(2,.ptr 102 0)] [(101,.box [.I p0.ID,.I p0.Version,.str p0.cn,.lst 6 (v1.map ag.lv),.L v2]),(102,.box gQ)]) (Wk.trans (Wk.bD 101 [.I p0.ID,.I p0.Version,.str p0.cn,.lst 6 (v1.map ag.lv),.L v2] R R R (cc R)) (Wk.eq R R R R))))))))))))))) (LH.ax [(2,.sptr [.I p0.ID,.I p0.Version,.str p0.cn,.lst 6 (v1.map ag.lv),.L v2])] [] R (sN (bw R bA c7 bn R R (s_ (cM R R R bA bn R R R (s0 ((Wk.trans (bM [(2,.ptr 102 0)] [(102,.box [.I p0.ID,.I p0.Version,.str p0.cn,.lst 6 (v1.map ag.lv),.L v2])]) (Wk.trans (Wk.bD 102 [.I p0.ID,.I p0.Version,.str p0.cn,.lst 6 (v1.map ag.lv),.L v2] R R R (cc R)) (Wk.eq R R R R))))))))) (LH.ret ?_))
  obtain rfl:=oI h
  exact aJ (aT Tryz.results113) (dN R bA c7 bn R R (bP ⟨aG mN,R,aN R,Sub.rfl⟩))
theorem UH {F:Nat} {p0:List ba} {r:List ba × Int} (h:A7 F p0=some r):aF Tryz.prog 112 [.lst 12 (p0.map ba.lv)] (Mem.of []) (.tup [.lst 12 (r.1.map ba.lv),.I r.2]) (Mem.of []):=by
  unfold A7 at h
  refine bh Tryz.func112 R (nT Tryz.ntmps112 R) (LH.aj R (pU R (br R zQ)) ?_)
  obtain ⟨r1,dR,h⟩:=ae h
  refine LH.ax [(0,.lst 12 (p0.map ba.lv)),(4,.L r1.1),(5,.I r1.2)] [] R (dY R (sN (dq (args:=[.lst 12 (p0.map ba.lv),.fn 177 [],.fn 178 []]) R PW R (aw (aw (aw bl))) (T5 (cH:=177) (ca:=[]) PX R (fun _ _ h=>Us h) (eS:=178) (dH:=[]) PY R (fun _ _ _ h=>U1 h) dR) R (sE R (sN (fL R R (sN (fL R R (sD R (br R zS)))))))))) (LH.seq (LH.aj R (aZ R (sN (iC R R zQ))) (LH.cond (t:=(r1.2 != 0)) R (fun dI=>?_) (fun dI=>?_))))
  ·replace h:=aB h dI
   refine LH.aj R (aZ R (pU R (br R zQ))) (LH.ret (aO ?_))
   obtain rfl:=oI h
   exact aJ (aT Tryz.results112) (bT R (bT R (bP ⟨aG mN,R,aN R,(Sub.tup (jC (aw bl)))⟩)))
  replace h:=aA h dI
  refine LH.skip (ai ?_)
  obtain ⟨v3,Pl,h⟩:=ae h
  refine LH.aj R (dY R (sN (bW (f:=LV.I) bU R (sX (Jl (f:=ba.lv) (z:=(ba.mk (bE.mk 0 0 0) 0 (ab.mk 0 0 (ByteArray.mk #[]) [] []) (aS.mk 0 0) 0)) (id:=119) R lg so xN dJ R R R (Sub.agg (aw (aw (aw (aw (aw (aw (aw (jC (jC (aw (aw (aw bl))))))))))))) ba.ok Pl R) (uT R zQ))))) (LH.seq (LH.ax [(0,.lst 12 (p0.map ba.lv)),(6,.arr 119 v3.length),(20,.L r1.1),(21,.I (r1.1.length:Int)),(22,.I 0)] [(119,.arr 110 12 (v3.map ba.lv))] R (dY R (sN (bW (f:=LV.I) bU R (aZ R zS)))) (LH.block (LH.loop (fun n e m=>∃ (n4:Int) (l5:List ba),Df p0 r1 n n4 l5=some r∧e=Env.of [(0,.lst 12 (p0.map ba.lv)),(6,.arr 119 l5.length),(20,.L r1.1),(21,.I (r1.1.length:Int)),(22,.I n4)]∧m=Mem.of [(119,.arr 110 12 (l5.map ba.lv))]) F ⟨0,v3,h,R,R⟩ ?_))))
  clear h
  rintro n e m ⟨n4,l5,h,rfl,rfl⟩
  rcases n with _ | n
  · cases (show Option.none=some _ from h)
  obtain ⟨aH,aI⟩:∃ f,f=Df p0 r1 n:=⟨_,rfl⟩
  replace h:Ar p0 r1 aH n4 l5=some r:=aI ▸ h
  unfold Ar at h
  refine LH.aj R (sN (eG R R zQ)) (LH.seq (LH.cond (t:=(decide (n4<(r1.1.length:Int)))) R (fun fY=>?_) (fun fY=>?_)))
  ·replace h:=aB h fY
   refine LH.skip (ai (LH.seq (LH.block ?_)))
   obtain ⟨x7,vA,h⟩:=ae h
   refine LH.aj R (aZ R (sN (eF (f:=LV.I) bU aD aW R R jB vA R (sN (bj R aD b5 (br R (br R zQ))))))) ?_
   obtain ⟨x8,G2,h⟩:=ae h
   obtain ⟨x9,yZ,h⟩:=ae h
   refine LH.ax [(0,.lst 12 (p0.map ba.lv)),(6,.arr 119 (List.length (l5.set n4.toNat x8))),(7,.I n4),(8,.I x7),(20,.L r1.1),(21,.I (r1.1.length:Int)),(22,.I n4)] [(119,.arr 110 12 (List.map ba.lv (l5.set n4.toNat x8)))] R (lq R (aZ R (dY R (aZ R (sN (eF (f:=ba.lv) lg eB dJ R R ba.ok G2 R (sN (bw R eB iv dJ R R (sN (fP (f:=ba.lv) lg eB dJ R R R yZ (s_ (nZ (f:=ba.lv) (z':=x8) R R R R eB dJ R (dp yZ).2 R (s0 (Wk.to (eC R (eC (congrArg (LV.arr 119) (by simp)) (eC R (eC R (eC R (eC R (eC R eN))))))) ⟨R,trivial⟩ R (aN R))))))))))))))) ?_
   obtain ⟨lr,oV,h⟩:=ae h
   obtain ⟨da,k6,h⟩:=ae h
   obtain ⟨iB,vT,h⟩:=ae h
   refine LH.df [(0,.lst 12 (p0.map ba.lv)),(6,.arr 119 (List.length ((l5.set n4.toNat x8).set n4.toNat (ba.mk iB.ak iB.Kind da iB.Ref iB.Form)))),(20,.L r1.1),(21,.I (r1.1.length:Int)),(22,.I n4)] [(119,.arr 110 12 (List.map ba.lv ((l5.set n4.toNat x8).set n4.toNat (ba.mk iB.ak iB.Kind da iB.Ref iB.Form))))] R (lq R (aZ R (dY R (aZ R (sN (eF (f:=ba.lv) lg eB dJ R R ba.ok oV R (sN (aC fu bA bn R R R (sN (bw R bA c7 bn R R (sN (dq (args:=[ab.lv lr.Item]) R ui R (aw bl) (AQ k6) R (sN (fP (f:=ba.lv) lg eB dJ R R R vT (sN (Gb (f:=ba.lv) fu bA bn R R R (s_ (nZ (f:=ba.lv) (z':=(ba.mk iB.ak iB.Kind da iB.Ref iB.Form)) R R R R bA bn R (dp vT).2 R (s0 (Wk.to (eC R (eC (congrArg (LV.arr 119) (by simp)) (eC R (eC R (eC R eN))))) ⟨R,trivial⟩ R (aN R))))))))))))))))))))) (aQ (ai (LH.bd R (sN (b8 R R (aZ R zQ))) ?_)))
   exact a7 ⟨(i64 (n4+1)),((l5.set n4.toNat x8).set n4.toNat (ba.mk iB.ak iB.Kind da iB.Ref iB.Form)),aI ▸ h,R,R⟩ (Wk.eq R R R R)
  replace h:=aA h fY
  refine LH.exit (cg (bO (bK (ai (LH.wk ((Wk.trans (bM [(6,.arr 119 l5.length)] [(119,.arr 110 12 (l5.map ba.lv))]) (Wk.trans (Wk.pj (f:=ba.lv) (iP:=[(6,.lst 12 (l5.map ba.lv))]) 119 110 12 l5 R R (cc R) (fZ fN)) (bM [(6,.lst 12 (l5.map ba.lv))] [])))) (LH.aj R (dY R (sD R (br R zQ))) (LH.ret ?_)))))))
  obtain rfl:=oI h
  exact aJ (aT Tryz.results112) (bT R (bT R (bP ⟨aG mN,R,aN R,(Sub.tup (aw (aw bl)))⟩)))
theorem Ns {p0:Int} {r:Bool} (h:xr p0=some r):aF Tryz.prog 137 [.I p0] (Mem.of []) (.bool r) (Mem.of []):=by
  unfold xr at h
  refine bh Tryz.func137 R (nT Tryz.ntmps137 R) (LH.aj R (cr R zQ) (LH.ax [(2,.bool ((decide (p0 ≥ 0)) && (decide (p0≤9999))))] [] R ?_ ?_))
  ·refine aZ R (sN (oY R R (bZ R ?_)))
   by_cases hb2:(decide (p0 ≥ 0))=true
   ·exact sT R (cB hb2) (oM (v:=(.int _ _)) R (sT R (cB hb2) (KV R R (sN (aY (cB hb2) (v:=(.bool _)) R (cr R (s0 (Wk.to (eC (cB (eV hb2)) eN) mN R (aN R)))))))))
   ·replace hb2:=bF hb2
    exact sF R R hb2 (sF R R hb2 (sN (bc (cB hb2) (v:=(.bool _)) R (cr R (s0 (Wk.to (eC (cB (lB hb2)) eN) mN R (aN R)))))))
  refine LH.ret ?_
  obtain rfl:=oI h
  exact aJ (aT Tryz.results137) (bT R (bP ⟨aG mN,R,aN R,Sub.rfl⟩))
theorem UL {F:Nat} {p0:ByteArray} {r:Bool} (h:Bc F p0=some r):aF Tryz.prog 138 [.str p0] (Mem.of []) (.bool r) (Mem.of []):=by
  unfold Bc at h
  refine bh Tryz.func138 R (nT Tryz.ntmps138 R) (LH.aj R (cr R zQ) (LH.seq (LH.ax [(0,.str p0),(3,.I 0)] [] R (br R zS) (LH.block (LH.loop (fun n e m=>∃ (n1:Int),Dl p0 n n1=some r∧e=Env.of [(0,.str p0),(3,.I n1)]∧m=Mem.of []) F ⟨0,h,R,R⟩ ?_)))))
  clear h
  rintro n e m ⟨n1,h,rfl,rfl⟩
  rcases n with _ | n
  · cases (show Option.none=some _ from h)
  obtain ⟨aH,aI⟩:∃ f,f=Dl p0 n:=⟨_,rfl⟩
  replace h:Ay p0 aH n1=some r:=aI ▸ h
  unfold Ay at h
  refine LH.seq (LH.aj R (aZ R (sN (oM (v:=(.str _)) R (sX ((Er Vf R).ok) (sN (eG R R zQ)))))) (LH.cond (t:=(decide (n1<(p0.size:Int)))) R (fun dI=>?_) (fun dI=>?_)))
  ·replace h:=aB h dI
   refine LH.skip (ai (LH.seq (LH.block ?_)))
   obtain ⟨w4,hv,h⟩:=ae h
   refine LH.ax [(0,.str p0),(3,.I n1),(19,.bool w4)] [] R ?_ ?_
   ·refine sN (oM (v:=(.str _)) R (aZ R ?_))
    obtain ⟨x5,nB,hv⟩:=ae hv
    refine sX ((Jn Vf R R nB).ok) (sN (eG R R (bZ R ?_)))
    by_cases bV:(decide (x5<32))=true
    ·replace hv:=aB hv bV
     refine sF R R bV (sF R R bV (sF R R bV (sF R R bV (sN (aY (cB bV) (v:=(.bool _)) R ?_)))))
     obtain rfl:=oI hv
     exact zS
    ·replace bV:=bF bV
     replace hv:=aA hv bV
     refine sT R (cB bV) (oM (v:=(.str _)) R (sT R (cB bV) (oM (v:=(.int _ _)) R ?_)))
     obtain ⟨x7,vA,hv⟩:=ae hv
     refine ZR R (cB bV) ((Jn Vf R R vA).ok) (sT R (cB bV) (jf R R (sN (bc (cB bV) (v:=(.bool _)) R ?_))))
     obtain rfl:=oI hv
     exact zS
   clear hv
   refine LH.cond (t:=w4) R (fun kf=>?_) (fun kf=>?_)
   ·replace h:=aB h kf
    refine LH.aj R (cr R zQ) (LH.ret (bH (aO (dg (bH (aO ?_))))))
    obtain rfl:=oI h
    exact aJ (aT Tryz.results138) (bT R (bP ⟨aG mN,R,aN R,Sub.rfl⟩))
   replace h:=aA h kf
   refine LH.skip (aQ (ai (LH.bd R (aZ R (sN (b8 R R (br R zQ)))) ?_)))
   exact a7 ⟨(i64 (n1+1)),aI ▸ h,R,R⟩ (Wk.eq R R R R)
  replace h:=aA h dI
  refine LH.exit (cg (bO (bK (ai (LH.aj R (cr R zQ) (LH.ret ?_))))))
  obtain rfl:=oI h
  exact aJ (aT Tryz.results138) (bT R (bP ⟨aG mN,R,aN R,Sub.rfl⟩))
theorem Nq {p0:ag} {r:Bool} (h:xn p0=some r):aF Tryz.prog 83 [ag.lv p0] (Mem.of []) (.bool r) (Mem.of []):=by
  unfold xn at h
  refine bh Tryz.func83 R (nT Tryz.ntmps83 R) (LH.aj R (sB (dm R R R R (cr R zQ))) (LH.seq (LH.ax [(1,.sptr (ag.lv p0).cells),(30,.bool ((decide (p0.Max<1)) || ((decide (p0.Max > 40)) || ((decide (p0.gi<0)) || ((decide (p0.gi ≥ 16)) || ((decide (p0.cU<0)) || (decide (p0.cU ≥ 6))))))))] [] R ?_ ?_)))
  ·refine sN (aC kO aD aW R R R (sN (bj R aD b5 (sN (eG R R (bZ R ?_))))))
   by_cases hb2:(decide (p0.Max<1))=true
   ·exact sF R R hb2 (sF R R hb2 (sF R R hb2 (sN (aY (cB hb2) (v:=(.bool _)) R (bZ R (sF R R R (sF R R R (sF R R R (sN (aY R (v:=(.bool _)) R (bZ R (sF R R R (sF R R R (sF R R R (sN (aY R (v:=(.bool _)) R (bZ R (sF R R R (sF R R R (sF R R R (sN (aY R (v:=(.bool _)) R (bZ R (sF R R R (sF R R R (sF R R R (sN (aY R (v:=(.bool _)) R (s0 (Wk.to (eC R (eC (cB (mq hb2)) eN)) mN R (aN R)))))))))))))))))))))))))))))))
   ·replace hb2:=bF hb2
    refine sT R (cB hb2) (aC kO aD aW R R R (sT R (cB hb2) (bj R aD b5 (sT R (cB hb2) (jf R R (sN (bc (cB hb2) (v:=(.bool _)) R (bZ R ?_))))))))
    by_cases hb3:(decide (p0.Max > 40))=true
    ·exact sF R R hb3 (sF R R hb3 (sF R R hb3 (sN (aY (cB hb3) (v:=(.bool _)) R (bZ R (sF R R R (sF R R R (sF R R R (sN (aY R (v:=(.bool _)) R (bZ R (sF R R R (sF R R R (sF R R R (sN (aY R (v:=(.bool _)) R (bZ R (sF R R R (sF R R R (sF R R R (sN (aY R (v:=(.bool _)) R (s0 (Wk.to (eC R (eC (cB (Eq.trans (mq hb3) (gN hb2))) eN)) mN R (aN R)))))))))))))))))))))))))
    ·replace hb3:=bF hb3
     refine sT R (cB hb3) (aC qy aD aW R R R (sT R (cB hb3) (bj R aD b5 (sT R (cB hb3) (eG R R (sN (bc (cB hb3) (v:=(.bool _)) R (bZ R ?_))))))))
     by_cases bY:(decide (p0.gi<0))=true
     ·exact sF R R bY (sF R R bY (sF R R bY (sN (aY (cB bY) (v:=(.bool _)) R (bZ R (sF R R R (sF R R R (sF R R R (sN (aY R (v:=(.bool _)) R (bZ R (sF R R R (sF R R R (sF R R R (sN (aY R (v:=(.bool _)) R (s0 (Wk.to (eC R (eC (cB (Eq.trans (Eq.trans (mq bY) (gN hb3)) (gN hb2))) eN)) mN R (aN R)))))))))))))))))))
     ·replace bY:=bF bY
      refine sT R (cB bY) (aC qy aD aW R R R (sT R (cB bY) (bj R aD b5 (sT R (cB bY) (oY R R (sN (bc (cB bY) (v:=(.bool _)) R (bZ R ?_))))))))
      by_cases eD:(decide (p0.gi ≥ 16))=true
      ·exact sF R R eD (sF R R eD (sF R R eD (sN (aY (cB eD) (v:=(.bool _)) R (bZ R (sF R R R (sF R R R (sF R R R (sN (aY R (v:=(.bool _)) R (s0 (Wk.to (eC R (eC (cB (Eq.trans (Eq.trans (Eq.trans (mq eD) (gN bY)) (gN hb3)) (gN hb2))) eN)) mN R (aN R)))))))))))))
      ·replace eD:=bF eD
       refine sT R (cB eD) (aC qz aD aW R R R (sT R (cB eD) (bj R aD b5 (sT R (cB eD) (eG R R (sN (bc (cB eD) (v:=(.bool _)) R (bZ R ?_))))))))
       by_cases bV:(decide (p0.cU<0))=true
       ·exact sF R R bV (sF R R bV (sF R R bV (sN (aY (cB bV) (v:=(.bool _)) R (s0 (Wk.to (eC R (eC (cB (Eq.trans (Eq.trans (Eq.trans (Eq.trans (mq bV) (gN eD)) (gN bY)) (gN hb3)) (gN hb2))) eN)) mN R (aN R)))))))
       ·replace bV:=bF bV
        exact sT R (cB bV) (aC qz aD aW R R R (sT R (cB bV) (bj R aD b5 (sT R (cB bV) (oY R R (sN (bc (cB bV) (v:=(.bool _)) R (s0 (Wk.to (eC R (eC (cB (Eq.trans (Eq.trans (Eq.trans (Eq.trans (gN bV) (gN eD)) (gN bY)) (gN hb3)) (gN hb2))) eN)) mN R (aN R))))))))))
  refine LH.cond (t:=((decide (p0.Max<1)) || ((decide (p0.Max > 40)) || ((decide (p0.gi<0)) || ((decide (p0.gi ≥ 16)) || ((decide (p0.cU<0)) || (decide (p0.cU ≥ 6)))))))) R (fun ln=>?_) (fun ln=>?_)
  ·replace h:=aB h ln
   refine LH.aj R (cr R zQ) (LH.ret (aO ?_))
   obtain rfl:=oI h
   exact aJ (aT Tryz.results83) (bT R (bP ⟨aG mN,R,aN R,Sub.rfl⟩))
  replace h:=aA h ln
  refine LH.skip (ai (LH.seq (LH.aj R (sN (aC qx aD aW R R R (sN (bj R aD b5 zQ)))) (LH.block (LH.aj R (sN (iX R R (cr R zQ))) (LH.cond (t:=(p0.Kind == 1)) R (fun kf=>?_) (fun kf=>?_)))))))
  ·replace h:=aB h kf
   refine LH.ax [(2,.bool ((p0.Options == 0) && (p0.Key == 0)))] [] R ?_ ?_
   ·refine sN (aC mL aD aW R R R (sN (bj R aD b5 (sN (iX R R (bZ R ?_))))))
    by_cases dC:(p0.Options == 0)=true
    ·exact sT R (cB dC) (aC qA aD aW R R R (sT R (cB dC) (bj R aD b5 (sT R (cB dC) (iX R R (sN (aY (cB dC) (v:=(.bool _)) R (cr R (s0 (Wk.to (eC (cB (eV dC)) eN) mN R (aN R)))))))))))
    ·replace dC:=bF dC
     exact sF R R dC (sF R R dC (sF R R dC (sN (bc (cB dC) (v:=(.bool _)) R (cr R (s0 (Wk.to (eC (cB (lB dC)) eN) mN R (aN R))))))))
   refine LH.ret (bH (aO ?_))
   obtain rfl:=oI h
   exact aJ (aT Tryz.results83) (bT R (bP ⟨aG mN,R,aN R,Sub.rfl⟩))
  replace h:=aA h kf
  refine LH.aj R (sN (iX R R (cr R zQ))) (LH.cond (t:=(p0.Kind == 2)) R (fun mf=>?_) (fun mf=>?_))
  ·replace h:=aB h mf
   refine LH.ax [(2,.bool ((decide (p0.Options ≥ 2)) && ((decide (p0.Options≤5)) && ((decide (p0.Key ≥ 0)) && (decide (p0.Key<p0.Options))))))] [] R ?_ ?_
   ·refine sN (aC mL aD aW R R R (sN (bj R aD b5 (sN (oY R R (bZ R ?_))))))
    by_cases dz:(decide (p0.Options ≥ 2))=true
    ·refine sT R (cB dz) (aC mL aD aW R R R (sT R (cB dz) (bj R aD b5 (sT R (cB dz) (KV R R (sN (aY (cB dz) (v:=(.bool _)) R (bZ R ?_))))))))
     by_cases c9:(decide (p0.Options≤5))=true
     ·refine sT R (cB c9) (aC qA aD aW R R R (sT R (cB c9) (bj R aD b5 (sT R (cB c9) (oY R R (sN (aY (cB c9) (v:=(.bool _)) R (bZ R ?_))))))))
      by_cases cd:(decide (p0.Key ≥ 0))=true
      ·exact sT R (cB cd) (aC qA aD aW R R R (sT R (cB cd) (bj R aD b5 (sT R (cB cd) (aC mL aD aW R R R (sT R (cB cd) (bj R aD b5 (sT R (cB cd) (eG R R (sN (aY (cB cd) (v:=(.bool _)) R (cr R (s0 (Wk.to (eC (cB (Eq.trans (Eq.trans (eV cd) (eV c9)) (eV dz))) eN) mN R (aN R)))))))))))))))
      ·replace cd:=bF cd
       exact sF R R cd (sF R R cd (sF R R cd (sF R R cd (sF R R cd (sN (bc (cB cd) (v:=(.bool _)) R (cr R (s0 (Wk.to (eC (cB (Eq.trans (Eq.trans (lB cd) (eV c9)) (eV dz))) eN) mN R (aN R))))))))))
     ·replace c9:=bF c9
      exact sF R R c9 (sF R R c9 (sF R R c9 (sN (bc (cB c9) (v:=(.bool _)) R (bZ R (sF R R R (sF R R R (sF R R R (sF R R R (sF R R R (sN (bc R (v:=(.bool _)) R (cr R (s0 (Wk.to (eC (cB (Eq.trans (lB c9) (eV dz))) eN) mN R (aN R))))))))))))))))
    ·replace dz:=bF dz
     exact sF R R dz (sF R R dz (sF R R dz (sN (bc (cB dz) (v:=(.bool _)) R (bZ R (sF R R R (sF R R R (sF R R R (sN (bc R (v:=(.bool _)) R (bZ R (sF R R R (sF R R R (sF R R R (sF R R R (sF R R R (sN (bc R (v:=(.bool _)) R (cr R (s0 (Wk.to (eC (cB (lB dz)) eN) mN R (aN R))))))))))))))))))))))
   refine LH.ret (bH (aO ?_))
   obtain rfl:=oI h
   exact aJ (aT Tryz.results83) (bT R (bP ⟨aG mN,R,aN R,Sub.rfl⟩))
  replace h:=aA h mf
  refine LH.skip (aQ (ai (LH.aj R (cr R zQ) (LH.ret ?_))))
  obtain rfl:=oI h
  exact aJ (aT Tryz.results83) (bT R (bP ⟨aG mN,R,aN R,Sub.rfl⟩))
theorem Uo {F:Nat} {p0:Int} {p1:List Int} {r:Bool} (h:AT F p0 p1=some r):aF Tryz.prog 139 [.I p0,.L p1] (Mem.of []) (.bool r) (Mem.of []):=by
  unfold AT at h
  refine bh Tryz.func139 R (nT Tryz.ntmps139 R) (LH.aj R (cr R zQ) (LH.seq (LH.ax [(0,.I p0),(1,.L p1),(7,.L p1),(8,.I (p1.length:Int)),(9,.I 0)] [] R (dY R (sN (bW (f:=LV.I) bU R (aZ R zS)))) (LH.block (LH.loop (fun n e m=>∃ (n1:Int),Gs p0 p1 n n1=some r∧e=Env.of [(0,.I p0),(1,.L p1),(7,.L p1),(8,.I (p1.length:Int)),(9,.I n1)]∧m=Mem.of []) F ⟨0,h,R,R⟩ ?_)))))
  clear h
  rintro n e m ⟨n1,h,rfl,rfl⟩
  rcases n with _ | n
  · cases (show Option.none=some _ from h)
  obtain ⟨aH,aI⟩:∃ f,f=Gs p0 p1 n:=⟨_,rfl⟩
  replace h:J4 p0 p1 aH n1=some r:=aI ▸ h
  unfold J4 at h
  refine LH.aj R (sN (eG R R zQ)) (LH.seq (LH.cond (t:=(decide (n1<(p1.length:Int)))) R (fun dI=>?_) (fun dI=>?_)))
  ·replace h:=aB h dI
   refine LH.skip (ai (LH.seq (LH.block ?_)))
   obtain ⟨x3,fj,h⟩:=ae h
   refine LH.aj R (aZ R (sN (eF (f:=LV.I) bU aD aW R R jB fj R (sN (bj R aD b5 (br R (br R zQ))))))) ?_
   obtain ⟨w5,hv,h⟩:=ae h
   refine LH.ax [(0,.I p0),(1,.L p1),(7,.L p1),(8,.I (p1.length:Int)),(9,.I n1),(34,.bool w5)] [] R ?_ ?_
   ·refine aZ R ?_
    obtain ⟨r6,Ip,hv⟩:=ae hv
    refine sN (dq (args:=[.I x3]) R IG R (aw bl) (Ns Ip) R (sN (eM R (bZ R ?_))))
    by_cases cI:(!r6)=true
    ·replace hv:=aB hv cI
     refine sF R R cI (sF R R cI (sF R R cI (sN (aY (cB cI) (v:=(.bool _)) R (bZ R (sF R R R (sF R R R (sF R R R (sU R R (sU R R (sU R R (sU R R (sU R R (sU R R (sU R R (sF R R R (sN (aY R (v:=(.bool _)) R ?_))))))))))))))))))
     obtain rfl:=oI hv
     exact zS
    ·replace cI:=bF cI
     replace hv:=aA hv cI
     refine sT R (cB cI) (oM (v:=(.int _ _)) R (sT R (cB cI) (oM (v:=(.int _ _)) R (sT R (cB cI) (iX R R (sN (bc (cB cI) (v:=(.bool _)) R (bZ R ?_))))))))
     by_cases cA:(x3 == p0)=true
     ·replace hv:=aB hv cA
      refine sF R R cA (sF R R cA (sF R R cA (sU R R (sU R R (sU R R (sU R R (sU R R (sU R R (sU R R (sF R R cA (sN (aY (cB cA) (v:=(.bool _)) R ?_))))))))))))
      obtain rfl:=oI hv
      exact zS
     ·replace cA:=bF cA
      replace hv:=aA hv cA
      refine sT R (cB cA) (oM (v:=(.int _ _)) R (sT R (cB cA) (jf R R (sT R (cB cA) (oM (v:=(.bool _)) R ?_)))))
      by_cases dy:(decide (n1 > 0))=true
      ·replace hv:=aB hv dy
       refine sT R (cB dy) (oM (v:=(.lst _ _)) R (sT R (cB dy) (oM (v:=(.int _ _)) R (sT R (cB dy) (kq R R ?_)))))
       obtain ⟨lr,oV,hv⟩:=ae hv
       refine sT R (cB dy) (eF (f:=LV.I) bU aD aW R R jB oV R (sT R (cB dy) (bj R aD b5 (sT R (cB dy) (oM (v:=(.int _ _)) R (sT R (cB dy) (oY R R (sT R (cB cA) (aY (cB dy) (v:=(.bool _)) R (sN (bc (cB cA) (v:=(.bool _)) R ?_)))))))))))
       obtain rfl:=oI hv
       exact zS
      ·replace dy:=bF dy
       replace hv:=aA hv dy
       refine sF R R dy (sF R R dy (sF R R dy (sF R R dy (sF R R dy (sF R R dy (sF R R dy (sT R (cB cA) (bc (cB dy) (v:=(.bool _)) R (sN (bc (cB cA) (v:=(.bool _)) R ?_))))))))))
       obtain rfl:=oI hv
       exact zS
   clear hv
   refine LH.cond (t:=w5) R (fun mf=>?_) (fun mf=>?_)
   ·replace h:=aB h mf
    refine LH.aj R (cr R zQ) (LH.ret (bH (aO (dg (bH (aO ?_))))))
    obtain rfl:=oI h
    exact aJ (aT Tryz.results139) (bT R (bP ⟨aG mN,R,aN R,Sub.rfl⟩))
   replace h:=aA h mf
   refine LH.skip (aQ (ai (LH.bd R (sN (b8 R R (aZ R zQ))) ?_)))
   exact a7 ⟨(i64 (n1+1)),aI ▸ h,R,R⟩ (Wk.eq R R R R)
  replace h:=aA h dI
  refine LH.exit (cg (bO (bK (ai (LH.aj R (cr R zQ) (LH.ret ?_))))))
  obtain rfl:=oI h
  exact aJ (aT Tryz.results139) (bT R (bP ⟨aG mN,R,aN R,Sub.rfl⟩))
theorem yF {F:Nat} {p0:ab} {r:Int} (h:rq F p0=some r):aF Tryz.prog 73 [ab.lv p0] (Mem.of []) (.I r) (Mem.of []):=by
  unfold rq at h
  refine bh Tryz.func73 R (nT Tryz.ntmps73 R) (LH.aj R (sB (dm R R R R (br R zQ))) (LH.seq ?_))
  obtain ⟨w2,hv,h⟩:=ae h
  refine LH.ax [(1,.sptr (ab.lv p0).cells),(18,.bool w2)] [] R ?_ ?_
  ·refine sN (aC dZ aD aW R R R (sN (bj R aD b5 ?_)))
   obtain ⟨r3,hr3,hv⟩:=ae hv
   refine sN (dq (args:=[.I p0.ID]) R IG R (aw bl) (Ns hr3) R (sN (eM R (bZ R ?_))))
   by_cases bY:(!r3)=true
   ·replace hv:=aB hv bY
    refine sF R R bY (sF R R bY (sF R R bY (sN (aY (cB bY) (v:=(.bool _)) R (bZ R (sF R R R (sF R R R (sF R R R (sN (aY R (v:=(.bool _)) R ?_))))))))))
    obtain rfl:=oI hv
    exact zS
   ·replace bY:=bF bY
    replace hv:=aA hv bY
    refine sT R (cB bY) (aC gh aD aW R R R (sT R (cB bY) (bj R aD b5 (sT R (cB bY) (eG R R (sN (bc (cB bY) (v:=(.bool _)) R (bZ R ?_))))))))
    by_cases eD:(decide (p0.Version<1))=true
    ·replace hv:=aB hv eD
     refine sF R R eD (sF R R eD (sF R R eD (sN (aY (cB eD) (v:=(.bool _)) R ?_))))
     obtain rfl:=oI hv
     exact zS
    ·replace eD:=bF eD
     replace hv:=aA hv eD
     refine sT R (cB eD) (aC gh aD aW R R R (sT R (cB eD) (bj R aD b5 (sT R (cB eD) (jf R R (sN (bc (cB eD) (v:=(.bool _)) R ?_)))))))
     obtain rfl:=oI hv
     exact zS
  clear hv
  refine LH.cond (t:=w2) R (fun fY=>?_) (fun fY=>?_)
  ·replace h:=aB h fY
   refine LH.aj R (br R zQ) (LH.ret (aO ?_))
   obtain rfl:=oI h
   exact aJ (aT Tryz.results73) (bT R (bP ⟨aG mN,R,aN R,Sub.rfl⟩))
  replace h:=aA h fY
  refine LH.skip (ai (LH.seq (LH.ax [(1,.sptr (ab.lv p0).cells),(34,.bool ((decide ((p0.cn.size:Int) > 40)) || ((decide ((p0.aK.length:Int) > 6)) || (decide ((p0.aL.length:Int) > 8)))))] [] R ?_ ?_)))
  ·refine sN (aC kN B8 Kw R R R (sN (bj R B8 RK (sX ((Er Vf R).ok) (sN (jf R R (bZ R ?_)))))))
   by_cases cA:(decide ((p0.cn.size:Int) > 40))=true
   ·exact sF R R cA (sF R R cA (sF R R cA (sF R R cA (sN (aY (cB cA) (v:=(.bool _)) R (bZ R (sF R R R (sF R R R (sF R R R (sF R R R (sN (aY R (v:=(.bool _)) R (s0 (Wk.to (eC R (eC (cB (mq cA)) eN)) mN R (aN R)))))))))))))))
   ·replace cA:=bF cA
    refine sT R (cB cA) (aC dA cE dP R R R (sT R (cB cA) (bj R cE gf (sT R (cB cA) (bW (f:=ag.lv) eP R (sT R (cB cA) (jf R R (sN (bc (cB cA) (v:=(.bool _)) R (bZ R ?_))))))))))
    by_cases dy:(decide ((p0.aK.length:Int) > 6))=true
    ·exact sF R R dy (sF R R dy (sF R R dy (sF R R dy (sN (aY (cB dy) (v:=(.bool _)) R (s0 (Wk.to (eC R (eC (cB (Eq.trans (mq dy) (gN cA))) eN)) mN R (aN R))))))))
    ·replace dy:=bF dy
     exact sT R (cB dy) (aC hT cm dQ R R R (sT R (cB dy) (bj R cm eu (sT R (cB dy) (bW (f:=LV.I) bU R (sT R (cB dy) (jf R R (sN (bc (cB dy) (v:=(.bool _)) R (s0 (Wk.to (eC R (eC (cB (Eq.trans (gN dy) (gN cA))) eN)) mN R (aN R))))))))))))
  refine LH.cond (t:=((decide ((p0.cn.size:Int) > 40)) || ((decide ((p0.aK.length:Int) > 6)) || (decide ((p0.aL.length:Int) > 8))))) R (fun gD=>?_) (fun gD=>?_)
  ·replace h:=aB h gD
   refine LH.aj R (br R zQ) (LH.ret (aO ?_))
   obtain rfl:=oI h
   exact aJ (aT Tryz.results73) (bT R (bP ⟨aG mN,R,aN R,Sub.rfl⟩))
  replace h:=aA h gD
  refine LH.skip (ai (LH.seq ?_))
  obtain ⟨VX,hv,h⟩:=ae h
  refine LH.ax [(1,.sptr (ab.lv p0).cells),(43,.bool VX)] [] R ?_ ?_
  ·refine sN (aC kN B8 Kw R R R (sN (bj R B8 RK (sX ((Jm R R).ok) (bZ R ?_)))))
   by_cases dz:(decide (p0.cn=(ByteArray.mk #[])))=true
   ·replace hv:=aB hv dz
    refine sF R R dz (sF R R dz (sF R R dz (sF R R dz (sN (aY (cB dz) (v:=(.bool _)) R ?_)))))
    obtain rfl:=oI hv
    exact zS
   ·replace dz:=bF dz
    replace hv:=aA hv dz
    refine sT R (cB dz) (aC kN B8 Kw R R R (sT R (cB dz) (bj R B8 RK ?_)))
    obtain ⟨ct,q9,hv⟩:=ae hv
    refine sT R (cB dz) (dq (args:=[.str p0.cn]) R PO R (aw bl) (UL q9) R (sT R (cB dz) (eM R (sN (bc (cB dz) (v:=(.bool _)) R ?_)))))
    obtain rfl:=oI hv
    exact zS
  clear hv
  refine LH.cond (t:=VX) R (fun kD=>?_) (fun kD=>?_)
  ·replace h:=aB h kD
   refine LH.aj R (br R zQ) (LH.ret (aO ?_))
   obtain rfl:=oI h
   exact aJ (aT Tryz.results73) (bT R (bP ⟨aG mN,R,aN R,Sub.rfl⟩))
  replace h:=aA h kD
  refine LH.skip (ai (LH.seq (LH.aj R (sN (aC dA cE dP R R R (sN (bj R cE gf (sN (bW (f:=ag.lv) eP R (sN (iX R R zQ)))))))) (LH.cond (t:=((p0.aK.length:Int) == 0)) R (fun ke=>?_) (fun ke=>?_)))))
  ·replace h:=aB h ke
   refine LH.aj R (br R zQ) (LH.ret (aO ?_))
   obtain rfl:=oI h
   exact aJ (aT Tryz.results73) (bT R (bP ⟨aG mN,R,aN R,Sub.rfl⟩))
  replace h:=aA h ke
  refine LH.skip (ai (LH.seq (LH.ax [(1,.sptr (ab.lv p0).cells),(49,.lst 6 (p0.aK.map ag.lv)),(50,.I (p0.aK.length:Int)),(51,.I 0)] [] R (sN (aC dA cE dP R R R (sN (bj R cE gf (sN (bW (f:=ag.lv) eP R (aZ R zS))))))) (LH.block (LH.loop (fun n e m=>∃ (n17:Int),xq F p0 n n17=some r∧e=Env.of [(1,.sptr (ab.lv p0).cells),(49,.lst 6 (p0.aK.map ag.lv)),(50,.I (p0.aK.length:Int)),(51,.I n17)]∧m=Mem.of []) F ⟨0,h,R,R⟩ ?_)))))
  clear h
  rintro n e m ⟨n17,h,rfl,rfl⟩
  rcases n with _ | n
  · cases (show Option.none=some _ from h)
  obtain ⟨aH,aI⟩:∃ f,f=xq F p0 n:=⟨_,rfl⟩
  replace h:A6 F p0 aH n17=some r:=aI ▸ h
  unfold A6 at h
  refine LH.aj R (sN (eG R R zQ)) (LH.seq (LH.cond (t:=(decide (n17<(p0.aK.length:Int)))) R (fun tR=>?_) (fun tR=>?_)))
  ·replace h:=aB h tR
   refine LH.skip (ai (LH.seq (LH.block ?_)))
   obtain ⟨RL,XR,h⟩:=ae h
   refine LH.ax [(1,.sptr (ab.lv p0).cells),(4,.sptr (ag.lv RL).cells),(49,.lst 6 (p0.aK.map ag.lv)),(50,.I (p0.aK.length:Int)),(51,.I n17)] [] R (sN (eF (f:=ag.lv) eP cT cF R R ag.ok XR R (sN (bw R cT fb cF R R (sN (hD (id:=104) R sq R R (s_ (cM R R R cT cF R R R (s0 ((Wk.trans (bM [(1,.sptr (ab.lv p0).cells),(4,.ptr 104 0),(49,.lst 6 (p0.aK.map ag.lv)),(50,.I (p0.aK.length:Int)),(51,.I n17)] [(104,.box (ag.lv RL).cells)]) (Wk.trans (Wk.bD 104 (ag.lv RL).cells R R R (cc R)) (Wk.eq R R R R))))))))))))) ?_
   obtain ⟨pH,yo,h⟩:=ae h
   refine LH.aj R (sN (bw R cT fb cF R R (sN (dq (args:=[ag.lv RL]) R M3 R (aw bl) (Nq yo) R (sN (eM R zQ)))))) (LH.cond (t:=(!pH)) R (fun pq=>?_) (fun pq=>?_))
   ·replace h:=aB h pq
    refine LH.aj R (br R zQ) (LH.ret (bH (aO (dg (bH (aO ?_))))))
    obtain rfl:=oI h
    exact aJ (aT Tryz.results73) (bT R (bP ⟨aG mN,R,aN R,Sub.rfl⟩))
   replace h:=aA h pq
   refine LH.skip (aQ (ai (LH.bd R (sN (b8 R R (aZ R zQ))) ?_)))
   exact a7 ⟨(i64 (n17+1)),aI ▸ h,R,R⟩ (Wk.eq R R R R)
  replace h:=aA h tR
  refine LH.exit (cg (bO (bK (ai (LH.seq ?_)))))
  obtain ⟨xE,Ik,h⟩:=ae h
  refine LH.aj R (sN (aC dZ aD aW R R R (sN (bj R aD b5 (sN (aC hT cm dQ R R R (sN (bj R cm eu (sN (dq (args:=[.I p0.ID,.L p0.aL]) R PQ R (aw (aw bl)) (Uo Ik) R (sN (eM R zQ)))))))))))) (LH.cond (t:=(!xE)) R (fun Cr=>?_) (fun Cr=>?_))
  ·replace h:=aB h Cr
   refine LH.aj R (br R zQ) (LH.ret (aO ?_))
   obtain rfl:=oI h
   exact aJ (aT Tryz.results73) (bT R (bP ⟨aG mN,R,aN R,Sub.rfl⟩))
  replace h:=aA h Cr
  refine LH.skip (ai (LH.aj R (br R zQ) (LH.ret ?_)))
  obtain rfl:=oI h
  exact aJ (aT Tryz.results73) (bT R (bP ⟨aG mN,R,aN R,Sub.rfl⟩))
theorem T2 {F:Nat} {p0:List ay} {p1:Int} {p2:(ay→Int→Option Int)} {r:Int × Bool} {eS:Nat} {dH:List LV} (Gg:dn Tryz.prog eS) (vZ:LV.bt dH=true) (Gh:∀ (x0:ay) (x1:Int) (q:Int),p2 x0 x1=some q→aF Tryz.prog eS ([.agg [.I x0.ID,.lst 5 (x0.ah.map ab.lv),.lst 1 (x0.au.map LV.bool),.lst 3 (x0.Uses.map bI.lv),.bool x0.ao],.I x1]++dH) (Mem.of []) (.I q) (Mem.of [])) (h:U5 F p0 p1 p2=some r):aF Tryz.prog 214 [.lst 5 (p0.map ay.lv),.I p1,.fn eS dH] (Mem.of []) (.tup [.I r.1,.bool r.2]) (Mem.of []):=by
  have Js:∀ {l:List LV},LV.bt l=true→LV.bt (l++dH)=true:=Ju vZ
  have e7:LV.a8 dH=[]:=et vZ
  unfold U5 at h
  refine bh Tryz.func214 R (nT Tryz.ntmps214 R) (LH.wk (Wk.to (el:=[(0,.lst 5 (p0.map ay.lv)),(1,.I p1),(2,.fn eS dH)]) (ml:=[]) (eQ ⟨R,R,R,trivial⟩) mN (by simp [av,LV.refs,LV.a8,LV.cells,cP,Env.args,Env.of,Env.put,Env.drop,e7]) (aN R)) (LH.ax [(0,.lst 5 (p0.map ay.lv)),(1,.I p1),(2,.fn eS dH)] [] R (br R (cr R (s0 (Wk.to (eQ ⟨R,R,R,trivial⟩) mN (by simp [av,LV.refs,LV.a8,LV.cells,cP,Env.args,Env.of,Env.put,Env.drop,e7]) (aN R))))) (LH.ax [(0,.lst 5 (p0.map ay.lv)),(1,.I p1),(2,.fn eS dH),(8,.I (p0.length:Int))] [] R (dY R (sN (bW (f:=ay.lv) mz R (br R (s0 (Wk.to (eQ ⟨R,R,R,R,trivial⟩) mN (by simp [av,LV.refs,LV.a8,LV.cells,cP,Env.args,Env.of,Env.put,Env.drop,e7]) (aN R))))))) (LH.ax [(0,.lst 5 (p0.map ay.lv)),(1,.I p1),(2,.fn eS dH),(8,.I (p0.length:Int)),(9,.I 0),(10,.I (p0.length:Int))] [] R (aZ R (br R (br R (s0 (Wk.to (eQ ⟨R,R,R,R,R,R,trivial⟩) mN (by simp [av,LV.refs,LV.a8,LV.cells,cP,Env.args,Env.of,Env.put,Env.drop,e7]) (aN R)))))) (LH.seq (LH.block (LH.loop (fun n e m=>∃ (n1:Int) (n2:Int),RI p0 p1 p2 n n1 n2=some r∧e=Env.of [(0,.lst 5 (p0.map ay.lv)),(1,.I p1),(2,.fn eS dH),(8,.I (p0.length:Int)),(9,.I n1),(10,.I n2)]∧m=Mem.of []) F ⟨0,(p0.length:Int),h,R,R⟩ ?_)))))))
  clear h
  rintro n e m ⟨n1,n2,h,rfl,rfl⟩
  rcases n with _ | n
  · cases (show Option.none=some _ from h)
  obtain ⟨aH,aI⟩:∃ f,f=RI p0 p1 p2 n:=⟨_,rfl⟩
  replace h:VV p0 p1 p2 aH n1 n2=some r:=aI ▸ h
  unfold VV at h
  refine LH.seq (LH.ax [(0,.lst 5 (p0.map ay.lv)),(1,.I p1),(2,.fn eS dH),(8,.I (p0.length:Int)),(9,.I n1),(10,.I n2),(17,.bool (decide (n1<n2)))] [] R (aZ R (aZ R (sN (eG R R (s0 (Wk.to (eQ ⟨R,R,R,R,R,R,R,trivial⟩) mN (by simp [av,LV.refs,LV.a8,LV.cells,cP,Env.args,Env.of,Env.put,Env.drop,e7]) (aN R))))))) (LH.cond (t:=(decide (n1<n2))) R (fun fT=>?_) (fun fT=>?_)))
  ·replace h:=aB h fT
   refine LH.skip (ai (LH.wk (Wk.to (el:=[(0,.lst 5 (p0.map ay.lv)),(1,.I p1),(2,.fn eS dH),(8,.I (p0.length:Int)),(9,.I n1),(10,.I n2)]) (ml:=[]) (eQ ⟨R,R,R,R,R,R,trivial⟩) mN (by simp [av,LV.refs,LV.a8,LV.cells,cP,Env.args,Env.of,Env.put,Env.drop,e7]) (aN R)) (LH.block (LH.ax [(0,.lst 5 (p0.map ay.lv)),(1,.I p1),(2,.fn eS dH),(8,.I (p0.length:Int)),(9,.I n1),(10,.I n2),(11,.I (i64 (pK .u64 (IntKind.u64.wrap (i64 (n1+n2))) 1)))] [] R (aZ R (aZ R (sN (b8 R R (sN (Yh aD Vk R (sX ((QK R R (by decide)).ok) (sN (Yh Vm ti3 R (br R (s0 (Wk.to (eQ ⟨R,R,R,R,R,R,R,trivial⟩) mN (by simp [av,LV.refs,LV.a8,LV.cells,cP,Env.args,Env.of,Env.put,Env.drop,e7]) (aN R))))))))))))) ?_))))
   obtain ⟨x4,zL,h⟩:=ae h
   obtain ⟨r5,vR,h⟩:=ae h
   refine LH.ax [(0,.lst 5 (p0.map ay.lv)),(1,.I p1),(2,.fn eS dH),(8,.I (p0.length:Int)),(9,.I n1),(10,.I n2),(11,.I (i64 (pK .u64 (IntKind.u64.wrap (i64 (n1+n2))) 1))),(31,.bool (decide (r5<0)))] [] R ?_ ?_
   ·refine sN (oM (v:=(.fn _ _)) R (dY R (aZ R (sN (eF (f:=ay.lv) mz fE fk R R ay.ok zL R (sN (bw R fE od fk R R (aZ R (sN (dq (args:=[.agg [.I x4.ID,.lst 5 (x4.ah.map ab.lv),.lst 1 (x4.au.map LV.bool),.lst 3 (x4.Uses.map bI.lv),.bool x4.ao],.I p1]++dH) (eH:=[.agg [.I x4.ID,.lst 5 (x4.ah.map ab.lv),.lst 1 (x4.au.map LV.bool),.lst 3 (x4.Uses.map bI.lv),.bool x4.ao],.I p1]++dH) R Gg R fl.rfl (Gh _ _ _ vR) (Js R) ?_))))))))))
    exact sN (eG R R (s0 (Wk.to (eQ ⟨R,R,R,R,R,R,R,R,trivial⟩) mN (by simp [av,LV.refs,LV.a8,LV.cells,cP,Env.args,Env.of,Env.put,Env.drop,e7]) (aN R))))
   refine LH.cond (t:=(decide (r5<0))) R (fun fY=>?_) (fun fY=>?_)
   ·replace h:=aB h fY
    refine LH.df [(0,.lst 5 (p0.map ay.lv)),(1,.I p1),(2,.fn eS dH),(8,.I (p0.length:Int)),(9,.I (i64 ((i64 (pK .u64 (IntKind.u64.wrap (i64 (n1+n2))) 1))+1))),(10,.I n2)] [] R (aZ R (sN (b8 R R (br R (s0 (Wk.to (eQ ⟨R,R,R,R,R,R,trivial⟩) mN (by simp [av,LV.refs,LV.a8,LV.cells,cP,Env.args,Env.of,Env.put,Env.drop,e7]) (aN R))))))) (aQ ?_)
    exact a7 ⟨(i64 ((i64 (pK .u64 (IntKind.u64.wrap (i64 (n1+n2))) 1))+1)),n2,aI ▸ h,R,R⟩ (Wk.to (eQ ⟨R,R,R,R,R,R,trivial⟩) mN (by simp [av,LV.refs,LV.a8,LV.cells,cP,Env.args,Env.of,Env.put,Env.drop,e7]) (aN R))
   replace h:=aA h fY
   refine LH.df [(0,.lst 5 (p0.map ay.lv)),(1,.I p1),(2,.fn eS dH),(8,.I (p0.length:Int)),(9,.I n1),(10,.I (i64 (pK .u64 (IntKind.u64.wrap (i64 (n1+n2))) 1)))] [] R (aZ R (br R (s0 (Wk.to (eQ ⟨R,R,R,R,R,R,trivial⟩) mN (by simp [av,LV.refs,LV.a8,LV.cells,cP,Env.args,Env.of,Env.put,Env.drop,e7]) (aN R))))) (aQ ?_)
   exact a7 ⟨n1,(i64 (pK .u64 (IntKind.u64.wrap (i64 (n1+n2))) 1)),aI ▸ h,R,R⟩ (Wk.to (eQ ⟨R,R,R,R,R,R,trivial⟩) mN (by simp [av,LV.refs,LV.a8,LV.cells,cP,Env.args,Env.of,Env.put,Env.drop,e7]) (aN R))
  replace h:=aA h fT
  refine LH.exit (cg (bO (bK (ai ?_))))
  obtain ⟨w8,hv,h⟩:=ae h
  refine LH.ax [(6,.I n1),(7,.bool w8)] [] R ?_ ?_
  ·refine aZ R (aZ R (aZ R (sN (eG R R (bZ R ?_)))))
   by_cases dy:(decide (n1<(p0.length:Int)))=true
   ·replace hv:=aB hv dy
    refine sT R (cB dy) (oM (v:=(.fn _ _)) R (sT R (cB dy) (oM (v:=(.lst _ _)) R (sT R (cB dy) (oM (v:=(.int _ _)) R ?_)))))
    obtain ⟨lr,oV,hv⟩:=ae hv
    refine sT R (cB dy) (eF (f:=ay.lv) mz fE fk R R ay.ok oV R (sT R (cB dy) (bw R fE od fk R R (sT R (cB dy) (oM (v:=(.int _ _)) R ?_)))))
    obtain ⟨da,k6,hv⟩:=ae hv
    refine sT R (cB dy) (dq (args:=[.agg [.I lr.ID,.lst 5 (lr.ah.map ab.lv),.lst 1 (lr.au.map LV.bool),.lst 3 (lr.Uses.map bI.lv),.bool lr.ao],.I p1]++dH) (eH:=[.agg [.I lr.ID,.lst 5 (lr.ah.map ab.lv),.lst 1 (lr.au.map LV.bool),.lst 3 (lr.Uses.map bI.lv),.bool lr.ao],.I p1]++dH) R Gg R fl.rfl (Gh _ _ _ k6) (Js R) ?_)
    refine sT R (cB dy) (iX R R (sN (aY (cB dy) (v:=(.bool _)) R (br R (cr R ?_)))))
    obtain rfl:=oI hv
    exact s0 (Wk.to (eQ ⟨R,R,trivial⟩) mN (by simp [av,LV.refs,LV.a8,LV.cells,cP,Env.args,Env.of,Env.put,Env.drop,e7]) (aN R))
   ·replace dy:=bF dy
    replace hv:=aA hv dy
    refine sF R R dy (sF R R dy (sF R R dy (sF R R dy (sF R R dy (sF R R dy (sF R R dy (sF R R dy (sN (bc (cB dy) (v:=(.bool _)) R (br R (cr R ?_)))))))))))
    obtain rfl:=oI hv
    exact s0 (Wk.to (eQ ⟨R,R,trivial⟩) mN (by simp [av,LV.refs,LV.a8,LV.cells,cP,Env.args,Env.of,Env.put,Env.drop,e7]) (aN R))
  clear hv
  refine LH.ret ?_
  obtain rfl:=oI h
  exact aJ (aT Tryz.results214) (bT R (bT R (bP ⟨aG mN,R,aN R,(Sub.tup (aw (aw bl)))⟩)))
theorem US {p0:ay} {p1:Int} {r:Int} (h:uK p0 p1=some r):aF Tryz.prog 215 [ay.lv p0,.I p1] (Mem.of []) (.I r) (Mem.of []):=by
  unfold uK at h
  refine bh Tryz.func215 R (nT Tryz.ntmps215 R) (LH.aj R (sB (dm R R R R (br R zQ))) ?_)
  obtain ⟨r1,dR,h⟩:=ae h
  refine LH.aj R (sN (aC mK aD aW R R R (sN (bj R aD b5 (aZ R (sN (dq (args:=[.I p0.ID,.I p1]) R pC R (aw (aw bl)) (dx dR) R (br R zQ)))))))) (LH.ret ?_)
  obtain rfl:=oI h
  exact aJ (aT Tryz.results215) (bT R (bP ⟨aG mN,R,aN R,Sub.rfl⟩))
theorem Nz {F:Nat} {p0:bx} {p1:Int} {r:Int × Bool} (h:xz F p0 p1=some r):aF Tryz.prog 186 [.ptr 811 0,.I p1] (Mem.of [KI p0,(812,gE (p0.aa.map ay.lv))]) (.tup [.I r.1,.bool r.2]) (Mem.of [KI p0,(812,gE (p0.aa.map ay.lv))]):=by
  unfold xz at h
  refine bh Tryz.func186 R (nT Tryz.ntmps186 R) (LH.aj R (br R (cr R zQ)) ?_)
  obtain ⟨r1,dR,h⟩:=ae h
  refine LH.ax [(4,.I r1.1),(5,.bool r1.2)] [KI p0,(812,gE (p0.aa.map ay.lv))] R (iA R (sN (Gc R (sN (fo jh jI qB R R (sN (dv R R R R jI u0 (aZ R (sN (ej (args:=[.arr 812 p0.aa.length,.I p1,.fn 215 []]) (ml:=[(812,gE (p0.aa.map ay.lv))]) (cS:=[(812,gE (p0.aa.map ay.lv))]) R Qg R (aw (aw (aw bl))) (aF.TI 812 179 5 [(1,108,5),(2,4,1),(3,182,3)] (xs:=List.map ay.lv p0.aa) (ay.ok.bt _) (T2 (eS:=215) (dH:=[]) Qh R (fun _ _ _ h=>US h) dR) (.row (by simp) (.gT R (.gT R .nil))) R R R R R TZ) ⟨R,trivial⟩ (bu R bX) R (sN (fL R R (sN (fL R R (br R (cr R zS)))))))))))))))) (LH.ret ?_)
  obtain rfl:=oI h
  exact aJ (aT Tryz.results186) (bT R (bT R (bP ⟨aG (mC R (mC R mN)),R,aN R,(Sub.tup (aw (aw bl)))⟩)))
theorem Nx {F:Nat} {p0:bx} {p1:ba} {r:Int × bx} (h:xy F p0 p1=some r):aF Tryz.prog 141 [.ptr 811 0,ba.lv p1] (Mem.of [KI p0,(812,gE (p0.aa.map ay.lv))]) (.I r.1) (Mem.of [(811,.box [.arr 812 r.2.aa.length]),(812,gE (r.2.aa.map ay.lv))]):=by
  unfold xy at h
  refine bh Tryz.func141 R (nT Tryz.ntmps141 R) (LH.aj R (sB (dm R R R R (br R zQ))) (LH.seq ?_))
  obtain ⟨r1,dR,h⟩:=ae h
  refine LH.aj R (sN (aC fu bA bn R R R (sN (bw R bA c7 bn R R (sN (dq (args:=[ab.lv p1.Item]) R qj R (aw bl) (yF dR) R (br R zQ))))))) (LH.aj R (aZ R (sN (iC R R zQ))) (LH.cond (t:=(r1 != 0)) R (fun dI=>?_) (fun dI=>?_)))
  ·replace h:=aB h dI
   refine LH.aj R (aZ R (br R zQ)) (LH.ret (aO ?_))
   obtain rfl:=oI h
   exact aJ (aT Tryz.results141) (bT R (bP ⟨aG (mC R (mC R mN)),R,aN R,Sub.rfl⟩))
  replace h:=aA h dI
  refine LH.skip (ai (LH.seq (LH.aj R (sN (aC fu bA bn R R R (sN (aC gh aD aW R R R (sN (bj R aD b5 (sN (iC R R zQ)))))))) (LH.cond (t:=(p1.Item.Version != 1)) R (fun fT=>?_) (fun fT=>?_)))))
  ·replace h:=aB h fT
   refine LH.aj R (br R zQ) (LH.ret (aO ?_))
   obtain rfl:=oI h
   exact aJ (aT Tryz.results141) (bT R (bP ⟨aG (mC R (mC R mN)),R,aN R,Sub.rfl⟩))
  replace h:=aA h fT
  refine LH.skip (ai ?_)
  obtain ⟨r4,F1,h⟩:=ae h
  refine LH.aj R (iA R (sN (aC fu bA bn R R R (sN (aC dZ aD aW R R R (sN (bj R aD b5 (sN (ej (args:=[.ptr 811 0,.I p1.Item.ID]) (ml:=[KI p0,(812,gE (p0.aa.map ay.lv))]) (cS:=[KI p0,(812,gE (p0.aa.map ay.lv))]) R IS R (aw (aw bl)) (Nz F1) ⟨R,R,trivial⟩ (bu R (bu R bX)) R (sE R (sN (fL R R (sN (fL R R (br R (cr R zQ)))))))))))))))) (LH.seq (LH.aj R (bZ R zQ) (LH.cond (t:=r4.2) R (fun gZ=>?_) (fun gZ=>?_))))
  ·replace h:=aB h gZ
   refine LH.aj R (br R zQ) (LH.ret (aO ?_))
   obtain rfl:=oI h
   exact aJ (aT Tryz.results141) (bT R (bP ⟨aG (mC R (mC R mN)),R,aN R,Sub.rfl⟩))
  replace h:=aA h gZ
  refine LH.skip (ai (LH.seq (LH.aj R (iA R (sN (Gc R (sN (fo jh jI qB R R (sN (dv R R R R jI u0 (sX ((Jj (f:=ay.lv) (xs:=p0.aa) mz R R R).ok) (sN (oY R R zQ)))))))))) (LH.cond (t:=(decide ((p0.aa.length:Int) ≥ 40))) R (fun fY=>?_) (fun fY=>?_)))))
  ·replace h:=aB h fY
   refine LH.aj R (br R zQ) (LH.ret (aO ?_))
   obtain rfl:=oI h
   exact aJ (aT Tryz.results141) (bT R (bP ⟨aG (mC R (mC R mN)),R,aN R,Sub.rfl⟩))
  replace h:=aA h fY
  refine LH.skip (ai ?_)
  obtain ⟨r7,CJ,h⟩:=ae h
  obtain ⟨v8,SZ,h⟩:=ae h
  refine LH.du mixed [] [0,0,0,0,1811,0,0,0,0,0,0,0,1000000145,1000000146,0,1146145148,3,0,0,100811] [] [(811,.box [.arr 812 v8.length]),(812,gE (v8.map ay.lv))] R R (by kernel_rfl) ?_ ?_
  ·exact F7 R (F7 R (aX (Gc R ⟨R,aX (fo jh jI qB R R ⟨R,mD R R R (fun _ b _ d=>dv R b R R jI u0 d) (iT R (aX (aC fu bA bn R R R ⟨R,aX (aC dZ aD aW R R R ⟨R,aX (bj R aD b5 ⟨R,aX (aC fu bA bn R R R ⟨R,aX (bw R bA c7 bn R R ⟨R,aX (dq (args:=[ab.lv p1.Item]) R ui R (aw bl) (AQ CJ) R ⟨R,Ye R (ss.fresh R R (fun m0 h0=>cw.ZT [44] (by simp [Op.operands]) (Jh (g:=ab.lv) (ys:=[r7]) (id:=145) eR u9 bn R R R ab.ok h0))) (Ye R (ss.fresh R R (fun m0 h0=>cw.ZT [] (by simp [Op.operands]) (Jh (g:=LV.bool) (ys:=[false]) (id:=146) qt Yz sM R R R okB h0))) (aX (gJ (vs:=[(0,.I p1.Item.ID),(1,.arr 145 (List.length [r7])),(2,.arr 146 (List.length [false]))]) Vo vn R (lf mK aW aD R R R (lf fJ oi iM R R R (lf iK lV gW R R R gI))) ⟨R,Ye R (ss.gone (S:=[145,146]) R (fun m0 h0=>QA (id:=148) (os:=[(1,108,5),(2,4,1),(3,182,3)]) (S:=[145,146]) (cs:=[.I p1.Item.ID,.arr 145 (List.length [r7]),.arr 146 (List.length [false]),.nil,.bool false]) (dL:=[.I p1.Item.ID,.lst 5 (List.map ab.lv [r7]),.lst 1 (List.map LV.bool [false]),.lst 3 (List.map bI.lv ([]:List bI)),.bool false]) mz NP fk R R R R ((h0 148 (by simp)).trans R) (Vy R R (RT (g:=ab.lv) (ys:=[r7]) R ((h0 145 (by simp)).trans R) (RT (g:=LV.bool) (ys:=[false]) R ((h0 146 (by simp)).trans R) (Z1 R R (Vy R R YZ))))) (by decide) (R6 (cc R) (R6 (cc R) Y3)))) (mX (LU (f:=ay.lv) (xs:=p0.aa) (z0:=(ay.mk p1.Item.ID [r7] [false] ([]:List bI) false)) P3 LJ R R R R R (by decide) (cc R) SZ) (aX (Gc R ⟨R,aX (fo jh jI qB R R ⟨R,mS R R R (fun _ b _ d=>cM R R R jI qB b R R d) zM⟩)⟩)))⟩)))⟩)⟩)⟩)⟩)⟩)⟩)))⟩)⟩)))
  refine LH.aj R (br R zQ) (LH.ret ?_)
  obtain rfl:=oI h
  exact aJ (aT Tryz.results141) (bT R (bP ⟨aG (mC R (mC R mN)),R,aN R,Sub.rfl⟩))
theorem JL {F:Nat} {p0:bx} {p1:Int} {r:Option Int} (h:uM F p0 p1=some r):aF Tryz.prog 188 [.ptr 811 0,.I p1] (Mem.of [KI p0,(812,gE (p0.aa.map ay.lv))]) (sy 812 p0.aa.length r) (Mem.of [KI p0,(812,gE (p0.aa.map ay.lv))]):=by
  unfold uM at h
  refine bh Tryz.func188 R (nT Tryz.ntmps188 R) (LH.aj R (sN (oA (v:=.nilp) R zQ)) ?_)
  obtain ⟨r1,dR,h⟩:=ae h
  refine LH.aj R (iA R (aZ R (sN (ej (args:=[.ptr 811 0,.I p1]) (ml:=[KI p0,(812,gE (p0.aa.map ay.lv))]) (cS:=[KI p0,(812,gE (p0.aa.map ay.lv))]) R IS R (aw (aw bl)) (Nz dR) ⟨R,R,trivial⟩ (bu R (bu R bX)) R (sE R (sN (fL R R (sN (fL R R (br R (cr R zQ))))))))))) (LH.seq (LH.aj R (bZ R (sN (eM R zQ))) (LH.cond (t:=(!r1.2)) R (fun dI=>?_) (fun dI=>?_))))
  ·replace h:=aB h dI
   refine LH.aj R (sN (oA (v:=.nilp) R zQ)) (LH.ret (aO ?_))
   obtain rfl:=oI h
   exact aJ (aT Tryz.results188) (bT R (bP ⟨aG (mC R (mC R mN)),R,aN R,Sub.rfl⟩))
  replace h:=aA h dI
  refine LH.skip (ai ?_)
  obtain ⟨x3,fj,h⟩:=ae h
  refine LH.aj R (iA R (sN (Gc R (sN (fo jh jI qB R R (sN (dv R R R R jI u0 (aZ R (sX ((Ji (f:=ay.lv) (xs:=p0.aa) mz fE fk R R R R fj).ok) (sN (oA (v:=(.eptr _ _ _ _)) R zQ))))))))))) (LH.ret ?_)
  obtain rfl:=oI h
  exact aJ (aT Tryz.results188) (bT R (bP ⟨aG (mC R (mC R mN)),R,aN R,Sub.rfl⟩))
theorem Nw {F:Nat} {p0:bx} {p1:ba} {r:Int × bx} (h:xw F p0 p1=some r):aF Tryz.prog 142 [.ptr 811 0,.agg [.I p1.ak.Time,.I p1.ak.Source,.I p1.ak.Seq,.I p1.Kind,.I p1.Item.ID,.I p1.Item.Version,.str p1.Item.cn,.lst 6 (p1.Item.aK.map ag.lv),.L p1.Item.aL,.I p1.Ref.ID,.I p1.Ref.Version,.I p1.Form]] (Mem.of [(811,.box [.arr 812 p0.aa.length]),(812,.nest 179 5 [(1,108,5),(2,4,1),(3,182,3)] (p0.aa.map ay.lv))]) (.I r.1) (Mem.of [(811,.box [.arr 812 r.2.aa.length]),(812,.nest 179 5 [(1,108,5),(2,4,1),(3,182,3)] (r.2.aa.map ay.lv))]):=by
  unfold xw at h
  refine bh Tryz.func142 R (nT Tryz.ntmps142 R) ?_
  refine LH.wk (Wk.eq (el:=[(0,.ptr 811 0),(1,.agg [.I p1.ak.Time,.I p1.ak.Source,.I p1.ak.Seq,.I p1.Kind,.I p1.Item.ID,.I p1.Item.Version,.str p1.Item.cn,.lst 6 (p1.Item.aK.map ag.lv),.L p1.Item.aL,.I p1.Ref.ID,.I p1.Ref.Version,.I p1.Form])]) (ml:=[(811,.box [.arr 812 p0.aa.length]),(812,.nest 179 5 [(1,108,5),(2,4,1),(3,182,3)] (p0.aa.map ay.lv))]) R R R R) ?_
  refine LH.ax [(0,.ptr 811 0),(3,.sptr [.I p1.ak.Time,.I p1.ak.Source,.I p1.ak.Seq,.I p1.Kind,.I p1.Item.ID,.I p1.Item.Version,.str p1.Item.cn,.lst 6 (p1.Item.aK.map ag.lv),.L p1.Item.aL,.I p1.Ref.ID,.I p1.Ref.Version,.I p1.Form])] [(811,.box [.arr 812 p0.aa.length]),(812,.nest 179 5 [(1,108,5),(2,4,1),(3,182,3)] (p0.aa.map ay.lv))] R ?_ ?_
  ·refine sB (dm R R R R ?_)
   refine br R ?_
   exact zS
  refine LH.seq ?_
  obtain ⟨r1,dR,h⟩:=ae h
  refine LH.ax [(0,.ptr 811 0),(3,.sptr [.I p1.ak.Time,.I p1.ak.Source,.I p1.ak.Seq,.I p1.Kind,.I p1.Item.ID,.I p1.Item.Version,.str p1.Item.cn,.lst 6 (p1.Item.aK.map ag.lv),.L p1.Item.aL,.I p1.Ref.ID,.I p1.Ref.Version,.I p1.Form]),(5,.I r1)] [(811,.box [.arr 812 p0.aa.length]),(812,.nest 179 5 [(1,108,5),(2,4,1),(3,182,3)] (p0.aa.map ay.lv))] R ?_ ?_
  ·refine sN (aC fu bA bn R R R ?_)
   refine sN (bw R bA c7 bn R R ?_)
   refine sN (dq (args:=[.agg [.I p1.Item.ID,.I p1.Item.Version,.str p1.Item.cn,.lst 6 (p1.Item.aK.map ag.lv),.L p1.Item.aL]]) R qj R (aw bl) (yF dR) R ?_)
   refine br R ?_
   exact zS
  refine LH.ax [(0,.ptr 811 0),(3,.sptr [.I p1.ak.Time,.I p1.ak.Source,.I p1.ak.Seq,.I p1.Kind,.I p1.Item.ID,.I p1.Item.Version,.str p1.Item.cn,.lst 6 (p1.Item.aK.map ag.lv),.L p1.Item.aL,.I p1.Ref.ID,.I p1.Ref.Version,.I p1.Form]),(5,.I r1),(11,.bool (r1 != 0))] [(811,.box [.arr 812 p0.aa.length]),(812,.nest 179 5 [(1,108,5),(2,4,1),(3,182,3)] (p0.aa.map ay.lv))] R ?_ ?_
  ·refine aZ R ?_
   refine sN (iC R R ?_)
   exact zS
  refine LH.cond (t:=(r1 != 0)) R (fun dI=>?_) (fun dI=>?_)
  ·replace h:=aB h dI
   refine LH.ax [(4,.I r1)] [(811,.box [.arr 812 p0.aa.length]),(812,.nest 179 5 [(1,108,5),(2,4,1),(3,182,3)] (p0.aa.map ay.lv))] R ?_ ?_
   ·refine aZ R ?_
    refine br R ?_
    exact zS
   refine LH.ret ?_
   refine aO ?_
   obtain rfl:=oI h
   exact aJ (aT Tryz.results142) (bT R (bP ⟨aG (mC R (mC R mN)),R,aN R,Sub.rfl⟩))
  replace h:=aA h dI
  refine LH.skip ?_
  refine ai ?_
  obtain ⟨r3,hr3,h⟩:=ae h
  refine LH.ax [(3,.sptr [.I p1.ak.Time,.I p1.ak.Source,.I p1.ak.Seq,.I p1.Kind,.I p1.Item.ID,.I p1.Item.Version,.str p1.Item.cn,.lst 6 (p1.Item.aK.map ag.lv),.L p1.Item.aL,.I p1.Ref.ID,.I p1.Ref.Version,.I p1.Form]),(6,sy 812 p0.aa.length r3)] [(811,.box [.arr 812 p0.aa.length]),(812,.nest 179 5 [(1,108,5),(2,4,1),(3,182,3)] (p0.aa.map ay.lv))] R ?_ ?_
  ·refine iA R ?_
   refine sN (aC fu bA bn R R R ?_)
   refine sN (aC dZ aD aW R R R ?_)
   refine sN (bj R aD b5 ?_)
   refine sN (ej (args:=[.ptr 811 0,.I p1.Item.ID]) (ml:=[(811,.box [.arr 812 p0.aa.length]),(812,.nest 179 5 [(1,108,5),(2,4,1),(3,182,3)] (p0.aa.map ay.lv))]) (cS:=[(811,.box [.arr 812 p0.aa.length]),(812,.nest 179 5 [(1,108,5),(2,4,1),(3,182,3)] (p0.aa.map ay.lv))]) R CS R (aw (aw bl)) (JL hr3) ⟨R,R,trivial⟩ (bu R (bu R bX)) R ?_)
   refine sN (oA (v:=(sy _ _ _)) R ?_)
   exact s0 (Wk.to (eQ ⟨R,R,trivial⟩) ⟨R,R,trivial⟩ (by rcases r3 with _ | _ <;> exact R) (aN R))
  rcases r3 with _ | j4
  ·replace h:=Jq h
   refine LH.wk (Wk.eq (el:=[(3,.sptr [.I p1.ak.Time,.I p1.ak.Source,.I p1.ak.Seq,.I p1.Kind,.I p1.Item.ID,.I p1.Item.Version,.str p1.Item.cn,.lst 6 (p1.Item.aK.map ag.lv),.L p1.Item.aL,.I p1.Ref.ID,.I p1.Ref.Version,.I p1.Form]),(6,.nilp)]) (ml:=[(811,.box [.arr 812 p0.aa.length]),(812,.nest 179 5 [(1,108,5),(2,4,1),(3,182,3)] (p0.aa.map ay.lv))]) R R R R) ?_
   refine LH.seq ?_
   refine LH.ax [(3,.sptr [.I p1.ak.Time,.I p1.ak.Source,.I p1.ak.Seq,.I p1.Kind,.I p1.Item.ID,.I p1.Item.Version,.str p1.Item.cn,.lst 6 (p1.Item.aK.map ag.lv),.L p1.Item.aL,.I p1.Ref.ID,.I p1.Ref.Version,.I p1.Form]),(6,.nilp),(19,.bool true)] [(811,.box [.arr 812 p0.aa.length]),(812,.nest 179 5 [(1,108,5),(2,4,1),(3,182,3)] (p0.aa.map ay.lv))] R ?_ ?_
   ·refine sN (oM (v:=.nilp) R ?_)
    refine sX ((uC o7 R R).ok) ?_
    exact zS
   refine LH.cond (t:=true) R (fun fY=>?_) (fun fY=>?_)
   ·refine LH.ax [(4,.I 4)] [(811,.box [.arr 812 p0.aa.length]),(812,.nest 179 5 [(1,108,5),(2,4,1),(3,182,3)] (p0.aa.map ay.lv))] R ?_ ?_
    ·refine br R ?_
     exact zS
    refine LH.ret ?_
    refine aO ?_
    obtain rfl:=oI h
    exact aJ (aT Tryz.results142) (bT R (bP ⟨aG (mC R (mC R mN)),R,aN R,Sub.rfl⟩))
   ·cases fY
  replace h:=Jr h
  obtain ⟨x5,nB,h⟩:=ae h
  refine LH.wk (Wk.to (el:=[(3,.sptr [.I p1.ak.Time,.I p1.ak.Source,.I p1.ak.Seq,.I p1.Kind,.I p1.Item.ID,.I p1.Item.Version,.str p1.Item.cn,.lst 6 (p1.Item.aK.map ag.lv),.L p1.Item.aL,.I p1.Ref.ID,.I p1.Ref.Version,.I p1.Form]),(6,.eptr 812 p0.aa.length (j4).toNat 0)]) (ml:=[(811,.box [.arr 812 p0.aa.length]),(812,.nest 179 5 [(1,108,5),(2,4,1),(3,182,3)] ((p0.aa.map ay.lv).set (j4).toNat (.agg [.I x5.ID,.lst 5 (x5.ah.map ab.lv),.lst 1 (x5.au.map LV.bool),.lst 3 (x5.Uses.map bI.lv),.bool x5.ao])))]) (eQ ⟨R,R,trivial⟩) (mC R (mC (p8 nB) mN)) R (aN R)) ?_
  refine LH.seq ?_
  refine LH.ax [(3,.sptr [.I p1.ak.Time,.I p1.ak.Source,.I p1.ak.Seq,.I p1.Kind,.I p1.Item.ID,.I p1.Item.Version,.str p1.Item.cn,.lst 6 (p1.Item.aK.map ag.lv),.L p1.Item.aL,.I p1.Ref.ID,.I p1.Ref.Version,.I p1.Form]),(6,.eptr 812 p0.aa.length (j4).toNat 0),(19,.bool false)] [(811,.box [.arr 812 p0.aa.length]),(812,.nest 179 5 [(1,108,5),(2,4,1),(3,182,3)] ((p0.aa.map ay.lv).set (j4).toNat (.agg [.I x5.ID,.lst 5 (x5.ah.map ab.lv),.lst 1 (x5.au.map LV.bool),.lst 3 (x5.Uses.map bI.lv),.bool x5.ao])))] R ?_ ?_
  ·refine sN (oM (v:=(.eptr _ _ _ _)) R ?_)
   refine sX ((uB o7 R R R (by simp) (cz nB)).ok) ?_
   exact zS
  refine LH.cond (t:=false) R (fun ln=>?_) (fun ln=>?_)
  ·cases ln
  refine LH.skip ?_
  refine ai ?_
  refine LH.wk (Wk.eq (el:=[(3,.sptr [.I p1.ak.Time,.I p1.ak.Source,.I p1.ak.Seq,.I p1.Kind,.I p1.Item.ID,.I p1.Item.Version,.str p1.Item.cn,.lst 6 (p1.Item.aK.map ag.lv),.L p1.Item.aL,.I p1.Ref.ID,.I p1.Ref.Version,.I p1.Form]),(6,.eptr 812 p0.aa.length (j4).toNat 0)]) (ml:=[(811,.box [.arr 812 p0.aa.length]),(812,.nest 179 5 [(1,108,5),(2,4,1),(3,182,3)] ((p0.aa.map ay.lv).set (j4).toNat (.agg [.I x5.ID,.lst 5 (x5.ah.map ab.lv),.lst 1 (x5.au.map LV.bool),.lst 3 (x5.Uses.map bI.lv),.bool x5.ao])))]) R R R R) ?_
  refine LH.seq ?_
  refine LH.du mixed [] [0,3,3,3,0,0,0,0,0,3,3,3,3,0,0,0] [(3,.sptr [.I p1.ak.Time,.I p1.ak.Source,.I p1.ak.Seq,.I p1.Kind,.I p1.Item.ID,.I p1.Item.Version,.str p1.Item.cn,.lst 6 (p1.Item.aK.map ag.lv),.L p1.Item.aL,.I p1.Ref.ID,.I p1.Ref.Version,.I p1.Form]),(6,.eptr 812 p0.aa.length (j4).toNat 0),(35,.bool (x5.ao || (p1.Item.Version != (i64 ((x5.ah.length:Int)+1)))))] [(811,.box [.arr 812 p0.aa.length]),(812,.nest 179 5 [(1,108,5),(2,4,1),(3,182,3)] ((p0.aa.map ay.lv).set (j4).toNat (.agg [.I x5.ID,.lst 5 (x5.ah.map ab.lv),.lst 1 (x5.au.map LV.bool),.lst 3 (x5.Uses.map bI.lv),.bool x5.ao])))] R R (by kernel_rfl) ?_ ?_
  ·refine aX (oM (v:=(.eptr _ _ _ _)) R ⟨R,?_⟩)
   refine mX (fV R R (by simp) (cz nB)) ?_
   refine mX (fU oL nq sM R R (by simp) (cz nB)) ?_
   refine mX (yy (cs:=[.I x5.ID,.lst 5 (x5.ah.map ab.lv),.lst 1 (x5.au.map LV.bool),.lst 3 (x5.Uses.map bI.lv),.bool x5.ao]) R R (by simp) (cz nB) R R nq B7) ?_
   refine zW R ?_
   by_cases dy:x5.ao=true
   ·refine mF R R dy ?_
    refine mF R R dy ?_
    refine mF R R dy ?_
    refine mF R R dy ?_
    refine mF R R dy ?_
    refine mF R R dy ?_
    refine mF R R dy ?_
    refine mF R R dy ?_
    refine mF R R dy ?_
    refine mF R R dy ?_
    refine aX (aY (cB dy) (v:=(.bool _)) R ⟨R,?_⟩)
    exact m0 (Wk.to (eC R (eC R (eC (cB (mq dy)) eN))) ⟨R,R,trivial⟩ R (aN R))
   ·replace dy:=bF dy
    refine mT R (cB dy) (aX (aC fu bA bn R R R ⟨R,?_⟩))
    refine mT R (cB dy) (aX (aC gh aD aW R R R ⟨R,?_⟩))
    refine mT R (cB dy) (aX (bj R aD b5 ⟨R,?_⟩))
    refine mT R (cB dy) (aX (oM (v:=(.eptr _ _ _ _)) R ⟨R,?_⟩))
    refine mT R (cB dy) (mX (fV R R (by simp) (cz nB)) ?_)
    refine mT R (cB dy) (mX (fU fJ iM oi R R (by simp) (cz nB)) ?_)
    refine mT R (cB dy) (mX (CW (g:=ab.lv) (ys:=x5.ah) (cs:=[.I x5.ID,.lst 5 (x5.ah.map ab.lv),.lst 1 (x5.au.map LV.bool),.lst 3 (x5.Uses.map bI.lv),.bool x5.ao]) R R (by simp) (cz nB) R R iM sJ) ?_)
    refine mT R (cB dy) (mX (yz eR R) ?_)
    refine mT R (cB dy) (aX (b8 R R ⟨R,?_⟩))
    refine mT R (cB dy) (aX (iC R R ⟨R,?_⟩))
    refine aX (bc (cB dy) (v:=(.bool _)) R ⟨R,?_⟩)
    exact m0 (Wk.to (eC R (eC R (eC (cB (gN dy)) eN))) ⟨R,R,trivial⟩ R (aN R))
  refine LH.cond (t:=(x5.ao || (p1.Item.Version != (i64 ((x5.ah.length:Int)+1))))) R (fun gD=>?_) (fun gD=>?_)
  ·replace h:=aB h gD
   refine LH.ax [(4,.I 8)] [(811,.box [.arr 812 p0.aa.length]),(812,.nest 179 5 [(1,108,5),(2,4,1),(3,182,3)] (p0.aa.map ay.lv))] R ?_ ?_
   ·refine br R ?_
    exact s0 (Wk.to (eQ ⟨R,trivial⟩) (mC R (mC (p8 nB).symm mN)) R (aN R))
   refine LH.ret ?_
   refine aO ?_
   obtain rfl:=oI h
   exact aJ (aT Tryz.results142) (bT R (bP ⟨aG (mC R (mC R mN)),R,aN R,Sub.rfl⟩))
  replace h:=aA h gD
  refine LH.skip ?_
  refine ai ?_
  obtain ⟨da,k6,h⟩:=ae h
  obtain ⟨v12,Pg,h⟩:=ae h
  refine LH.du mixed [] [0,0,3,3,3,0,0,0,0,2,3,3,3] [(6,.eptr 812 p0.aa.length (j4).toNat 0)] [(811,.box [.arr 812 p0.aa.length]),(812,.nest 179 5 [(1,108,5),(2,4,1),(3,182,3)] ((p0.aa.map ay.lv).set (j4).toNat (.agg [.I x5.ID,.lst 5 (v12.map ab.lv),.lst 1 (x5.au.map LV.bool),.lst 3 (x5.Uses.map bI.lv),.bool x5.ao])))] R R (by kernel_rfl) ?_ ?_
  ·refine aX (oM (v:=(.eptr _ _ _ _)) R ⟨R,?_⟩)
   refine aX (oM (v:=(.eptr _ _ _ _)) R ⟨R,?_⟩)
   refine mX (fV R R (by simp) (cz nB)) ?_
   refine mX (fU fJ iM oi R R (by simp) (cz nB)) ?_
   refine mX (uD (g:=ab.lv) (ys:=x5.ah) (ls:=List.map ay.lv p0.aa) (cs:=[.I x5.ID,.lst 5 (x5.ah.map ab.lv),.lst 1 (x5.au.map LV.bool),.lst 3 (x5.Uses.map bI.lv),.bool x5.ao]) (id2:=140) (dL:=[.I x5.ID,.fg,.lst 1 (x5.au.map LV.bool),.lst 3 (x5.Uses.map bI.lv),.bool x5.ao]) R R (by simp) (cz nB) R R R iM sJ R) ?_
   refine aX (aC fu bA bn R R R ⟨R,?_⟩)
   refine aX (bw R bA c7 bn R R ⟨R,?_⟩)
   refine aX (dq (args:=[.agg [.I p1.Item.ID,.I p1.Item.Version,.str p1.Item.cn,.lst 6 (p1.Item.aK.map ag.lv),.L p1.Item.aL]]) R ui R (aw bl) (AQ k6) R ⟨R,?_⟩)
   refine aX (jU (f:=ab.lv) (ys:=[da]) eR u9 bn R R R ab.ok ⟨R,?_⟩)
   refine yt (rT (f:=ab.lv) eR u9 bn R R (cc R) R Pg ?_)
   refine mX (fV R R (by simp) (cz nB)) ?_
   refine mX (fU fJ iM oi R R (by simp) (cz nB)) ?_
   refine ZJ (yA (g:=ab.lv) (ys:=v12) (ls:=List.map ay.lv p0.aa) (cs:=[.I x5.ID,.fg,.lst 1 (x5.au.map LV.bool),.lst 3 (x5.Uses.map bI.lv),.bool x5.ao]) (dL:=[.I x5.ID,.lst 5 (v12.map ab.lv),.lst 1 (x5.au.map LV.bool),.lst 3 (x5.Uses.map bI.lv),.bool x5.ao]) R R (by simp) (cz nB) R R R R R (cc R) iM oi R) ?_
   exact zM
  obtain ⟨G6,Ph,h⟩:=ae h
  refine LH.ax [] [(811,.box [.arr 812 (List.length (p0.aa.set (j4).toNat (ay.mk x5.ID v12 G6 x5.Uses x5.ao)))]),(812,.nest 179 5 [(1,108,5),(2,4,1),(3,182,3)] (List.map ay.lv (p0.aa.set (j4).toNat (ay.mk x5.ID v12 G6 x5.Uses x5.ao))))] R ?_ ?_
  ·refine sN (oM (v:=(.eptr _ _ _ _)) R ?_)
   refine sN (oM (v:=(.eptr _ _ _ _)) R ?_)
   refine sX ((fV R R (by simp) (cz nB)).ok) ?_
   refine sX ((fU iK gW lV R R (by simp) (cz nB)).ok) ?_
   refine sX ((uD (g:=LV.bool) (ys:=x5.au) (ls:=List.map ay.lv p0.aa) (cs:=[.I x5.ID,.lst 5 (v12.map ab.lv),.lst 1 (x5.au.map LV.bool),.lst 3 (x5.Uses.map bI.lv),.bool x5.ao]) (id2:=152) (dL:=[.I x5.ID,.lst 5 (v12.map ab.lv),.fg,.lst 3 (x5.Uses.map bI.lv),.bool x5.ao]) R R (by simp) (cz nB) R R R gW si R).ok) ?_
   refine sN (jU (f:=LV.bool) (ys:=[false]) qt Yz sM R R R okB ?_)
   refine sN (rT (f:=LV.bool) qt Yz sM R R (cc R) R Ph ?_)
   refine sX ((fV R R (by simp) (cz nB)).ok) ?_
   refine sX ((fU iK gW lV R R (by simp) (cz nB)).ok) ?_
   refine KW ((yA (g:=LV.bool) (ys:=G6) (ls:=List.map ay.lv p0.aa) (cs:=[.I x5.ID,.lst 5 (v12.map ab.lv),.fg,.lst 3 (x5.Uses.map bI.lv),.bool x5.ao]) (dL:=[.I x5.ID,.lst 5 (v12.map ab.lv),.lst 1 (G6.map LV.bool),.lst 3 (x5.Uses.map bI.lv),.bool x5.ao]) R R (by simp) (cz nB) R R R R R (cc R) gW lV R).ok) ?_
   exact s0 (Wk.to eN (mC ((show _=some (LE.box [.arr 812 p0.aa.length]) from R).trans (by simp)) (mC (Ml R R) mN)) R (aN R))
  refine LH.ax [(4,.I 0)] [(811,.box [.arr 812 (List.length (p0.aa.set (j4).toNat (ay.mk x5.ID v12 G6 x5.Uses x5.ao)))]),(812,.nest 179 5 [(1,108,5),(2,4,1),(3,182,3)] (List.map ay.lv (p0.aa.set (j4).toNat (ay.mk x5.ID v12 G6 x5.Uses x5.ao))))] R ?_ ?_
  ·refine br R ?_
   exact zS
  refine LH.ret ?_
  obtain rfl:=oI h
  exact aJ (aT Tryz.results142) (bT R (bP ⟨aG (mC R (mC R mN)),R,aN R,Sub.rfl⟩))
theorem Nv {F:Nat} {p0:bx} {p1:aS} {r:Option Int} (h:xv F p0 p1=some r):aF Tryz.prog 189 [.ptr 811 0,.agg [.I p1.ID,.I p1.Version]] (Mem.of [(811,.box [.arr 812 p0.aa.length]),(812,.nest 179 5 [(1,108,5),(2,4,1),(3,182,3)] (p0.aa.map ay.lv))]) (sy 812 p0.aa.length r) (Mem.of [(811,.box [.arr 812 p0.aa.length]),(812,.nest 179 5 [(1,108,5),(2,4,1),(3,182,3)] (p0.aa.map ay.lv))]):=by
  unfold xv at h
  refine bh Tryz.func189 R (nT Tryz.ntmps189 R) ?_
  refine LH.wk (Wk.eq (el:=[(0,.ptr 811 0),(1,.agg [.I p1.ID,.I p1.Version])]) (ml:=[(811,.box [.arr 812 p0.aa.length]),(812,.nest 179 5 [(1,108,5),(2,4,1),(3,182,3)] (p0.aa.map ay.lv))]) R R R R) ?_
  refine LH.ax [(0,.ptr 811 0),(3,.sptr [.I p1.ID,.I p1.Version])] [(811,.box [.arr 812 p0.aa.length]),(812,.nest 179 5 [(1,108,5),(2,4,1),(3,182,3)] (p0.aa.map ay.lv))] R ?_ ?_
  ·refine sB (dm R R R R ?_)
   refine sN (oA (v:=.nilp) R ?_)
   exact zS
  obtain ⟨r1,dR,h⟩:=ae h
  refine LH.ax [(3,.sptr [.I p1.ID,.I p1.Version]),(5,sy 812 p0.aa.length r1)] [(811,.box [.arr 812 p0.aa.length]),(812,.nest 179 5 [(1,108,5),(2,4,1),(3,182,3)] (p0.aa.map ay.lv))] R ?_ ?_
  ·refine iA R ?_
   refine sN (aC jo aD aW R R R ?_)
   refine sN (bj R aD b5 ?_)
   refine sN (ej (args:=[.ptr 811 0,.I p1.ID]) (ml:=[(811,.box [.arr 812 p0.aa.length]),(812,.nest 179 5 [(1,108,5),(2,4,1),(3,182,3)] (p0.aa.map ay.lv))]) (cS:=[(811,.box [.arr 812 p0.aa.length]),(812,.nest 179 5 [(1,108,5),(2,4,1),(3,182,3)] (p0.aa.map ay.lv))]) R CS R (aw (aw bl)) (JL dR) ⟨R,R,trivial⟩ (bu R (bu R bX)) R ?_)
   refine sN (oA (v:=(sy _ _ _)) R ?_)
   exact s0 (Wk.to (eQ ⟨R,R,trivial⟩) ⟨R,R,trivial⟩ (by rcases r1 with _ | _ <;> exact R) (aN R))
  rcases r1 with _ | j2
  ·replace h:=Jq h
   refine LH.wk (Wk.eq (el:=[(3,.sptr [.I p1.ID,.I p1.Version]),(5,.nilp)]) (ml:=[(811,.box [.arr 812 p0.aa.length]),(812,.nest 179 5 [(1,108,5),(2,4,1),(3,182,3)] (p0.aa.map ay.lv))]) R R R R) ?_
   refine LH.seq ?_
   refine LH.du mixed [] [0,4,0,0,0,0,0,0,0,0,0,0,0,0,0,0,0] [(5,.nilp),(26,.bool true)] [(811,.box [.arr 812 p0.aa.length]),(812,.nest 179 5 [(1,108,5),(2,4,1),(3,182,3)] (p0.aa.map ay.lv))] R R (by kernel_rfl) ?_ ?_
   ·refine aX (oM (v:=.nilp) R ⟨R,?_⟩)
    refine mM (fun _=>uC o7 R R) ?_
    refine zW R ?_
    refine mF R R R ?_
    refine mF R R R ?_
    refine mF R R R ?_
    refine aX (aY R (v:=(.bool _)) R ⟨R,?_⟩)
    refine zW R ?_
    refine mF R R R ?_
    refine mF R R R ?_
    refine mF R R R ?_
    refine mF R R R ?_
    refine mF R R R ?_
    refine mF R R R ?_
    refine mF R R R ?_
    refine mF R R R ?_
    refine aX (aY R (v:=(.bool _)) R ⟨R,?_⟩)
    exact zM
   refine LH.cond (t:=true) R (fun jj=>?_) (fun jj=>?_)
   ·refine LH.ax [(4,.nilp)] [(811,.box [.arr 812 p0.aa.length]),(812,.nest 179 5 [(1,108,5),(2,4,1),(3,182,3)] (p0.aa.map ay.lv))] R ?_ ?_
    ·refine sN (oA (v:=.nilp) R ?_)
     exact zS
    refine LH.ret ?_
    refine aO ?_
    obtain rfl:=oI h
    exact aJ (aT Tryz.results189) (bT R (bP ⟨aG (mC R (mC R mN)),R,aN R,Sub.rfl⟩))
   ·cases jj
  replace h:=Jr h
  obtain ⟨x3,fj,h⟩:=ae h
  refine LH.wk (Wk.to (el:=[(3,.sptr [.I p1.ID,.I p1.Version]),(5,.eptr 812 p0.aa.length (j2).toNat 0)]) (ml:=[(811,.box [.arr 812 p0.aa.length]),(812,.nest 179 5 [(1,108,5),(2,4,1),(3,182,3)] ((p0.aa.map ay.lv).set (j2).toNat (.agg [.I x3.ID,.lst 5 (x3.ah.map ab.lv),.lst 1 (x3.au.map LV.bool),.lst 3 (x3.Uses.map bI.lv),.bool x3.ao])))]) (eQ ⟨R,R,trivial⟩) (mC R (mC (p8 fj) mN)) R (aN R)) ?_
  refine LH.seq ?_
  refine LH.du mixed [] [0,3,0,0,0,0,0,0,0,0,0,3,3,3,3,0,0] [(5,.eptr 812 p0.aa.length (j2).toNat 0),(26,.bool ((decide (p1.Version<1)) || (decide (p1.Version > (x3.ah.length:Int)))))] [(811,.box [.arr 812 p0.aa.length]),(812,.nest 179 5 [(1,108,5),(2,4,1),(3,182,3)] ((p0.aa.map ay.lv).set (j2).toNat (.agg [.I x3.ID,.lst 5 (x3.ah.map ab.lv),.lst 1 (x3.au.map LV.bool),.lst 3 (x3.Uses.map bI.lv),.bool x3.ao])))] R R (by kernel_rfl) ?_ ?_
  ·refine aX (oM (v:=(.eptr _ _ _ _)) R ⟨R,?_⟩)
   refine mX (uB o7 R R R (by simp) (cz fj)) ?_
   refine zW R ?_
   refine mT R R (aX (aC fq aD aW R R R ⟨R,?_⟩))
   refine mT R R (aX (bj R aD b5 ⟨R,?_⟩))
   refine mT R R (aX (eG R R ⟨R,?_⟩))
   refine aX (bc R (v:=(.bool _)) R ⟨R,?_⟩)
   refine zW R ?_
   by_cases bV:(decide (p1.Version<1))=true
   ·refine mF R R bV ?_
    refine mF R R bV ?_
    refine mF R R bV ?_
    refine mF R R bV ?_
    refine mF R R bV ?_
    refine mF R R bV ?_
    refine mF R R bV ?_
    refine mF R R bV ?_
    refine aX (aY (cB bV) (v:=(.bool _)) R ⟨R,?_⟩)
    exact m0 (Wk.to (eC R (eC (cB (mq bV)) eN)) ⟨R,R,trivial⟩ R (aN R))
   ·replace bV:=bF bV
    refine mT R (cB bV) (aX (aC fq aD aW R R R ⟨R,?_⟩))
    refine mT R (cB bV) (aX (bj R aD b5 ⟨R,?_⟩))
    refine mT R (cB bV) (aX (oM (v:=(.eptr _ _ _ _)) R ⟨R,?_⟩))
    refine mT R (cB bV) (mX (fV R R (by simp) (cz fj)) ?_)
    refine mT R (cB bV) (mX (fU fJ iM oi R R (by simp) (cz fj)) ?_)
    refine mT R (cB bV) (mX (CW (g:=ab.lv) (ys:=x3.ah) (cs:=[.I x3.ID,.lst 5 (x3.ah.map ab.lv),.lst 1 (x3.au.map LV.bool),.lst 3 (x3.Uses.map bI.lv),.bool x3.ao]) R R (by simp) (cz fj) R R iM sJ) ?_)
    refine mT R (cB bV) (mX (yz eR R) ?_)
    refine mT R (cB bV) (aX (jf R R ⟨R,?_⟩))
    refine aX (bc (cB bV) (v:=(.bool _)) R ⟨R,?_⟩)
    exact m0 (Wk.to (eC R (eC (cB (gN bV)) eN)) ⟨R,R,trivial⟩ R (aN R))
  refine LH.cond (t:=((decide (p1.Version<1)) || (decide (p1.Version > (x3.ah.length:Int))))) R (fun ln=>?_) (fun ln=>?_)
  ·replace h:=aB h ln
   refine LH.ax [(4,.nilp)] [(811,.box [.arr 812 p0.aa.length]),(812,.nest 179 5 [(1,108,5),(2,4,1),(3,182,3)] (p0.aa.map ay.lv))] R ?_ ?_
   ·refine sN (oA (v:=.nilp) R ?_)
    exact s0 (Wk.to (eQ ⟨R,trivial⟩) (mC R (mC (p8 fj).symm mN)) R (aN R))
   refine LH.ret ?_
   refine aO ?_
   obtain rfl:=oI h
   exact aJ (aT Tryz.results189) (bT R (bP ⟨aG (mC R (mC R mN)),R,aN R,Sub.rfl⟩))
  replace h:=aA h ln
  refine LH.skip ?_
  refine ai ?_
  refine LH.ax [(4,.eptr 812 p0.aa.length (j2).toNat 0)] [(811,.box [.arr 812 p0.aa.length]),(812,.nest 179 5 [(1,108,5),(2,4,1),(3,182,3)] ((p0.aa.map ay.lv).set (j2).toNat (.agg [.I x3.ID,.lst 5 (x3.ah.map ab.lv),.lst 1 (x3.au.map LV.bool),.lst 3 (x3.Uses.map bI.lv),.bool x3.ao])))] R ?_ ?_
  ·refine sN (oM (v:=(.eptr _ _ _ _)) R ?_)
   refine sN (oA (v:=(.eptr _ _ _ _)) R ?_)
   exact zS
  refine LH.ret ?_
  obtain rfl:=oI h
  exact aJ (aT Tryz.results189) (bT R (bP ⟨aG (mC R (mC (p8 fj).symm mN)),R,aN R,Sub.rfl⟩))
theorem Nu {F:Nat} {p0:bx} {p1:ba} {r:Int × bx} (h:xu F p0 p1=some r):aF Tryz.prog 143 [.ptr 811 0,.agg [.I p1.ak.Time,.I p1.ak.Source,.I p1.ak.Seq,.I p1.Kind,.I p1.Item.ID,.I p1.Item.Version,.str p1.Item.cn,.lst 6 (p1.Item.aK.map ag.lv),.L p1.Item.aL,.I p1.Ref.ID,.I p1.Ref.Version,.I p1.Form]] (Mem.of [(811,.box [.arr 812 p0.aa.length]),(812,.nest 179 5 [(1,108,5),(2,4,1),(3,182,3)] (p0.aa.map ay.lv))]) (.I r.1) (Mem.of [(811,.box [.arr 812 r.2.aa.length]),(812,.nest 179 5 [(1,108,5),(2,4,1),(3,182,3)] (r.2.aa.map ay.lv))]):=by
  unfold xu at h
  refine bh Tryz.func143 R (nT Tryz.ntmps143 R) ?_
  refine LH.wk (Wk.eq (el:=[(0,.ptr 811 0),(1,.agg [.I p1.ak.Time,.I p1.ak.Source,.I p1.ak.Seq,.I p1.Kind,.I p1.Item.ID,.I p1.Item.Version,.str p1.Item.cn,.lst 6 (p1.Item.aK.map ag.lv),.L p1.Item.aL,.I p1.Ref.ID,.I p1.Ref.Version,.I p1.Form])]) (ml:=[(811,.box [.arr 812 p0.aa.length]),(812,.nest 179 5 [(1,108,5),(2,4,1),(3,182,3)] (p0.aa.map ay.lv))]) R R R R) ?_
  refine LH.ax [(0,.ptr 811 0),(3,.sptr [.I p1.ak.Time,.I p1.ak.Source,.I p1.ak.Seq,.I p1.Kind,.I p1.Item.ID,.I p1.Item.Version,.str p1.Item.cn,.lst 6 (p1.Item.aK.map ag.lv),.L p1.Item.aL,.I p1.Ref.ID,.I p1.Ref.Version,.I p1.Form])] [(811,.box [.arr 812 p0.aa.length]),(812,.nest 179 5 [(1,108,5),(2,4,1),(3,182,3)] (p0.aa.map ay.lv))] R ?_ ?_
  ·refine sB (dm R R R R ?_)
   refine br R ?_
   exact zS
  obtain ⟨r1,dR,h⟩:=ae h
  refine LH.ax [(3,.sptr [.I p1.ak.Time,.I p1.ak.Source,.I p1.ak.Seq,.I p1.Kind,.I p1.Item.ID,.I p1.Item.Version,.str p1.Item.cn,.lst 6 (p1.Item.aK.map ag.lv),.L p1.Item.aL,.I p1.Ref.ID,.I p1.Ref.Version,.I p1.Form]),(5,sy 812 p0.aa.length r1)] [(811,.box [.arr 812 p0.aa.length]),(812,.nest 179 5 [(1,108,5),(2,4,1),(3,182,3)] (p0.aa.map ay.lv))] R ?_ ?_
  ·refine iA R ?_
   refine sN (aC fI eA dW R R R ?_)
   refine sN (bw R eA o6 dW R R ?_)
   refine sN (ej (args:=[.ptr 811 0,.agg [.I p1.Ref.ID,.I p1.Ref.Version]]) (ml:=[(811,.box [.arr 812 p0.aa.length]),(812,.nest 179 5 [(1,108,5),(2,4,1),(3,182,3)] (p0.aa.map ay.lv))]) (cS:=[(811,.box [.arr 812 p0.aa.length]),(812,.nest 179 5 [(1,108,5),(2,4,1),(3,182,3)] (p0.aa.map ay.lv))]) R IT R (aw (aw bl)) (Nv dR) ⟨R,R,trivial⟩ (bu R (bu R bX)) R ?_)
   refine sN (oA (v:=(sy _ _ _)) R ?_)
   exact s0 (Wk.to (eQ ⟨R,R,trivial⟩) ⟨R,R,trivial⟩ (by rcases r1 with _ | _ <;> exact R) (aN R))
  rcases r1 with _ | j2
  ·replace h:=Jq h
   refine LH.wk (Wk.eq (el:=[(3,.sptr [.I p1.ak.Time,.I p1.ak.Source,.I p1.ak.Seq,.I p1.Kind,.I p1.Item.ID,.I p1.Item.Version,.str p1.Item.cn,.lst 6 (p1.Item.aK.map ag.lv),.L p1.Item.aL,.I p1.Ref.ID,.I p1.Ref.Version,.I p1.Form]),(5,.nilp)]) (ml:=[(811,.box [.arr 812 p0.aa.length]),(812,.nest 179 5 [(1,108,5),(2,4,1),(3,182,3)] (p0.aa.map ay.lv))]) R R R R) ?_
   refine LH.seq ?_
   refine LH.ax [(3,.sptr [.I p1.ak.Time,.I p1.ak.Source,.I p1.ak.Seq,.I p1.Kind,.I p1.Item.ID,.I p1.Item.Version,.str p1.Item.cn,.lst 6 (p1.Item.aK.map ag.lv),.L p1.Item.aL,.I p1.Ref.ID,.I p1.Ref.Version,.I p1.Form]),(5,.nilp),(11,.bool true)] [(811,.box [.arr 812 p0.aa.length]),(812,.nest 179 5 [(1,108,5),(2,4,1),(3,182,3)] (p0.aa.map ay.lv))] R ?_ ?_
   ·refine sN (oM (v:=.nilp) R ?_)
    refine sX ((uC o7 R R).ok) ?_
    exact zS
   refine LH.cond (t:=true) R (fun jj=>?_) (fun jj=>?_)
   ·refine LH.ax [(4,.I 4)] [(811,.box [.arr 812 p0.aa.length]),(812,.nest 179 5 [(1,108,5),(2,4,1),(3,182,3)] (p0.aa.map ay.lv))] R ?_ ?_
    ·refine br R ?_
     exact zS
    refine LH.ret ?_
    refine aO ?_
    obtain rfl:=oI h
    exact aJ (aT Tryz.results143) (bT R (bP ⟨aG (mC R (mC R mN)),R,aN R,Sub.rfl⟩))
   ·cases jj
  replace h:=Jr h
  obtain ⟨x3,fj,h⟩:=ae h
  refine LH.wk (Wk.to (el:=[(3,.sptr [.I p1.ak.Time,.I p1.ak.Source,.I p1.ak.Seq,.I p1.Kind,.I p1.Item.ID,.I p1.Item.Version,.str p1.Item.cn,.lst 6 (p1.Item.aK.map ag.lv),.L p1.Item.aL,.I p1.Ref.ID,.I p1.Ref.Version,.I p1.Form]),(5,.eptr 812 p0.aa.length (j2).toNat 0)]) (ml:=[(811,.box [.arr 812 p0.aa.length]),(812,.nest 179 5 [(1,108,5),(2,4,1),(3,182,3)] ((p0.aa.map ay.lv).set (j2).toNat (.agg [.I x3.ID,.lst 5 (x3.ah.map ab.lv),.lst 1 (x3.au.map LV.bool),.lst 3 (x3.Uses.map bI.lv),.bool x3.ao])))]) (eQ ⟨R,R,trivial⟩) (mC R (mC (p8 fj) mN)) R (aN R)) ?_
  refine LH.seq ?_
  refine LH.ax [(3,.sptr [.I p1.ak.Time,.I p1.ak.Source,.I p1.ak.Seq,.I p1.Kind,.I p1.Item.ID,.I p1.Item.Version,.str p1.Item.cn,.lst 6 (p1.Item.aK.map ag.lv),.L p1.Item.aL,.I p1.Ref.ID,.I p1.Ref.Version,.I p1.Form]),(5,.eptr 812 p0.aa.length (j2).toNat 0),(11,.bool false)] [(811,.box [.arr 812 p0.aa.length]),(812,.nest 179 5 [(1,108,5),(2,4,1),(3,182,3)] ((p0.aa.map ay.lv).set (j2).toNat (.agg [.I x3.ID,.lst 5 (x3.ah.map ab.lv),.lst 1 (x3.au.map LV.bool),.lst 3 (x3.Uses.map bI.lv),.bool x3.ao])))] R ?_ ?_
  ·refine sN (oM (v:=(.eptr _ _ _ _)) R ?_)
   refine sX ((uB o7 R R R (by simp) (cz fj)).ok) ?_
   exact zS
  refine LH.cond (t:=false) R (fun gZ=>?_) (fun gZ=>?_)
  ·cases gZ
  refine LH.skip ?_
  refine ai ?_
  refine LH.wk (Wk.eq (el:=[(3,.sptr [.I p1.ak.Time,.I p1.ak.Source,.I p1.ak.Seq,.I p1.Kind,.I p1.Item.ID,.I p1.Item.Version,.str p1.Item.cn,.lst 6 (p1.Item.aK.map ag.lv),.L p1.Item.aL,.I p1.Ref.ID,.I p1.Ref.Version,.I p1.Form]),(5,.eptr 812 p0.aa.length (j2).toNat 0)]) (ml:=[(811,.box [.arr 812 p0.aa.length]),(812,.nest 179 5 [(1,108,5),(2,4,1),(3,182,3)] ((p0.aa.map ay.lv).set (j2).toNat (.agg [.I x3.ID,.lst 5 (x3.ah.map ab.lv),.lst 1 (x3.au.map LV.bool),.lst 3 (x3.Uses.map bI.lv),.bool x3.ao])))]) R R R R) ?_
  refine LH.seq ?_
  refine LH.ax [(3,.sptr [.I p1.ak.Time,.I p1.ak.Source,.I p1.ak.Seq,.I p1.Kind,.I p1.Item.ID,.I p1.Item.Version,.str p1.Item.cn,.lst 6 (p1.Item.aK.map ag.lv),.L p1.Item.aL,.I p1.Ref.ID,.I p1.Ref.Version,.I p1.Form]),(5,.eptr 812 p0.aa.length (j2).toNat 0),(15,.bool x3.ao)] [(811,.box [.arr 812 p0.aa.length]),(812,.nest 179 5 [(1,108,5),(2,4,1),(3,182,3)] ((p0.aa.map ay.lv).set (j2).toNat (.agg [.I x3.ID,.lst 5 (x3.ah.map ab.lv),.lst 1 (x3.au.map LV.bool),.lst 3 (x3.Uses.map bI.lv),.bool x3.ao])))] R ?_ ?_
  ·refine sN (oM (v:=(.eptr _ _ _ _)) R ?_)
   refine sX ((fV R R (by simp) (cz fj)).ok) ?_
   refine sX ((fU oL nq sM R R (by simp) (cz fj)).ok) ?_
   refine sX ((yy (cs:=[.I x3.ID,.lst 5 (x3.ah.map ab.lv),.lst 1 (x3.au.map LV.bool),.lst 3 (x3.Uses.map bI.lv),.bool x3.ao]) R R (by simp) (cz fj) R R nq B7).ok) ?_
   exact zS
  refine LH.cond (t:=x3.ao) R (fun fY=>?_) (fun fY=>?_)
  ·replace h:=aB h fY
   refine LH.ax [(4,.I 8)] [(811,.box [.arr 812 p0.aa.length]),(812,.nest 179 5 [(1,108,5),(2,4,1),(3,182,3)] (p0.aa.map ay.lv))] R ?_ ?_
   ·refine br R ?_
    exact s0 (Wk.to (eQ ⟨R,trivial⟩) (mC R (mC (p8 fj).symm mN)) R (aN R))
   refine LH.ret ?_
   refine aO ?_
   obtain rfl:=oI h
   exact aJ (aT Tryz.results143) (bT R (bP ⟨aG (mC R (mC R mN)),R,aN R,Sub.rfl⟩))
  replace h:=aA h fY
  refine LH.skip ?_
  refine ai ?_
  refine LH.wk (Wk.eq (el:=[(3,.sptr [.I p1.ak.Time,.I p1.ak.Source,.I p1.ak.Seq,.I p1.Kind,.I p1.Item.ID,.I p1.Item.Version,.str p1.Item.cn,.lst 6 (p1.Item.aK.map ag.lv),.L p1.Item.aL,.I p1.Ref.ID,.I p1.Ref.Version,.I p1.Form]),(5,.eptr 812 p0.aa.length (j2).toNat 0)]) (ml:=[(811,.box [.arr 812 p0.aa.length]),(812,.nest 179 5 [(1,108,5),(2,4,1),(3,182,3)] ((p0.aa.map ay.lv).set (j2).toNat (.agg [.I x3.ID,.lst 5 (x3.ah.map ab.lv),.lst 1 (x3.au.map LV.bool),.lst 3 (x3.Uses.map bI.lv),.bool x3.ao])))]) R R R R) ?_
  refine LH.seq ?_
  obtain ⟨x7,vA,h⟩:=ae h
  refine LH.du mixed [] [0,3,3,3,0,0,0,0,1119,1119] [(3,.sptr [.I p1.ak.Time,.I p1.ak.Source,.I p1.ak.Seq,.I p1.Kind,.I p1.Item.ID,.I p1.Item.Version,.str p1.Item.cn,.lst 6 (p1.Item.aK.map ag.lv),.L p1.Item.aL,.I p1.Ref.ID,.I p1.Ref.Version,.I p1.Form]),(5,.eptr 812 p0.aa.length (j2).toNat 0),(25,.bool x7)] [(811,.box [.arr 812 p0.aa.length]),(812,.nest 179 5 [(1,108,5),(2,4,1),(3,182,3)] ((p0.aa.map ay.lv).set (j2).toNat (.agg [.I x3.ID,.lst 5 (x3.ah.map ab.lv),.lst 1 (x3.au.map LV.bool),.lst 3 (x3.Uses.map bI.lv),.bool x3.ao])))] R R (by kernel_rfl) ?_ ?_
  ·refine aX (oM (v:=(.eptr _ _ _ _)) R ⟨R,?_⟩)
   refine mX (fV R R (by simp) (cz fj)) ?_
   refine mX (fU iK gW lV R R (by simp) (cz fj)) ?_
   refine mX (oG (g:=LV.bool) (ys:=x3.au) (ls:=List.map ay.lv p0.aa) (cs:=[.I x3.ID,.lst 5 (x3.ah.map ab.lv),.lst 1 (x3.au.map LV.bool),.lst 3 (x3.Uses.map bI.lv),.bool x3.ao]) (id2:=119) (dL:=[.I x3.ID,.lst 5 (x3.ah.map ab.lv),.fg,.lst 3 (x3.Uses.map bI.lv),.bool x3.ao]) R R (by simp) (cz fj) R R R gW si R) ?_
   refine aX (aC fI eA dW R R R ⟨R,?_⟩)
   refine aX (aC fq aD aW R R R ⟨R,?_⟩)
   refine aX (bj R aD b5 ⟨R,?_⟩)
   refine aX (kq R R ⟨R,?_⟩)
   refine mD R R R (fun _ b _ d=>fP (f:=LV.bool) qt nq sM R b R vA d) ?_
   refine mD R R R (fun _ b _ d=>sx (f:=LV.bool) R b (dp vA).2 R R R nq B7 d) ?_
   exact m0 (Wk.trans (Wk.td (id:=812) (id2:=119) (o0:=2) (i:=(j2).toNat) (n2:=List.length x3.au) (g:=LV.bool) (ys:=x3.au) (ls:=List.map ay.lv p0.aa) (cs:=[.I x3.ID,.lst 5 (x3.ah.map ab.lv),.fg,.lst 3 (x3.Uses.map bI.lv),.bool x3.ao]) (dL:=[.I x3.ID,.lst 5 (x3.ah.map ab.lv),.lst 1 (x3.au.map LV.bool),.lst 3 (x3.Uses.map bI.lv),.bool x3.ao]) R (cz fj) R R R R (cc R) R) (Wk.eq R R R R))
  refine LH.cond (t:=x7) R (fun kf=>?_) (fun kf=>?_)
  ·replace h:=aB h kf
   refine LH.ax [(4,.I 5)] [(811,.box [.arr 812 p0.aa.length]),(812,.nest 179 5 [(1,108,5),(2,4,1),(3,182,3)] (p0.aa.map ay.lv))] R ?_ ?_
   ·refine br R ?_
    exact s0 (Wk.to (eQ ⟨R,trivial⟩) (mC R (mC (p8 fj).symm mN)) R (aN R))
   refine LH.ret ?_
   refine aO ?_
   obtain rfl:=oI h
   exact aJ (aT Tryz.results143) (bT R (bP ⟨aG (mC R (mC R mN)),R,aN R,Sub.rfl⟩))
  replace h:=aA h kf
  refine LH.skip ?_
  refine ai ?_
  obtain ⟨x9,yZ,h⟩:=ae h
  refine LH.du mixed [] [0,3,3,3,0,0,0,0,1129,100129] [] [(811,.box [.arr 812 (List.length (p0.aa.set (j2).toNat (ay.mk x3.ID x3.ah (x3.au.set ((i64 (p1.Ref.Version - 1)).toNat) true) x3.Uses x3.ao)))]),(812,.nest 179 5 [(1,108,5),(2,4,1),(3,182,3)] (List.map ay.lv (p0.aa.set (j2).toNat (ay.mk x3.ID x3.ah (x3.au.set ((i64 (p1.Ref.Version - 1)).toNat) true) x3.Uses x3.ao))))] R R (by kernel_rfl) ?_ ?_
  ·refine aX (oM (v:=(.eptr _ _ _ _)) R ⟨R,?_⟩)
   refine mX (fV R R (by simp) (cz fj)) ?_
   refine mX (fU iK gW lV R R (by simp) (cz fj)) ?_
   refine mX (oG (g:=LV.bool) (ys:=x3.au) (ls:=List.map ay.lv p0.aa) (cs:=[.I x3.ID,.lst 5 (x3.ah.map ab.lv),.lst 1 (x3.au.map LV.bool),.lst 3 (x3.Uses.map bI.lv),.bool x3.ao]) (id2:=129) (dL:=[.I x3.ID,.lst 5 (x3.ah.map ab.lv),.fg,.lst 3 (x3.Uses.map bI.lv),.bool x3.ao]) R R (by simp) (cz fj) R R R gW si R) ?_
   refine aX (aC fI eA dW R R R ⟨R,?_⟩)
   refine aX (aC fq aD aW R R R ⟨R,?_⟩)
   refine aX (bj R aD b5 ⟨R,?_⟩)
   refine aX (kq R R ⟨R,?_⟩)
   refine mD R R R (fun _ b _ d=>fP (f:=LV.bool) qt nq sM R b R yZ d) ?_
   refine mS R R R (fun _ b _ d=>nZ (f:=LV.bool) (z':=true) R R R R nq sM b (dp yZ).2 R d) ?_
   exact m0 (Wk.trans (Wk.td (id:=812) (id2:=129) (o0:=2) (i:=(j2).toNat) (n2:=List.length x3.au) (g:=LV.bool) (ys:=(x3.au.set ((i64 (p1.Ref.Version - 1)).toNat) true)) (ls:=List.map ay.lv p0.aa) (cs:=[.I x3.ID,.lst 5 (x3.ah.map ab.lv),.fg,.lst 3 (x3.Uses.map bI.lv),.bool x3.ao]) (dL:=[.I x3.ID,.lst 5 (x3.ah.map ab.lv),.lst 1 (List.map LV.bool (x3.au.set ((i64 (p1.Ref.Version - 1)).toNat) true)),.lst 3 (x3.Uses.map bI.lv),.bool x3.ao]) R (cz fj) R R R (by simp) (cc R) R) (Wk.to eN (mC ((show _=some (LE.box [.arr 812 p0.aa.length]) from R).trans (by simp)) (mC (Ml R R) mN)) R (aN R)))
  refine LH.ax [(4,.I 0)] [(811,.box [.arr 812 (List.length (p0.aa.set (j2).toNat (ay.mk x3.ID x3.ah (x3.au.set ((i64 (p1.Ref.Version - 1)).toNat) true) x3.Uses x3.ao)))]),(812,.nest 179 5 [(1,108,5),(2,4,1),(3,182,3)] (List.map ay.lv (p0.aa.set (j2).toNat (ay.mk x3.ID x3.ah (x3.au.set ((i64 (p1.Ref.Version - 1)).toNat) true) x3.Uses x3.ao))))] R ?_ ?_
  ·refine br R ?_
   exact zS
  refine LH.ret ?_
  obtain rfl:=oI h
  exact aJ (aT Tryz.results143) (bT R (bP ⟨aG (mC R (mC R mN)),R,aN R,Sub.rfl⟩))
theorem UY {p0:bI} {c0:ba} {r:Bool} (h:ET p0 c0=some r):aF Tryz.prog 190 [.agg [.I p0.Version,.I p0.Form,.I p0.Time],.sptr (ba.lv c0).cells] (Mem.of []) (.bool r) (Mem.of []):=by
  unfold ET at h
  refine bh Tryz.func190 R (nT Tryz.ntmps190 R) (LH.aj R (sB (dm R R R R (cr R zQ))) (LH.aj R (sN (aC E4 aD aW R R R (sN (bj R aD b5 (sN (aC mB aD aW R R R (sN (bj R aD b5 (sN (iX R R (cr R zQ))))))))))) (LH.ret ?_)))
  obtain rfl:=oI h
  exact aJ (aT Tryz.results190) (bT R (bP ⟨aG mN,R,aN R,Sub.rfl⟩))
theorem T6 {F:Nat} {p0:List bI} {p1:(bI→Option Bool)} {r:Int} {cH:Nat} {ca:List LV} (rk:dn Tryz.prog cH) (jA:LV.bt ca=true) (rl:∀ (x0:bI) (q:Bool),p1 x0=some q→aF Tryz.prog cH ([.agg [.I x0.Version,.I x0.Form,.I x0.Time]]++ca) (Mem.of []) (.bool q) (Mem.of [])) (h:Eu F p0 p1=some r):aF Tryz.prog 147 [.lst 3 (p0.map bI.lv),.fn cH ca] (Mem.of []) (.I r) (Mem.of []):=by
  have vY:∀ {l:List LV},LV.bt l=true→LV.bt (l++ca)=true:=Ju jA
  have cZ:LV.a8 ca=[]:=et jA
  unfold Eu at h
  refine bh Tryz.func147 R (nT Tryz.ntmps147 R) (LH.wk (Wk.to (el:=[(0,.lst 3 (p0.map bI.lv)),(1,.fn cH ca)]) (ml:=[]) (eQ ⟨R,R,trivial⟩) mN (by simp [av,LV.refs,LV.a8,LV.cells,cP,Env.args,Env.of,Env.put,Env.drop,cZ]) (aN R)) (LH.ax [(0,.lst 3 (p0.map bI.lv)),(1,.fn cH ca)] [] R (br R (s0 (Wk.to (eQ ⟨R,R,trivial⟩) mN (by simp [av,LV.refs,LV.a8,LV.cells,cP,Env.args,Env.of,Env.put,Env.drop,cZ]) (aN R)))) (LH.seq (LH.ax [(0,.lst 3 (p0.map bI.lv)),(1,.fn cH ca),(7,.I (p0.length:Int)),(8,.I 0)] [] R (dY R (sN (bW (f:=bI.lv) qu R (aZ R (s0 (Wk.to (eQ ⟨R,R,R,R,trivial⟩) mN (by simp [av,LV.refs,LV.a8,LV.cells,cP,Env.args,Env.of,Env.put,Env.drop,cZ]) (aN R))))))) (LH.block (LH.loop (fun n e m=>∃ (n1:Int),C0 p0 p1 n n1=some r∧e=Env.of [(0,.lst 3 (p0.map bI.lv)),(1,.fn cH ca),(7,.I (p0.length:Int)),(8,.I n1)]∧m=Mem.of []) F ⟨0,h,R,R⟩ ?_))))))
  clear h
  rintro n e m ⟨n1,h,rfl,rfl⟩
  rcases n with _ | n
  · cases (show Option.none=some _ from h)
  obtain ⟨aH,aI⟩:∃ f,f=C0 p0 p1 n:=⟨_,rfl⟩
  replace h:JB p0 p1 aH n1=some r:=aI ▸ h
  unfold JB at h
  refine LH.ax [(0,.lst 3 (p0.map bI.lv)),(1,.fn cH ca),(7,.I (p0.length:Int)),(8,.I n1),(9,.bool (decide (n1<(p0.length:Int))))] [] R (sN (eG R R (s0 (Wk.to (eQ ⟨R,R,R,R,R,trivial⟩) mN (by simp [av,LV.refs,LV.a8,LV.cells,cP,Env.args,Env.of,Env.put,Env.drop,cZ]) (aN R))))) (LH.seq (LH.cond (t:=(decide (n1<(p0.length:Int)))) R (fun dI=>?_) (fun dI=>?_)))
  ·replace h:=aB h dI
   refine LH.skip (ai (LH.wk (Wk.to (el:=[(0,.lst 3 (p0.map bI.lv)),(1,.fn cH ca),(7,.I (p0.length:Int)),(8,.I n1)]) (ml:=[]) (eQ ⟨R,R,R,R,trivial⟩) mN (by simp [av,LV.refs,LV.a8,LV.cells,cP,Env.args,Env.of,Env.put,Env.drop,cZ]) (aN R)) (LH.seq (LH.block (LH.ax [(0,.lst 3 (p0.map bI.lv)),(1,.fn cH ca),(5,.I n1),(7,.I (p0.length:Int)),(8,.I n1)] [] R (aZ R (br R (s0 (Wk.to (eQ ⟨R,R,R,R,R,trivial⟩) mN (by simp [av,LV.refs,LV.a8,LV.cells,cP,Env.args,Env.of,Env.put,Env.drop,cZ]) (aN R))))) ?_)))))
   obtain ⟨x3,fj,h⟩:=ae h
   obtain ⟨r4,F1,h⟩:=ae h
   refine LH.ax [(0,.lst 3 (p0.map bI.lv)),(1,.fn cH ca),(5,.I n1),(7,.I (p0.length:Int)),(8,.I n1),(16,.bool r4)] [] R ?_ ?_
   ·refine sN (oM (v:=(.fn _ _)) R (dY R (aZ R (sN (eF (f:=bI.lv) qu BL ve R R bI.ok fj R (sN (bw R BL NK ve R R (sN (dq (args:=[.agg [.I x3.Version,.I x3.Form,.I x3.Time]]++ca) (eH:=[.agg [.I x3.Version,.I x3.Form,.I x3.Time]]++ca) R rk R fl.rfl (rl _ _ F1) (vY R) ?_)))))))))
    exact s0 (Wk.to (eQ ⟨R,R,R,R,R,R,trivial⟩) mN (by simp [av,LV.refs,LV.a8,LV.cells,cP,Env.args,Env.of,Env.put,Env.drop,cZ]) (aN R))
   refine LH.cond (t:=r4) R (fun gZ=>?_) (fun gZ=>?_)
   ·replace h:=aB h gZ
    refine LH.ax [(4,.I n1)] [] R (aZ R (br R (s0 (Wk.to (eQ ⟨R,trivial⟩) mN (by simp [av,LV.refs,LV.a8,LV.cells,cP,Env.args,Env.of,Env.put,Env.drop,cZ]) (aN R))))) (LH.ret (bH (aO (dg (bH (aO ?_))))))
    obtain rfl:=oI h
    exact aJ (aT Tryz.results147) (bT R (bP ⟨aG mN,R,aN R,Sub.rfl⟩))
   replace h:=aA h gZ
   refine LH.skip (aQ (ai (LH.df [(0,.lst 3 (p0.map bI.lv)),(1,.fn cH ca),(7,.I (p0.length:Int)),(8,.I (i64 (n1+1)))] [] R (sN (b8 R R (aZ R (s0 (Wk.to (eQ ⟨R,R,R,R,trivial⟩) mN (by simp [av,LV.refs,LV.a8,LV.cells,cP,Env.args,Env.of,Env.put,Env.drop,cZ]) (aN R)))))) ?_)))
   exact a7 ⟨(i64 (n1+1)),aI ▸ h,R,R⟩ (Wk.to (eQ ⟨R,R,R,R,trivial⟩) mN (by simp [av,LV.refs,LV.a8,LV.cells,cP,Env.args,Env.of,Env.put,Env.drop,cZ]) (aN R))
  replace h:=aA h dI
  refine LH.exit (cg (bO (bK (ai (LH.ax [(4,.I (-1))] [] R (br R (s0 (Wk.to (eQ ⟨R,trivial⟩) mN (by simp [av,LV.refs,LV.a8,LV.cells,cP,Env.args,Env.of,Env.put,Env.drop,cZ]) (aN R)))) (LH.ret ?_))))))
  obtain rfl:=oI h
  exact aJ (aT Tryz.results147) (bT R (bP ⟨aG mN,R,aN R,Sub.rfl⟩))
theorem M9 {F:Nat} {p0:List bI} {p1:(bI→Option Bool)} {r:Bool} {cH:Nat} {ca:List LV} (rk:dn Tryz.prog cH) (jA:LV.bt ca=true) (rl:∀ (x0:bI) (q:Bool),p1 x0=some q→aF Tryz.prog cH ([.agg [.I x0.Version,.I x0.Form,.I x0.Time]]++ca) (Mem.of []) (.bool q) (Mem.of [])) (h:Gj F p0 p1=some r):aF Tryz.prog 77 [.lst 3 (p0.map bI.lv),.fn cH ca] (Mem.of []) (.bool r) (Mem.of []):=by
  have vY:∀ {l:List LV},LV.bt l=true→LV.bt (l++ca)=true:=Ju jA
  have cZ:LV.a8 ca=[]:=et jA
  unfold Gj at h
  refine bh Tryz.func77 R (nT Tryz.ntmps77 R) (LH.wk (Wk.to (el:=[(0,.lst 3 (p0.map bI.lv)),(1,.fn cH ca)]) (ml:=[]) (eQ ⟨R,R,trivial⟩) mN (by simp [av,LV.refs,LV.a8,LV.cells,cP,Env.args,Env.of,Env.put,Env.drop,cZ]) (aN R)) (LH.ax [(0,.lst 3 (p0.map bI.lv)),(1,.fn cH ca)] [] R (cr R (s0 (Wk.to (eQ ⟨R,R,trivial⟩) mN (by simp [av,LV.refs,LV.a8,LV.cells,cP,Env.args,Env.of,Env.put,Env.drop,cZ]) (aN R)))) ?_))
  obtain ⟨r1,dR,h⟩:=ae h
  refine LH.ax [(4,.bool (decide (r1 ≥ 0)))] [] R (dY R (sN (oM (v:=(.fn _ _)) R (sN (dq (args:=[.lst 3 (p0.map bI.lv),.fn cH ca]) R PS R (aw (aw bl)) (T6 rk jA rl dR) (by simp [LV.pure,LV.bt,jA]) (sN (oY R R (cr R (s0 (Wk.to (eQ ⟨R,trivial⟩) mN (by simp [av,LV.refs,LV.a8,LV.cells,cP,Env.args,Env.of,Env.put,Env.drop,cZ]) (aN R))))))))))) (LH.ret ?_)
  obtain rfl:=oI h
  exact aJ (aT Tryz.results77) (bT R (bP ⟨aG mN,R,aN R,Sub.rfl⟩))
theorem ND {F:Nat} {p0:bx} {p1:ba} {r:Int × bx} (h:lD F p0 p1=some r):aF Tryz.prog 144 [.ptr 811 0,.agg [.I p1.ak.Time,.I p1.ak.Source,.I p1.ak.Seq,.I p1.Kind,.I p1.Item.ID,.I p1.Item.Version,.str p1.Item.cn,.lst 6 (p1.Item.aK.map ag.lv),.L p1.Item.aL,.I p1.Ref.ID,.I p1.Ref.Version,.I p1.Form]] (Mem.of [(811,.box [.arr 812 p0.aa.length]),(812,.nest 179 5 [(1,108,5),(2,4,1),(3,182,3)] (p0.aa.map ay.lv))]) (.I r.1) (Mem.of [(811,.box [.arr 812 r.2.aa.length]),(812,.nest 179 5 [(1,108,5),(2,4,1),(3,182,3)] (r.2.aa.map ay.lv))]):=by
  unfold lD at h
  refine bh Tryz.func144 R (nT Tryz.ntmps144 R) ?_
  refine LH.wk (Wk.eq (el:=[(0,.ptr 811 0),(1,.agg [.I p1.ak.Time,.I p1.ak.Source,.I p1.ak.Seq,.I p1.Kind,.I p1.Item.ID,.I p1.Item.Version,.str p1.Item.cn,.lst 6 (p1.Item.aK.map ag.lv),.L p1.Item.aL,.I p1.Ref.ID,.I p1.Ref.Version,.I p1.Form])]) (ml:=[(811,.box [.arr 812 p0.aa.length]),(812,.nest 179 5 [(1,108,5),(2,4,1),(3,182,3)] (p0.aa.map ay.lv))]) R R R R) ?_
  refine LH.ax [(0,.ptr 811 0),(3,.sptr [.I p1.ak.Time,.I p1.ak.Source,.I p1.ak.Seq,.I p1.Kind,.I p1.Item.ID,.I p1.Item.Version,.str p1.Item.cn,.lst 6 (p1.Item.aK.map ag.lv),.L p1.Item.aL,.I p1.Ref.ID,.I p1.Ref.Version,.I p1.Form])] [(811,.box [.arr 812 p0.aa.length]),(812,.nest 179 5 [(1,108,5),(2,4,1),(3,182,3)] (p0.aa.map ay.lv))] R ?_ ?_
  ·refine sB (dm R R R R ?_)
   refine br R ?_
   exact zS
  obtain ⟨r1,dR,h⟩:=ae h
  refine LH.ax [(3,.sptr [.I p1.ak.Time,.I p1.ak.Source,.I p1.ak.Seq,.I p1.Kind,.I p1.Item.ID,.I p1.Item.Version,.str p1.Item.cn,.lst 6 (p1.Item.aK.map ag.lv),.L p1.Item.aL,.I p1.Ref.ID,.I p1.Ref.Version,.I p1.Form]),(5,sy 812 p0.aa.length r1)] [(811,.box [.arr 812 p0.aa.length]),(812,.nest 179 5 [(1,108,5),(2,4,1),(3,182,3)] (p0.aa.map ay.lv))] R ?_ ?_
  ·refine iA R ?_
   refine sN (aC fI eA dW R R R ?_)
   refine sN (bw R eA o6 dW R R ?_)
   refine sN (ej (args:=[.ptr 811 0,.agg [.I p1.Ref.ID,.I p1.Ref.Version]]) (ml:=[(811,.box [.arr 812 p0.aa.length]),(812,.nest 179 5 [(1,108,5),(2,4,1),(3,182,3)] (p0.aa.map ay.lv))]) (cS:=[(811,.box [.arr 812 p0.aa.length]),(812,.nest 179 5 [(1,108,5),(2,4,1),(3,182,3)] (p0.aa.map ay.lv))]) R IT R (aw (aw bl)) (Nv dR) ⟨R,R,trivial⟩ (bu R (bu R bX)) R ?_)
   refine sN (oA (v:=(sy _ _ _)) R ?_)
   exact s0 (Wk.to (eQ ⟨R,R,trivial⟩) ⟨R,R,trivial⟩ (by rcases r1 with _ | _ <;> exact R) (aN R))
  rcases r1 with _ | j2
  ·replace h:=Jq h
   refine LH.wk (Wk.eq (el:=[(3,.sptr [.I p1.ak.Time,.I p1.ak.Source,.I p1.ak.Seq,.I p1.Kind,.I p1.Item.ID,.I p1.Item.Version,.str p1.Item.cn,.lst 6 (p1.Item.aK.map ag.lv),.L p1.Item.aL,.I p1.Ref.ID,.I p1.Ref.Version,.I p1.Form]),(5,.nilp)]) (ml:=[(811,.box [.arr 812 p0.aa.length]),(812,.nest 179 5 [(1,108,5),(2,4,1),(3,182,3)] (p0.aa.map ay.lv))]) R R R R) ?_
   refine LH.seq ?_
   refine LH.ax [(3,.sptr [.I p1.ak.Time,.I p1.ak.Source,.I p1.ak.Seq,.I p1.Kind,.I p1.Item.ID,.I p1.Item.Version,.str p1.Item.cn,.lst 6 (p1.Item.aK.map ag.lv),.L p1.Item.aL,.I p1.Ref.ID,.I p1.Ref.Version,.I p1.Form]),(5,.nilp),(11,.bool true)] [(811,.box [.arr 812 p0.aa.length]),(812,.nest 179 5 [(1,108,5),(2,4,1),(3,182,3)] (p0.aa.map ay.lv))] R ?_ ?_
   ·refine sN (oM (v:=.nilp) R ?_)
    refine sX ((uC o7 R R).ok) ?_
    exact zS
   refine LH.cond (t:=true) R (fun jj=>?_) (fun jj=>?_)
   ·refine LH.ax [(4,.I 4)] [(811,.box [.arr 812 p0.aa.length]),(812,.nest 179 5 [(1,108,5),(2,4,1),(3,182,3)] (p0.aa.map ay.lv))] R ?_ ?_
    ·refine br R ?_
     exact zS
    refine LH.ret ?_
    refine aO ?_
    obtain rfl:=oI h
    exact aJ (aT Tryz.results144) (bT R (bP ⟨aG (mC R (mC R mN)),R,aN R,Sub.rfl⟩))
   ·cases jj
  replace h:=Jr h
  obtain ⟨x3,fj,h⟩:=ae h
  refine LH.wk (Wk.to (el:=[(3,.sptr [.I p1.ak.Time,.I p1.ak.Source,.I p1.ak.Seq,.I p1.Kind,.I p1.Item.ID,.I p1.Item.Version,.str p1.Item.cn,.lst 6 (p1.Item.aK.map ag.lv),.L p1.Item.aL,.I p1.Ref.ID,.I p1.Ref.Version,.I p1.Form]),(5,.eptr 812 p0.aa.length (j2).toNat 0)]) (ml:=[(811,.box [.arr 812 p0.aa.length]),(812,.nest 179 5 [(1,108,5),(2,4,1),(3,182,3)] ((p0.aa.map ay.lv).set (j2).toNat (.agg [.I x3.ID,.lst 5 (x3.ah.map ab.lv),.lst 1 (x3.au.map LV.bool),.lst 3 (x3.Uses.map bI.lv),.bool x3.ao])))]) (eQ ⟨R,R,trivial⟩) (mC R (mC (p8 fj) mN)) R (aN R)) ?_
  refine LH.seq ?_
  refine LH.ax [(3,.sptr [.I p1.ak.Time,.I p1.ak.Source,.I p1.ak.Seq,.I p1.Kind,.I p1.Item.ID,.I p1.Item.Version,.str p1.Item.cn,.lst 6 (p1.Item.aK.map ag.lv),.L p1.Item.aL,.I p1.Ref.ID,.I p1.Ref.Version,.I p1.Form]),(5,.eptr 812 p0.aa.length (j2).toNat 0),(11,.bool false)] [(811,.box [.arr 812 p0.aa.length]),(812,.nest 179 5 [(1,108,5),(2,4,1),(3,182,3)] ((p0.aa.map ay.lv).set (j2).toNat (.agg [.I x3.ID,.lst 5 (x3.ah.map ab.lv),.lst 1 (x3.au.map LV.bool),.lst 3 (x3.Uses.map bI.lv),.bool x3.ao])))] R ?_ ?_
  ·refine sN (oM (v:=(.eptr _ _ _ _)) R ?_)
   refine sX ((uB o7 R R R (by simp) (cz fj)).ok) ?_
   exact zS
  refine LH.cond (t:=false) R (fun gZ=>?_) (fun gZ=>?_)
  ·cases gZ
  refine LH.skip ?_
  refine ai ?_
  refine LH.wk (Wk.eq (el:=[(3,.sptr [.I p1.ak.Time,.I p1.ak.Source,.I p1.ak.Seq,.I p1.Kind,.I p1.Item.ID,.I p1.Item.Version,.str p1.Item.cn,.lst 6 (p1.Item.aK.map ag.lv),.L p1.Item.aL,.I p1.Ref.ID,.I p1.Ref.Version,.I p1.Form]),(5,.eptr 812 p0.aa.length (j2).toNat 0)]) (ml:=[(811,.box [.arr 812 p0.aa.length]),(812,.nest 179 5 [(1,108,5),(2,4,1),(3,182,3)] ((p0.aa.map ay.lv).set (j2).toNat (.agg [.I x3.ID,.lst 5 (x3.ah.map ab.lv),.lst 1 (x3.au.map LV.bool),.lst 3 (x3.Uses.map bI.lv),.bool x3.ao])))]) R R R R) ?_
  refine LH.seq ?_
  obtain ⟨w7,hv,h⟩:=ae h
  refine LH.du mixed [] [0,3,3,3,0,0,3,3,3,0,0,0,0,1,1,0,0] [(3,.sptr [.I p1.ak.Time,.I p1.ak.Source,.I p1.ak.Seq,.I p1.Kind,.I p1.Item.ID,.I p1.Item.Version,.str p1.Item.cn,.lst 6 (p1.Item.aK.map ag.lv),.L p1.Item.aL,.I p1.Ref.ID,.I p1.Ref.Version,.I p1.Form]),(5,.eptr 812 p0.aa.length (j2).toNat 0),(28,.bool w7)] [(811,.box [.arr 812 p0.aa.length]),(812,.nest 179 5 [(1,108,5),(2,4,1),(3,182,3)] ((p0.aa.map ay.lv).set (j2).toNat (.agg [.I x3.ID,.lst 5 (x3.ah.map ab.lv),.lst 1 (x3.au.map LV.bool),.lst 3 (x3.Uses.map bI.lv),.bool x3.ao])))] R R (by kernel_rfl) ?_ ?_
  ·refine aX (oM (v:=(.eptr _ _ _ _)) R ⟨R,?_⟩)
   refine mX (fV R R (by simp) (cz fj)) ?_
   refine mX (fU oL nq sM R R (by simp) (cz fj)) ?_
   refine mX (yy (cs:=[.I x3.ID,.lst 5 (x3.ah.map ab.lv),.lst 1 (x3.au.map LV.bool),.lst 3 (x3.Uses.map bI.lv),.bool x3.ao]) R R (by simp) (cz fj) R R nq B7) ?_
   refine zW R ?_
   by_cases cA:x3.ao=true
   ·replace hv:=aB hv cA
    refine mF R R cA ?_
    refine mF R R cA ?_
    refine mF R R cA ?_
    refine mF R R cA ?_
    refine mF R R cA ?_
    refine mF R R cA ?_
    refine mF R R cA ?_
    refine mF R R cA ?_
    refine mF R R cA ?_
    refine mF R R cA ?_
    refine mF R R cA ?_
    refine aX (aY (cB cA) (v:=(.bool _)) R ⟨R,?_⟩)
    obtain rfl:=oI hv
    exact zM
   ·replace cA:=bF cA
    replace hv:=aA hv cA
    refine mT R (cB cA) (aX (oM (v:=(.eptr _ _ _ _)) R ⟨R,?_⟩))
    refine mT R (cB cA) (mX (fV R R (by simp) (cz fj)) ?_)
    refine mT R (cB cA) (mX (fU iK gW lV R R (by simp) (cz fj)) ?_)
    refine mT R (cB cA) (mX (oG (g:=LV.bool) (ys:=x3.au) (ls:=List.map ay.lv p0.aa) (cs:=[.I x3.ID,.lst 5 (x3.ah.map ab.lv),.lst 1 (x3.au.map LV.bool),.lst 3 (x3.Uses.map bI.lv),.bool x3.ao]) (id2:=120) (dL:=[.I x3.ID,.lst 5 (x3.ah.map ab.lv),.fg,.lst 3 (x3.Uses.map bI.lv),.bool x3.ao]) R R (by simp) (cz fj) R R R gW si R) ?_)
    refine mT R (cB cA) (aX (aC fI eA dW R R R ⟨R,?_⟩))
    refine mT R (cB cA) (aX (aC fq aD aW R R R ⟨R,?_⟩))
    refine mT R (cB cA) (aX (bj R aD b5 ⟨R,?_⟩))
    refine mT R (cB cA) (aX (kq R R ⟨R,?_⟩))
    obtain ⟨x9,yZ,hv⟩:=ae hv
    refine mT R (cB cA) (KU (fP (f:=LV.bool) qt nq sM R R R yZ ⟨R,?_⟩))
    refine mT R (cB cA) (KU (sx (f:=LV.bool) R R (dp yZ).2 R R R nq B7 ⟨R,?_⟩))
    refine mT R (cB cA) (aX (eM R ⟨R,?_⟩))
    refine aX (bc (cB cA) (v:=(.bool _)) R ⟨R,?_⟩)
    obtain rfl:=oI hv
    exact m0 (Wk.trans (Wk.td (id:=812) (id2:=120) (o0:=2) (i:=(j2).toNat) (n2:=List.length x3.au) (g:=LV.bool) (ys:=x3.au) (ls:=List.map ay.lv p0.aa) (cs:=[.I x3.ID,.lst 5 (x3.ah.map ab.lv),.fg,.lst 3 (x3.Uses.map bI.lv),.bool x3.ao]) (dL:=[.I x3.ID,.lst 5 (x3.ah.map ab.lv),.lst 1 (x3.au.map LV.bool),.lst 3 (x3.Uses.map bI.lv),.bool x3.ao]) R (cz fj) R R R R (cc R) R) (Wk.eq R R R R))
  clear hv
  refine LH.cond (t:=w7) R (fun gD=>?_) (fun gD=>?_)
  ·replace h:=aB h gD
   refine LH.ax [(4,.I 8)] [(811,.box [.arr 812 p0.aa.length]),(812,.nest 179 5 [(1,108,5),(2,4,1),(3,182,3)] (p0.aa.map ay.lv))] R ?_ ?_
   ·refine br R ?_
    exact s0 (Wk.to (eQ ⟨R,trivial⟩) (mC R (mC (p8 fj).symm mN)) R (aN R))
   refine LH.ret ?_
   refine aO ?_
   obtain rfl:=oI h
   exact aJ (aT Tryz.results144) (bT R (bP ⟨aG (mC R (mC R mN)),R,aN R,Sub.rfl⟩))
  replace h:=aA h gD
  refine LH.skip ?_
  refine ai ?_
  refine LH.wk (Wk.eq (el:=[(3,.sptr [.I p1.ak.Time,.I p1.ak.Source,.I p1.ak.Seq,.I p1.Kind,.I p1.Item.ID,.I p1.Item.Version,.str p1.Item.cn,.lst 6 (p1.Item.aK.map ag.lv),.L p1.Item.aL,.I p1.Ref.ID,.I p1.Ref.Version,.I p1.Form]),(5,.eptr 812 p0.aa.length (j2).toNat 0)]) (ml:=[(811,.box [.arr 812 p0.aa.length]),(812,.nest 179 5 [(1,108,5),(2,4,1),(3,182,3)] ((p0.aa.map ay.lv).set (j2).toNat (.agg [.I x3.ID,.lst 5 (x3.ah.map ab.lv),.lst 1 (x3.au.map LV.bool),.lst 3 (x3.Uses.map bI.lv),.bool x3.ao])))]) R R R R) ?_
  refine LH.seq ?_
  obtain ⟨da,k6,h⟩:=ae h
  refine LH.ax [(3,.sptr [.I p1.ak.Time,.I p1.ak.Source,.I p1.ak.Seq,.I p1.Kind,.I p1.Item.ID,.I p1.Item.Version,.str p1.Item.cn,.lst 6 (p1.Item.aK.map ag.lv),.L p1.Item.aL,.I p1.Ref.ID,.I p1.Ref.Version,.I p1.Form]),(5,.eptr 812 p0.aa.length (j2).toNat 0),(34,.bool da)] [(811,.box [.arr 812 p0.aa.length]),(812,.nest 179 5 [(1,108,5),(2,4,1),(3,182,3)] ((p0.aa.map ay.lv).set (j2).toNat (.agg [.I x3.ID,.lst 5 (x3.ah.map ab.lv),.lst 1 (x3.au.map LV.bool),.lst 3 (x3.Uses.map bI.lv),.bool x3.ao])))] R ?_ ?_
  ·refine sN (oM (v:=(.eptr _ _ _ _)) R ?_)
   refine sX ((fV R R (by simp) (cz fj)).ok) ?_
   refine sX ((fU jq iw nr R R (by simp) (cz fj)).ok) ?_
   refine sX ((oG (g:=bI.lv) (ys:=x3.Uses) (ls:=List.map ay.lv p0.aa) (cs:=[.I x3.ID,.lst 5 (x3.ah.map ab.lv),.lst 1 (x3.au.map LV.bool),.lst 3 (x3.Uses.map bI.lv),.bool x3.ao]) (id2:=132) (dL:=[.I x3.ID,.lst 5 (x3.ah.map ab.lv),.lst 1 (x3.au.map LV.bool),.fg,.bool x3.ao]) R R (by simp) (cz fj) R R R iw sj R).ok) ?_
   refine sN (z7 (vs:=[.sptr [.I p1.ak.Time,.I p1.ak.Source,.I p1.ak.Seq,.I p1.Kind,.I p1.Item.ID,.I p1.Item.Version,.str p1.Item.cn,.lst 6 (p1.Item.aK.map ag.lv),.L p1.Item.aL,.I p1.Ref.ID,.I p1.Ref.Version,.I p1.Form]]) R ?_)
   refine sN (ej (args:=[.arr 132 x3.Uses.length,.fn 190 [.sptr [.I p1.ak.Time,.I p1.ak.Source,.I p1.ak.Seq,.I p1.Kind,.I p1.Item.ID,.I p1.Item.Version,.str p1.Item.cn,.lst 6 (p1.Item.aK.map ag.lv),.L p1.Item.aL,.I p1.Ref.ID,.I p1.Ref.Version,.I p1.Form]]]) (ml:=[(132,.arr 182 3 (x3.Uses.map bI.lv))]) (cS:=[(132,.arr 182 3 (x3.Uses.map bI.lv))]) R M1 R (aw (aw bl)) (aF.LM 132 182 3 (xs:=List.map bI.lv x3.Uses) (M9 (cH:=190) (ca:=[.sptr [.I p1.ak.Time,.I p1.ak.Source,.I p1.ak.Seq,.I p1.Kind,.I p1.Item.ID,.I p1.Item.Version,.str p1.Item.cn,.lst 6 (p1.Item.aK.map ag.lv),.L p1.Item.aL,.I p1.Ref.ID,.I p1.Ref.Version,.I p1.Form]]) P4 R (fun _ _ h=>UY h) k6) (.row (by simp) (.gT R .nil)) R R R R R TZ) ⟨R,trivial⟩ (bu R bX) R ?_)
   exact s0 (Wk.trans (Wk.td (id:=812) (id2:=132) (o0:=3) (i:=(j2).toNat) (n2:=List.length x3.Uses) (g:=bI.lv) (ys:=x3.Uses) (ls:=List.map ay.lv p0.aa) (cs:=[.I x3.ID,.lst 5 (x3.ah.map ab.lv),.lst 1 (x3.au.map LV.bool),.fg,.bool x3.ao]) (dL:=[.I x3.ID,.lst 5 (x3.ah.map ab.lv),.lst 1 (x3.au.map LV.bool),.lst 3 (x3.Uses.map bI.lv),.bool x3.ao]) R (cz fj) R R R R (cc R) R) (Wk.eq R R R R))
  refine LH.cond (t:=da) R (fun gl=>?_) (fun gl=>?_)
  ·replace h:=aB h gl
   refine LH.ax [(4,.I 5)] [(811,.box [.arr 812 p0.aa.length]),(812,.nest 179 5 [(1,108,5),(2,4,1),(3,182,3)] (p0.aa.map ay.lv))] R ?_ ?_
   ·refine br R ?_
    exact s0 (Wk.to (eQ ⟨R,trivial⟩) (mC R (mC (p8 fj).symm mN)) R (aN R))
   refine LH.ret ?_
   refine aO ?_
   obtain rfl:=oI h
   exact aJ (aT Tryz.results144) (bT R (bP ⟨aG (mC R (mC R mN)),R,aN R,Sub.rfl⟩))
  replace h:=aA h gl
  refine LH.skip ?_
  refine ai ?_
  refine LH.wk (Wk.eq (el:=[(3,.sptr [.I p1.ak.Time,.I p1.ak.Source,.I p1.ak.Seq,.I p1.Kind,.I p1.Item.ID,.I p1.Item.Version,.str p1.Item.cn,.lst 6 (p1.Item.aK.map ag.lv),.L p1.Item.aL,.I p1.Ref.ID,.I p1.Ref.Version,.I p1.Form]),(5,.eptr 812 p0.aa.length (j2).toNat 0)]) (ml:=[(811,.box [.arr 812 p0.aa.length]),(812,.nest 179 5 [(1,108,5),(2,4,1),(3,182,3)] ((p0.aa.map ay.lv).set (j2).toNat (.agg [.I x3.ID,.lst 5 (x3.ah.map ab.lv),.lst 1 (x3.au.map LV.bool),.lst 3 (x3.Uses.map bI.lv),.bool x3.ao])))]) R R R R) ?_
  refine LH.seq ?_
  refine LH.ax [(3,.sptr [.I p1.ak.Time,.I p1.ak.Source,.I p1.ak.Seq,.I p1.Kind,.I p1.Item.ID,.I p1.Item.Version,.str p1.Item.cn,.lst 6 (p1.Item.aK.map ag.lv),.L p1.Item.aL,.I p1.Ref.ID,.I p1.Ref.Version,.I p1.Form]),(5,.eptr 812 p0.aa.length (j2).toNat 0),(40,.bool (decide ((x3.Uses.length:Int) ≥ 300)))] [(811,.box [.arr 812 p0.aa.length]),(812,.nest 179 5 [(1,108,5),(2,4,1),(3,182,3)] ((p0.aa.map ay.lv).set (j2).toNat (.agg [.I x3.ID,.lst 5 (x3.ah.map ab.lv),.lst 1 (x3.au.map LV.bool),.lst 3 (x3.Uses.map bI.lv),.bool x3.ao])))] R ?_ ?_
  ·refine sN (oM (v:=(.eptr _ _ _ _)) R ?_)
   refine sX ((fV R R (by simp) (cz fj)).ok) ?_
   refine sX ((fU jq iw nr R R (by simp) (cz fj)).ok) ?_
   refine sX ((CW (g:=bI.lv) (ys:=x3.Uses) (cs:=[.I x3.ID,.lst 5 (x3.ah.map ab.lv),.lst 1 (x3.au.map LV.bool),.lst 3 (x3.Uses.map bI.lv),.bool x3.ao]) R R (by simp) (cz fj) R R iw sj).ok) ?_
   refine sX ((yz qu R).ok) ?_
   refine sN (oY R R ?_)
   exact zS
  refine LH.cond (t:=(decide ((x3.Uses.length:Int) ≥ 300))) R (fun jc=>?_) (fun jc=>?_)
  ·replace h:=aB h jc
   refine LH.ax [(4,.I 3)] [(811,.box [.arr 812 p0.aa.length]),(812,.nest 179 5 [(1,108,5),(2,4,1),(3,182,3)] (p0.aa.map ay.lv))] R ?_ ?_
   ·refine br R ?_
    exact s0 (Wk.to (eQ ⟨R,trivial⟩) (mC R (mC (p8 fj).symm mN)) R (aN R))
   refine LH.ret ?_
   refine aO ?_
   obtain rfl:=oI h
   exact aJ (aT Tryz.results144) (bT R (bP ⟨aG (mC R (mC R mN)),R,aN R,Sub.rfl⟩))
  replace h:=aA h jc
  refine LH.skip ?_
  refine ai ?_
  obtain ⟨DS,Pj,h⟩:=ae h
  refine LH.du mixed [] [0,0,3,3,3,0,0,0,0,0,0,0,0,0,0,2,3,3,3] [] [(811,.box [.arr 812 (List.length (p0.aa.set (j2).toNat (ay.mk x3.ID x3.ah x3.au DS x3.ao)))]),(812,.nest 179 5 [(1,108,5),(2,4,1),(3,182,3)] (List.map ay.lv (p0.aa.set (j2).toNat (ay.mk x3.ID x3.ah x3.au DS x3.ao))))] R R (by kernel_rfl) ?_ ?_
  ·refine aX (oM (v:=(.eptr _ _ _ _)) R ⟨R,?_⟩)
   refine aX (oM (v:=(.eptr _ _ _ _)) R ⟨R,?_⟩)
   refine mX (fV R R (by simp) (cz fj)) ?_
   refine mX (fU jq iw nr R R (by simp) (cz fj)) ?_
   refine mX (uD (g:=bI.lv) (ys:=x3.Uses) (ls:=List.map ay.lv p0.aa) (cs:=[.I x3.ID,.lst 5 (x3.ah.map ab.lv),.lst 1 (x3.au.map LV.bool),.lst 3 (x3.Uses.map bI.lv),.bool x3.ao]) (id2:=145) (dL:=[.I x3.ID,.lst 5 (x3.ah.map ab.lv),.lst 1 (x3.au.map LV.bool),.fg,.bool x3.ao]) R R (by simp) (cz fj) R R R iw sj R) ?_
   refine aX (aC fI eA dW R R R ⟨R,?_⟩)
   refine aX (aC fq aD aW R R R ⟨R,?_⟩)
   refine aX (bj R aD b5 ⟨R,?_⟩)
   refine aX (aC mB aD aW R R R ⟨R,?_⟩)
   refine aX (bj R aD b5 ⟨R,?_⟩)
   refine aX (aC dE di dh R R R ⟨R,?_⟩)
   refine aX (aC ky aD aW R R R ⟨R,?_⟩)
   refine aX (bj R aD b5 ⟨R,?_⟩)
   refine aX (gJ (vs:=[(0,.I p1.Ref.Version),(1,.I p1.Form),(2,.I p1.ak.Time)]) Vp NW R (lf yN aW aD R R R (lf E4 aW aD R R R (lf E5 aW aD R R R gI))) ⟨R,?_⟩)
   refine aX (jU (f:=bI.lv) (ys:=[(bI.mk p1.Ref.Version p1.Form p1.ak.Time)]) qu NQ ve R R R bI.ok ⟨R,?_⟩)
   refine yt (rT (f:=bI.lv) qu NQ ve R R (cc R) R Pj ?_)
   refine mX (fV R R (by simp) (cz fj)) ?_
   refine mX (fU jq iw nr R R (by simp) (cz fj)) ?_
   refine ZJ (yA (g:=bI.lv) (ys:=DS) (ls:=List.map ay.lv p0.aa) (cs:=[.I x3.ID,.lst 5 (x3.ah.map ab.lv),.lst 1 (x3.au.map LV.bool),.fg,.bool x3.ao]) (dL:=[.I x3.ID,.lst 5 (x3.ah.map ab.lv),.lst 1 (x3.au.map LV.bool),.lst 3 (DS.map bI.lv),.bool x3.ao]) R R (by simp) (cz fj) R R R R R (cc R) iw nr R) ?_
   exact m0 (Wk.to eN (mC ((show _=some (LE.box [.arr 812 p0.aa.length]) from R).trans (by simp)) (mC (Ml R R) mN)) R (aN R))
  refine LH.ax [(4,.I 0)] [(811,.box [.arr 812 (List.length (p0.aa.set (j2).toNat (ay.mk x3.ID x3.ah x3.au DS x3.ao)))]),(812,.nest 179 5 [(1,108,5),(2,4,1),(3,182,3)] (List.map ay.lv (p0.aa.set (j2).toNat (ay.mk x3.ID x3.ah x3.au DS x3.ao))))] R ?_ ?_
  ·refine br R ?_
   exact zS
  refine LH.ret ?_
  obtain rfl:=oI h
  exact aJ (aT Tryz.results144) (bT R (bP ⟨aG (mC R (mC R mN)),R,aN R,Sub.rfl⟩))
theorem Ev {F:Nat} {p0:bx} {p1:ba} {c0:Bool} {r:Int × bx} (h:Bj F p0 p1 c0=some r):aF Tryz.prog 191 [.ptr 811 0,.agg [.I p1.ak.Time,.I p1.ak.Source,.I p1.ak.Seq,.I p1.Kind,.I p1.Item.ID,.I p1.Item.Version,.str p1.Item.cn,.lst 6 (p1.Item.aK.map ag.lv),.L p1.Item.aL,.I p1.Ref.ID,.I p1.Ref.Version,.I p1.Form],.sptr [.bool c0]] (Mem.of [(811,.box [.arr 812 p0.aa.length]),(812,.nest 179 5 [(1,108,5),(2,4,1),(3,182,3)] (p0.aa.map ay.lv))]) (.I r.1) (Mem.of [(811,.box [.arr 812 r.2.aa.length]),(812,.nest 179 5 [(1,108,5),(2,4,1),(3,182,3)] (r.2.aa.map ay.lv))]):=by
  unfold Bj at h
  refine bh Tryz.func191 R (nT Tryz.ntmps191 R) ?_
  refine LH.wk (Wk.eq (el:=[(0,.ptr 811 0),(1,.agg [.I p1.ak.Time,.I p1.ak.Source,.I p1.ak.Seq,.I p1.Kind,.I p1.Item.ID,.I p1.Item.Version,.str p1.Item.cn,.lst 6 (p1.Item.aK.map ag.lv),.L p1.Item.aL,.I p1.Ref.ID,.I p1.Ref.Version,.I p1.Form]),(2,.sptr [.bool c0])]) (ml:=[(811,.box [.arr 812 p0.aa.length]),(812,.nest 179 5 [(1,108,5),(2,4,1),(3,182,3)] (p0.aa.map ay.lv))]) R R R R) ?_
  refine LH.ax [(0,.ptr 811 0),(2,.sptr [.bool c0]),(4,.sptr [.I p1.ak.Time,.I p1.ak.Source,.I p1.ak.Seq,.I p1.Kind,.I p1.Item.ID,.I p1.Item.Version,.str p1.Item.cn,.lst 6 (p1.Item.aK.map ag.lv),.L p1.Item.aL,.I p1.Ref.ID,.I p1.Ref.Version,.I p1.Form])] [(811,.box [.arr 812 p0.aa.length]),(812,.nest 179 5 [(1,108,5),(2,4,1),(3,182,3)] (p0.aa.map ay.lv))] R ?_ ?_
  ·refine sB (dm R R R R ?_)
   refine br R ?_
   exact zS
  obtain ⟨r1,dR,h⟩:=ae h
  refine LH.ax [(2,.sptr [.bool c0]),(6,sy 812 p0.aa.length r1)] [(811,.box [.arr 812 p0.aa.length]),(812,.nest 179 5 [(1,108,5),(2,4,1),(3,182,3)] (p0.aa.map ay.lv))] R ?_ ?_
  ·refine iA R ?_
   refine sN (aC fI eA dW R R R ?_)
   refine sN (aC jo aD aW R R R ?_)
   refine sN (bj R aD b5 ?_)
   refine sN (ej (args:=[.ptr 811 0,.I p1.Ref.ID]) (ml:=[(811,.box [.arr 812 p0.aa.length]),(812,.nest 179 5 [(1,108,5),(2,4,1),(3,182,3)] (p0.aa.map ay.lv))]) (cS:=[(811,.box [.arr 812 p0.aa.length]),(812,.nest 179 5 [(1,108,5),(2,4,1),(3,182,3)] (p0.aa.map ay.lv))]) R CS R (aw (aw bl)) (JL dR) ⟨R,R,trivial⟩ (bu R (bu R bX)) R ?_)
   refine sN (oA (v:=(sy _ _ _)) R ?_)
   exact s0 (Wk.to (eQ ⟨R,R,trivial⟩) ⟨R,R,trivial⟩ (by rcases r1 with _ | _ <;> exact R) (aN R))
  rcases r1 with _ | j2
  ·replace h:=Jq h
   refine LH.wk (Wk.eq (el:=[(2,.sptr [.bool c0]),(6,.nilp)]) (ml:=[(811,.box [.arr 812 p0.aa.length]),(812,.nest 179 5 [(1,108,5),(2,4,1),(3,182,3)] (p0.aa.map ay.lv))]) R R R R) ?_
   refine LH.seq ?_
   refine LH.ax [(2,.sptr [.bool c0]),(6,.nilp),(13,.bool true)] [(811,.box [.arr 812 p0.aa.length]),(812,.nest 179 5 [(1,108,5),(2,4,1),(3,182,3)] (p0.aa.map ay.lv))] R ?_ ?_
   ·refine sN (oM (v:=.nilp) R ?_)
    refine sX ((uC o7 R R).ok) ?_
    exact zS
   refine LH.cond (t:=true) R (fun jj=>?_) (fun jj=>?_)
   ·refine LH.ax [(5,.I 4)] [(811,.box [.arr 812 p0.aa.length]),(812,.nest 179 5 [(1,108,5),(2,4,1),(3,182,3)] (p0.aa.map ay.lv))] R ?_ ?_
    ·refine br R ?_
     exact zS
    refine LH.ret ?_
    refine aO ?_
    obtain rfl:=oI h
    exact aJ (aT Tryz.results191) (bT R (bP ⟨aG (mC R (mC R mN)),R,aN R,Sub.rfl⟩))
   ·cases jj
  replace h:=Jr h
  obtain ⟨x3,fj,h⟩:=ae h
  refine LH.wk (Wk.to (el:=[(2,.sptr [.bool c0]),(6,.eptr 812 p0.aa.length (j2).toNat 0)]) (ml:=[(811,.box [.arr 812 p0.aa.length]),(812,.nest 179 5 [(1,108,5),(2,4,1),(3,182,3)] ((p0.aa.map ay.lv).set (j2).toNat (.agg [.I x3.ID,.lst 5 (x3.ah.map ab.lv),.lst 1 (x3.au.map LV.bool),.lst 3 (x3.Uses.map bI.lv),.bool x3.ao])))]) (eQ ⟨R,R,trivial⟩) (mC R (mC (p8 fj) mN)) R (aN R)) ?_
  refine LH.seq ?_
  refine LH.ax [(2,.sptr [.bool c0]),(6,.eptr 812 p0.aa.length (j2).toNat 0),(13,.bool false)] [(811,.box [.arr 812 p0.aa.length]),(812,.nest 179 5 [(1,108,5),(2,4,1),(3,182,3)] ((p0.aa.map ay.lv).set (j2).toNat (.agg [.I x3.ID,.lst 5 (x3.ah.map ab.lv),.lst 1 (x3.au.map LV.bool),.lst 3 (x3.Uses.map bI.lv),.bool x3.ao])))] R ?_ ?_
  ·refine sN (oM (v:=(.eptr _ _ _ _)) R ?_)
   refine sX ((uB o7 R R R (by simp) (cz fj)).ok) ?_
   exact zS
  refine LH.cond (t:=false) R (fun gZ=>?_) (fun gZ=>?_)
  ·cases gZ
  refine LH.skip ?_
  refine ai ?_
  refine LH.wk (Wk.eq (el:=[(2,.sptr [.bool c0]),(6,.eptr 812 p0.aa.length (j2).toNat 0)]) (ml:=[(811,.box [.arr 812 p0.aa.length]),(812,.nest 179 5 [(1,108,5),(2,4,1),(3,182,3)] ((p0.aa.map ay.lv).set (j2).toNat (.agg [.I x3.ID,.lst 5 (x3.ah.map ab.lv),.lst 1 (x3.au.map LV.bool),.lst 3 (x3.Uses.map bI.lv),.bool x3.ao])))]) R R R R) ?_
  refine LH.seq ?_
  refine LH.du mixed [] [0,3,3,3,0,0] [(2,.sptr [.bool c0]),(6,.eptr 812 p0.aa.length (j2).toNat 0),(19,.bool (x3.ao == c0))] [(811,.box [.arr 812 p0.aa.length]),(812,.nest 179 5 [(1,108,5),(2,4,1),(3,182,3)] ((p0.aa.map ay.lv).set (j2).toNat (.agg [.I x3.ID,.lst 5 (x3.ah.map ab.lv),.lst 1 (x3.au.map LV.bool),.lst 3 (x3.Uses.map bI.lv),.bool x3.ao])))] R R (by kernel_rfl) ?_ ?_
  ·refine aX (oM (v:=(.eptr _ _ _ _)) R ⟨R,?_⟩)
   refine mX (fV R R (by simp) (cz fj)) ?_
   refine mX (fU oL nq sM R R (by simp) (cz fj)) ?_
   refine mX (yy (cs:=[.I x3.ID,.lst 5 (x3.ah.map ab.lv),.lst 1 (x3.au.map LV.bool),.lst 3 (x3.Uses.map bI.lv),.bool x3.ao]) R R (by simp) (cz fj) R R nq B7) ?_
   refine aX (bj R nq B7 ⟨R,?_⟩)
   refine aX (TT R R Yy ⟨R,?_⟩)
   exact zM
  refine LH.cond (t:=(x3.ao == c0)) R (fun fY=>?_) (fun fY=>?_)
  ·replace h:=aB h fY
   refine LH.ax [(5,.I 8)] [(811,.box [.arr 812 p0.aa.length]),(812,.nest 179 5 [(1,108,5),(2,4,1),(3,182,3)] (p0.aa.map ay.lv))] R ?_ ?_
   ·refine br R ?_
    exact s0 (Wk.to (eQ ⟨R,trivial⟩) (mC R (mC (p8 fj).symm mN)) R (aN R))
   refine LH.ret ?_
   refine aO ?_
   obtain rfl:=oI h
   exact aJ (aT Tryz.results191) (bT R (bP ⟨aG (mC R (mC R mN)),R,aN R,Sub.rfl⟩))
  replace h:=aA h fY
  refine LH.skip ?_
  refine ai ?_
  refine LH.ax [] [(811,.box [.arr 812 (List.length (p0.aa.set (j2).toNat (ay.mk x3.ID x3.ah x3.au x3.Uses c0)))]),(812,.nest 179 5 [(1,108,5),(2,4,1),(3,182,3)] (List.map ay.lv (p0.aa.set (j2).toNat (ay.mk x3.ID x3.ah x3.au x3.Uses c0))))] R ?_ ?_
  ·refine sN (oM (v:=(.eptr _ _ _ _)) R ?_)
   refine sN (bj R nq B7 ?_)
   refine sX ((fV R R (by simp) (cz fj)).ok) ?_
   refine sX ((fU oL nq sM R R (by simp) (cz fj)).ok) ?_
   refine KW ((QI (ls:=List.map ay.lv p0.aa) (cs:=[.I x3.ID,.lst 5 (x3.ah.map ab.lv),.lst 1 (x3.au.map LV.bool),.lst 3 (x3.Uses.map bI.lv),.bool x3.ao]) (dL:=[.I x3.ID,.lst 5 (x3.ah.map ab.lv),.lst 1 (x3.au.map LV.bool),.lst 3 (x3.Uses.map bI.lv),.bool c0]) R R (by simp) (cz fj) R R R R R nq sM R).ok) ?_
   exact s0 (Wk.to eN (mC ((show _=some (LE.box [.arr 812 p0.aa.length]) from R).trans (by simp)) (mC (Ml R R) mN)) R (aN R))
  refine LH.ax [(5,.I 0)] [(811,.box [.arr 812 (List.length (p0.aa.set (j2).toNat (ay.mk x3.ID x3.ah x3.au x3.Uses c0)))]),(812,.nest 179 5 [(1,108,5),(2,4,1),(3,182,3)] (List.map ay.lv (p0.aa.set (j2).toNat (ay.mk x3.ID x3.ah x3.au x3.Uses c0))))] R ?_ ?_
  ·refine br R ?_
   exact zS
  refine LH.ret ?_
  obtain rfl:=oI h
  exact aJ (aT Tryz.results191) (bT R (bP ⟨aG (mC R (mC R mN)),R,aN R,Sub.rfl⟩))
theorem Nf {F:Nat} {p0:Bool} {r:Bool} (h:Np F p0=some r):aF Tryz.prog 145 [.bool p0] (Mem.of []) (.fn 191 [.sptr [.bool r]]) (Mem.of []):=by
  unfold Np at h
  refine bh Tryz.func145 R (nT Tryz.ntmps145 R) (LH.aj R (sB (dm R R R R (sN (oA (v:=.nilf) R zQ)))) (LH.aj R (sN (z7 (vs:=[.sptr [.bool p0]]) R (sN (oA (v:=(.fn _ _)) R zQ)))) (LH.ret ?_)))
  obtain rfl:=oI h
  exact aJ (aT Tryz.results145) (bT R (bP ⟨aG mN,R,aN R,Sub.rfl⟩))
def dM:Nat→LV
  | 1=>.fn 141 []
  | 2=>.fn 142 []
  | 3=>.fn 143 []
  | 4=>.fn 144 []
  | 5=>.fn 191 [.sptr [.bool true]]
  | 6=>.fn 191 [.sptr [.bool false]]
  | _=>.nilf
theorem iY (n:Nat):(dM n).pure=true:=by unfold dM; split <;> rfl
theorem Bo {F:Nat} {r:(List (Int × Nat))} (h:Ny F=some r):aF Tryz.prog 75 [] (Mem.of []) (.mp 14501) (Mem.of [(14501,.map 3 171 (je LV.I dM r))]):=by
  unfold Ny at h
  refine bh Tryz.func75 R (nT Tryz.ntmps75 R) (LH.aj R (sN (oA (v:=.fg) R zQ)) (LH.aj R (sX ((uA (kt:=3) (vt:=171) (id:=14501) R).ok) (KW ((jg (f:=LV.I) (g:=dM) (xs:=([]:List (Int × Nat))) (key:=1) (val:=1) (.inr R) ix lM wQ iY R R R R).ok) (KW ((jg (f:=LV.I) (g:=dM) (xs:=(eW ([]:List (Int × Nat)) 1 1)) (key:=2) (val:=2) (.inr R) ix lM wQ iY R R R R).ok) (KW ((jg (f:=LV.I) (g:=dM) (xs:=(eW (eW ([]:List (Int × Nat)) 1 1) 2 2)) (key:=3) (val:=3) (.inr R) ix lM wQ iY R R R R).ok) (KW ((jg (f:=LV.I) (g:=dM) (xs:=(eW (eW (eW ([]:List (Int × Nat)) 1 1) 2 2) 3 3)) (key:=4) (val:=4) (.inr R) ix lM wQ iY R R R R).ok) (sN (dq (args:=[.bool true]) R IM R (aw bl) (Nf (F:=F) (r:=true) R) R (KW ((jg (f:=LV.I) (g:=dM) (xs:=(eW (eW (eW (eW ([]:List (Int × Nat)) 1 1) 2 2) 3 3) 4 4)) (key:=5) (val:=5) (.inr R) ix lM wQ iY R R R R).ok) (sN (dq (args:=[.bool false]) R IM R (aw bl) (Nf (F:=F) (r:=false) R) R (KW ((jg (f:=LV.I) (g:=dM) (xs:=(eW (eW (eW (eW (eW ([]:List (Int × Nat)) 1 1) 2 2) 3 3) 4 4) 5 5)) (key:=6) (val:=6) (.inr R) ix lM wQ iY R R R R).ok) (sN (oM (v:=(.mp _)) R (sN (oA (v:=(.mp _)) R zQ))))))))))))))) (LH.ret ?_)))
  obtain rfl:=oI h
  exact aJ (aT Tryz.results75) (bT R (bP ⟨aG (mC R mN),R,aN R,Sub.rfl⟩))
end Go.Proofs.YtiinmaihgmfniaaGreat
