import Derived.Test.YtiinmaihgmfniaaGreatZW4
set_option linter.unusedVariables false
set_option linter.unusedSimpArgs false
set_option maxRecDepth 100000
set_option maxHeartbeats 1000000
namespace Go.Proofs.YtiinmaihgmfniaaGreat
open Go.L Go.Sh
set_option maxHeartbeats 4000000 in
theorem YR {F:Nat} {p0:fG} {p1:List ah} {r:List ar × Int} (h:D6 F p0 p1=some r):aF Tryz.prog 66 [.agg [.I p0.cD,.I p0.c6,.I p0.aY,.I p0.bh,.lst 3 (p0.b5.map bM.lv),.lst 3 (p0.aR.map bM.lv),.L p0.cV,.lst 2 (p0.bC.map bA.lv),.I p0.aV],.lst 5 (p1.map ah.lv)] (Mem.of []) (.tup [.lst 3 (r.1.map ar.lv),.I r.2]) (Mem.of []):=by
  unfold D6 at h
  refine aW Tryz.func66 R (nT Tryz.ntmps66 R)<|LH.ae R (sB<|da R R R R<|kE R<|aX R zQ)<|LH.seq ?_
  obtain ⟨r1,dI,h⟩:=aa h
  refine LH.ae R (sN<|a7 R iS nt iT R R<|sN<|dh Tn (YI dI)<|aX R zQ)<|LH.ae R (aN R<|sN<|iR R R zQ) (LH.cd h R (fun gK h=>?_) fun gK h=>?_)
  ·refine LH.ae R (aN R<|kE R<|aX R zQ)<|LH.ret<|aA ?_
   obtain rfl:=oI h
   exact bL (aT Tryz.results66)<|dx R<|dx R<|dN lY
  refine LH.skip<|ag<|LH.seq<|LH.ae R (dC R<|sN<|bx (f:=ah.lv) fA R<|sN<|hJ R R zQ) (LH.cd h R (fun mn h=>?_) fun mn h=>?_)
  ·refine LH.ae R (kE R<|aX R zQ)<|LH.ret<|aA ?_
   obtain rfl:=oI h
   exact bL (aT Tryz.results66)<|dx R<|dx R<|dN lY
  refine LH.skip<|ag<|LH.seq<|LH.ae R (dC R<|sN<|bx (f:=ah.lv) fA R<|aN R zQ)<|LH.block<|LH.bW (fun n e m=>∃ (n4:Int),wG F p0 p1 n n4=some r∧e=Env.of [(1,.lst 5 (p1.map ah.lv)),(2,.sptr [.I p0.cD,.I p0.c6,.I p0.aY,.I p0.bh,.lst 3 (p0.b5.map bM.lv),.lst 3 (p0.aR.map bM.lv),.L p0.cV,.lst 2 (p0.bC.map bA.lv),.I p0.aV]),(26,.lst 5 (p1.map ah.lv)),(27,.I (p1.length:Int)),(28,.I n4)]∧m=Mem.of []) F ⟨0,h,R,R⟩ ?_
  clear h
  rintro n e m ⟨n4,h,rfl,rfl⟩
  rcases n with _ | n
  · exact nX h
  obtain ⟨aE,aC⟩:∃ f,f=wG F p0 p1 n:=⟨_,rfl⟩
  replace h:Di F p0 p1 aE n4=some r:=aC ▸ h
  unfold Di at h
  refine LH.ae R (sN<|dK R R zQ)<|LH.seq (LH.cd h R (fun oV h=>?_) fun oV h=>?_)
  ·refine LH.skip<|ag<|LH.seq<|LH.block ?_
   obtain ⟨x6,yO,h⟩:=aa h
   refine LH.cM R (sN<|dJ (f:=ah.lv) fA bm bk R R ah.ok yO R<|sN<|a7 R bm dn bk R R<|sN<|ib (id:=108) R lX R R<|s_<|cN R R R bm bk R R R<|s0<|Wk.trans (bQ [1,2,8,26,27,28] [108])<|Wk.dz 108 (ah.lv x6).cells R R R<|cv R) ?_
   obtain ⟨r7,yf,h⟩:=aa h
   refine LH.ae R (sN<|a7 R bm dn bk R R<|sN<|dh tM (tS yf)<|sN<|iR R R zQ) (LH.cd h R (fun oF h=>?_) fun oF h=>?_)
   ·refine LH.ae R (kE R<|aX R zQ)<|LH.ret<|aU<|aA<|cc<|aU<|aA ?_
    obtain rfl:=oI h
    exact bL (aT Tryz.results66)<|dx R<|dx R<|dN lY
   refine LH.skip<|aB<|ag<|LH.aJ R (sN<|bw R R<|aN R zQ) ?_
   exact aM ⟨(i64 (n4+1)),aC ▸ h,R,R⟩<|Wk.eq R R R R
  refine LH.exit<|bB<|bc<|aZ<|ag<|LH.cM R (sX (j8 411 R adK R R)<|s0<|Wk.trans (bQ [1,2,9] [511])<|Wk.kp 512 230 3 511 0 R R R R R<|cv R) ?_
  obtain ⟨r9,FQ,h⟩:=aa h
  obtain ⟨fR,s7,h⟩:=aa h
  obtain ⟨dS,j5,h⟩:=aa h
  refine LH.eY mixed [] [0,0,0,0,0,0,0,0,0,0,0,0,0,3] [(1,.lst 5 (p1.map ah.lv)),(2,.sptr [.I p0.cD,.I p0.c6,.I p0.aY,.I p0.bh,.lst 3 (p0.b5.map bM.lv),.lst 3 (p0.aR.map bM.lv),.L p0.cV,.lst 2 (p0.bC.map bA.lv),.I p0.aV]),(9,.ptr 511 0)] [(511,.box [.arr 512 dS.length]),(512,.arr 230 3 (dS.map ar.lv))] R R (by kernel_rfl) ?_ ?_
  ·exact nM R<|aI<|av tu aw aL R R R ⟨R,aI<|aS R aw br ⟨R,aI<|av xv aw aL R R R ⟨R,aI<|aS R aw br ⟨R,aI<|dh ta (zk (rX:=117) (oP:=[]) To R (fun _ _ h=>Yy h) FQ) ⟨R,nM R<|aI<|av Bb aw aL R R R ⟨R,aI<|aS R aw br ⟨R,aI<|av xw aw aL R R R ⟨R,aI<|aS R aw br ⟨R,aI<|dh ta (zk (rX:=118) (oP:=[]) Tq R (fun _ _ h=>Y9 h) s7) ⟨R,aI<|ic (f:=ar.lv) (ys:=[r9,fR]) hY ny dy R R R ar.ok ⟨R,mX ((eo (args:=[.ptr 511 0,.lst 3 (List.map ar.lv [r9,fR])]) (ml:=[(511,.box [.arr 512 (List.length ([]:List ar))]),(512,.arr 230 3 (List.map ar.lv ([]:List ar)))]) (eD:=[(511,.box [.arr 512 dS.length]),(512,.arr 230 3 (dS.map ar.lv))]) R s9 R (bZ<|bZ fF) (JF j5) (mC R<|mC R mN) (bT R<|bT R dO) R)) zM⟩⟩⟩⟩⟩⟩⟩⟩⟩⟩⟩
  refine LH.seq<|LH.ae R (sN<|av lp fk jT R R R<|sN<|aS R fk oS<|sN<|bx (f:=bM.lv) jx R<|aN R zQ)<|LH.block<|LH.bW (fun n e m=>∃ (n12:Int) (pn:List ar),Ei F p0 p1 n n12 pn=some r∧e=Env.of [(1,.lst 5 (p1.map ah.lv)),(2,.sptr [.I p0.cD,.I p0.c6,.I p0.aY,.I p0.bh,.lst 3 (p0.b5.map bM.lv),.lst 3 (p0.aR.map bM.lv),.L p0.cV,.lst 2 (p0.bC.map bA.lv),.I p0.aV]),(9,.ptr 511 0),(51,.lst 3 (p0.b5.map bM.lv)),(52,.I (p0.b5.length:Int)),(53,.I n12)]∧m=Mem.of [(511,.box [.arr 512 pn.length]),(512,.arr 230 3 (pn.map ar.lv))]) F ⟨0,dS,h,R,R⟩ ?_
  clear h
  rintro n e m ⟨n12,pn,h,rfl,rfl⟩
  rcases n with _ | n
  · exact nX h
  obtain ⟨dU,dR⟩:∃ f,f=Ei F p0 p1 n:=⟨_,rfl⟩
  replace h:Dj F p0 p1 dU n12 pn=some r:=dR ▸ h
  unfold Dj at h
  refine LH.ae R (sN<|dK R R zQ)<|LH.seq (LH.cd h R (fun sV h=>?_) fun sV h=>?_)
  ·refine LH.skip<|ag<|LH.seq<|LH.block ?_
   obtain ⟨Bc,AF,h⟩:=aa h
   refine LH.cM R (sN<|dJ (f:=bM.lv) jx jl fM R R bM.ok AF R<|sN<|a7 R jl Io fM R R<|sN<|ib (id:=111) R xJ R R<|s_<|cN R R R jl fM R R R<|s0<|zB [1,2,9,11,51,52,53] [111,511,512] 111 R) ?_
   obtain ⟨gV,vU,h⟩:=aa h
   obtain ⟨jk,AA,h⟩:=aa h
   refine LH.aJ R (dC R<|sN<|av lT aw aL R R R<|sN<|aS R aw br<|sN<|av kJ aw aL R R R<|sN<|aS R aw br<|sN<|Br (vs:=[.sptr [.I Bc.Index,.I Bc.bE,.I Bc.cX]]) R<|sN<|dh ta (zk (rX:=119) (oP:=[.sptr [.I Bc.Index,.I Bc.bE,.I Bc.cX]]) Tr R (fun _ _ h=>Yz h) vU)<|sN<|ic (f:=ar.lv) (ys:=[gV]) hY ny dy R R R ar.ok<|sX (((eo (args:=[.ptr 511 0,.lst 3 (List.map ar.lv [gV])]) (ml:=[(511,.box [.arr 512 pn.length]),(512,.arr 230 3 (pn.map ar.lv))]) (eD:=[(511,.box [.arr 512 jk.length]),(512,.arr 230 3 (jk.map ar.lv))]) R s9 R (bZ<|bZ fF) (JF AA) (mC R<|mC R mN) (bT R<|bT R dO) R)).ok) zQ)<|aB<|ag<|LH.aJ R (sN<|bw R R<|aN R zQ) ?_
   exact aM ⟨(i64 (n12+1)),jk,dR ▸ h,R,R⟩<|Wk.eq R R R R
  refine LH.exit<|bB<|bc<|aZ<|ag<|LH.seq<|LH.ae R (sN<|av lq fk jT R R R<|sN<|aS R fk oS<|sN<|bx (f:=bM.lv) jx R<|aN R zQ)<|LH.block<|LH.bW (fun n e m=>∃ (n18:Int) (ga:List ar),wH F p0 p1 n n18 ga=some r∧e=Env.of [(1,.lst 5 (p1.map ah.lv)),(2,.sptr [.I p0.cD,.I p0.c6,.I p0.aY,.I p0.bh,.lst 3 (p0.b5.map bM.lv),.lst 3 (p0.aR.map bM.lv),.L p0.cV,.lst 2 (p0.bC.map bA.lv),.I p0.aV]),(9,.ptr 511 0),(68,.lst 3 (p0.aR.map bM.lv)),(69,.I (p0.aR.length:Int)),(70,.I n18)]∧m=Mem.of [(511,.box [.arr 512 ga.length]),(512,.arr 230 3 (ga.map ar.lv))]) F ⟨0,pn,h,R,R⟩ ?_
  clear h
  rintro n e m ⟨n18,ga,h,rfl,rfl⟩
  rcases n with _ | n
  · exact nX h
  obtain ⟨fH,fV⟩:∃ f,f=wH F p0 p1 n:=⟨_,rfl⟩
  replace h:Dk F p0 p1 fH n18 ga=some r:=fV ▸ h
  unfold Dk at h
  refine LH.ae R (sN<|dK R R zQ)<|LH.seq (LH.cd h R (fun qe h=>?_) fun qe h=>?_)
  ·refine LH.skip<|ag<|LH.seq<|LH.block ?_
   obtain ⟨E7,L6,h⟩:=aa h
   refine LH.cM R (sN<|dJ (f:=bM.lv) jx jl fM R R bM.ok L6 R<|sN<|a7 R jl Io fM R R<|sN<|ib (id:=113) R xJ R R<|s_<|cN R R R jl fM R R R<|s0<|zB [1,2,9,13,68,69,70] [113,511,512] 113 R) ?_
   obtain ⟨sa,AD,h⟩:=aa h
   obtain ⟨uB,LN,h⟩:=aa h
   refine LH.aJ R (dC R<|sN<|av lT aw aL R R R<|sN<|aS R aw br<|sN<|av kJ aw aL R R R<|sN<|aS R aw br<|sN<|Br (vs:=[.sptr [.I E7.Index,.I E7.bE,.I E7.cX]]) R<|sN<|dh ta (zk (rX:=122) (oP:=[.sptr [.I E7.Index,.I E7.bE,.I E7.cX]]) Tt R (fun _ _ h=>YA h) AD)<|sN<|ic (f:=ar.lv) (ys:=[sa]) hY ny dy R R R ar.ok<|sX (((eo (args:=[.ptr 511 0,.lst 3 (List.map ar.lv [sa])]) (ml:=[(511,.box [.arr 512 ga.length]),(512,.arr 230 3 (ga.map ar.lv))]) (eD:=[(511,.box [.arr 512 uB.length]),(512,.arr 230 3 (uB.map ar.lv))]) R s9 R (bZ<|bZ fF) (JF LN) (mC R<|mC R mN) (bT R<|bT R dO) R)).ok) zQ)<|aB<|ag<|LH.aJ R (sN<|bw R R<|aN R zQ) ?_
   exact aM ⟨(i64 (n18+1)),uB,fV ▸ h,R,R⟩<|Wk.eq R R R R
  refine LH.exit<|bB<|bc<|aZ<|ag<|LH.seq<|LH.ae R (sN<|av mB bj cC R R R<|sN<|aS R bj dr<|sN<|bx (f:=LV.I) bd R<|aN R zQ)<|LH.block<|LH.bW (fun n e m=>∃ (n24:Int) (Ke:List ar),AV F p0 p1 n n24 Ke=some r∧e=Env.of [(1,.lst 5 (p1.map ah.lv)),(2,.sptr [.I p0.cD,.I p0.c6,.I p0.aY,.I p0.bh,.lst 3 (p0.b5.map bM.lv),.lst 3 (p0.aR.map bM.lv),.L p0.cV,.lst 2 (p0.bC.map bA.lv),.I p0.aV]),(9,.ptr 511 0),(85,.L p0.cV),(86,.I (p0.cV.length:Int)),(87,.I n24)]∧m=Mem.of [(511,.box [.arr 512 Ke.length]),(512,.arr 230 3 (Ke.map ar.lv))]) F ⟨0,ga,h,R,R⟩ ?_
  clear h
  rintro n e m ⟨n24,Ke,h,rfl,rfl⟩
  rcases n with _ | n
  · exact nX h
  obtain ⟨lC,tL⟩:∃ f,f=AV F p0 p1 n:=⟨_,rfl⟩
  replace h:HW F p0 p1 lC n24 Ke=some r:=tL ▸ h
  unfold HW at h
  refine LH.ae R (sN<|dK R R zQ)<|LH.seq (LH.cd h R (fun Lj h=>?_) fun Lj h=>?_)
  ·refine LH.skip<|ag<|LH.seq<|LH.block ?_
   obtain ⟨UY,Tc,h⟩:=aa h
   refine LH.cM R (sN<|dJ (f:=LV.I) bd aw aL R R gB Tc R<|sN<|aS R aw br<|sN<|ib (id:=115) R Oq R R<|s_<|cN R R R aw aL R R R<|s0<|zB [1,2,9,15,85,86,87] [115,511,512] 115 R) ?_
   obtain ⟨Bu,LP,h⟩:=aa h
   obtain ⟨tT,FN,h⟩:=aa h
   refine LH.aJ R (dC R<|sN<|Br (vs:=[.sptr [.I UY]]) R<|sN<|dh ta (zk (rX:=124) (oP:=[.sptr [.I UY]]) Tv R (fun _ _ h=>YB h) LP)<|sN<|ic (f:=ar.lv) (ys:=[Bu]) hY ny dy R R R ar.ok<|sX (((eo (args:=[.ptr 511 0,.lst 3 (List.map ar.lv [Bu])]) (ml:=[(511,.box [.arr 512 Ke.length]),(512,.arr 230 3 (Ke.map ar.lv))]) (eD:=[(511,.box [.arr 512 tT.length]),(512,.arr 230 3 (tT.map ar.lv))]) R s9 R (bZ<|bZ fF) (JF FN) (mC R<|mC R mN) (bT R<|bT R dO) R)).ok) zQ)<|aB<|ag<|LH.aJ R (sN<|bw R R<|aN R zQ) ?_
   exact aM ⟨(i64 (n24+1)),tT,tL ▸ h,R,R⟩<|Wk.eq R R R R
  refine LH.exit<|bB<|bc<|aZ<|ag ?_
  obtain ⟨Ry,abS,h⟩:=aa h
  refine LH.ae R (dC R<|sX (((eo (args:=[.ptr 511 0,.lst 5 (p1.map ah.lv)]) (ml:=[(511,.box [.arr 512 Ke.length]),(512,.arr 230 3 (Ke.map ar.lv))]) (eD:=[(511,.box [.arr 512 Ry.length]),(512,.arr 230 3 (Ry.map ar.lv))]) R Tw R (bZ<|bZ fF) (Ye abS) (mC R<|mC R mN) (bT R<|bT R dO) R)).ok) zQ)<|LH.seq<|LH.ae R (sN<|av tv uH EP R R R<|sN<|aS R uH PW<|sN<|bx (f:=bA.lv) G7 R<|aN R zQ)<|LH.block<|LH.bW (fun n e m=>∃ (n31:Int) (Jk:List ar),Ej F p0 p1 n n31 Jk=some r∧e=Env.of [(1,.lst 5 (p1.map ah.lv)),(2,.sptr [.I p0.cD,.I p0.c6,.I p0.aY,.I p0.bh,.lst 3 (p0.b5.map bM.lv),.lst 3 (p0.aR.map bM.lv),.L p0.cV,.lst 2 (p0.bC.map bA.lv),.I p0.aV]),(9,.ptr 511 0),(100,.lst 2 (p0.bC.map bA.lv)),(101,.I (p0.bC.length:Int)),(102,.I n31)]∧m=Mem.of [(511,.box [.arr 512 Jk.length]),(512,.arr 230 3 (Jk.map ar.lv))]) F ⟨0,Ry,h,R,R⟩ ?_
  clear h
  rintro n e m ⟨n31,Jk,h,rfl,rfl⟩
  rcases n with _ | n
  · exact nX h
  obtain ⟨GR,Cf⟩:∃ f,f=Ej F p0 p1 n:=⟨_,rfl⟩
  replace h:Dl F p0 p1 GR n31 Jk=some r:=Cf ▸ h
  unfold Dl at h
  refine LH.ae R (sN<|dK R R zQ)<|LH.seq (LH.cd h R (fun aa5 h=>?_) fun aa5 h=>?_)
  ·refine LH.skip<|ag<|LH.seq<|LH.block ?_
   obtain ⟨Vy,acX,h⟩:=aa h
   refine LH.cM R (sN<|dJ (f:=bA.lv) G7 PY ER R R bA.ok acX R<|sN<|a7 R PY Zs ER R R<|sN<|ib (id:=117) R NV R R<|s_<|cN R R R PY ER R R R<|s0<|zB [1,2,9,17,100,101,102] [117,511,512] 117 R) ?_
   obtain ⟨PF,SM,h⟩:=aa h
   obtain ⟨Eo,SN,h⟩:=aa h
   refine LH.aJ R (dC R<|sN<|av xx aw aL R R R<|sN<|aS R aw br<|sN<|Br (vs:=[.sptr [.I Vy.Code,.lst 2 (Vy.Items.map bD.lv)]]) R<|sN<|dh ta (zk (rX:=127) (oP:=[.sptr [.I Vy.Code,.lst 2 (Vy.Items.map bD.lv)]]) Tx R (fun _ _ h=>YC h) SM)<|sN<|ic (f:=ar.lv) (ys:=[PF]) hY ny dy R R R ar.ok<|sX (((eo (args:=[.ptr 511 0,.lst 3 (List.map ar.lv [PF])]) (ml:=[(511,.box [.arr 512 Jk.length]),(512,.arr 230 3 (Jk.map ar.lv))]) (eD:=[(511,.box [.arr 512 Eo.length]),(512,.arr 230 3 (Eo.map ar.lv))]) R s9 R (bZ<|bZ fF) (JF SN) (mC R<|mC R mN) (bT R<|bT R dO) R)).ok) zQ)<|aB<|ag<|LH.aJ R (sN<|bw R R<|aN R zQ) ?_
   exact aM ⟨(i64 (n31+1)),Eo,Cf ▸ h,R,R⟩<|Wk.eq R R R R
  refine LH.exit<|bB<|bc<|aZ<|ag<|LH.wk ((Wk.trans (bQ [9] [511,512])<|Wk.trans (Wk.trans (Wk.cL (f:=ar.lv) 512 230 3 Jk 511 R R R (dW dV) R R<|cv R)<|bQ [9] [511])<|Wk.trans (Wk.dz 511 [.lst 3 (Jk.map ar.lv)] R R R<|cv R)<|bQ [9] []))<|LH.seq<|LH.ae R (sN<|aS R fm nS<|sN<|bx (f:=ar.lv) hY R<|sN<|hJ R R zQ) (LH.cd h R (fun Sn h=>?_) fun Sn h=>?_)
  ·refine LH.ae R (kE R<|aX R zQ)<|LH.ret<|aA ?_
   obtain rfl:=oI h
   exact bL (aT Tryz.results66)<|dx R<|dx R<|dN lY
  refine LH.skip<|ag<|LH.ae R (sN<|aS R fm nS<|qV R<|aX R zQ)<|LH.ret ?_
  obtain rfl:=oI h
  exact bL (aT Tryz.results66)<|dx R<|dx R<|dN lY
theorem Yv {F:Nat} {p0:fG} {p1:List ah} {p2:List Int} {r:cZ × Int} (h:DQ F p0 p1 p2=some r):aF Tryz.prog 24 [.agg [.I p0.cD,.I p0.c6,.I p0.aY,.I p0.bh,.lst 3 (p0.b5.map bM.lv),.lst 3 (p0.aR.map bM.lv),.L p0.cV,.lst 2 (p0.bC.map bA.lv),.I p0.aV],.lst 5 (p1.map ah.lv),.L p2] (Mem.of []) (.tup [.agg [.L r.1.aj,.lst 3 (r.1.Rows.map ar.lv)],.I r.2]) (Mem.of []):=by
  unfold DQ at h
  refine aW Tryz.func24 R (nT Tryz.ntmps24 R)<|LH.ae R (sB<|da R R R R<|sN<|ib (id:=106) R tA R R<|aX R zQ) ?_
  obtain ⟨r1,dI,h⟩:=aa h
  refine LH.ae R (sN<|a7 R iS nt iT R R<|dC R<|sN<|dh Xy (YR dI)<|sG R<|sN<|gj R R<|sN<|gj R R<|qV R<|aX R zQ)<|LH.seq<|LH.ae R (aN R<|sN<|iR R R zQ) (LH.cd h R (fun gK h=>?_) fun gK h=>?_)
  ·refine LH.cM R (sN<|hD (vs:=[]) ET tA R gZ<|aN R<|s_<|cN R R R e9 fa R R R<|aX R<|s0<|zB [6,7] [106] 106 R)<|LH.ret<|aA ?_
   obtain rfl:=oI h
   exact bL (aT Tryz.results24)<|eE R e9 gG fa R R<|dx R<|dN lY
  refine LH.skip<|ag<|LH.seq<|LH.ae R (dC R<|sN<|bx (f:=LV.I) bd R<|dC R<|sN<|bx (f:=ah.lv) fA R<|sN<|iR R R zQ) (LH.cd h R (fun mn h=>?_) fun mn h=>?_)
  ·refine LH.cM R (sN<|hD (vs:=[]) ET tA R gZ<|s_<|cN R R R e9 fa R R R<|aX R<|s0<|zB [6,7] [106] 106 R)<|LH.ret<|aA ?_
   obtain rfl:=oI h
   exact bL (aT Tryz.results24)<|eE R e9 gG fa R R<|dx R<|dN lY
  refine LH.skip<|ag<|LH.seq<|LH.ae R (dC R<|sN<|bx (f:=LV.I) bd R<|aN R zQ)<|LH.block<|LH.bW (fun n e m=>∃ (n4:Int),GB p2 r1 n n4=some r∧e=Env.of [(2,.L p2),(6,.ptr 106 0),(8,.lst 3 (r1.1.map ar.lv)),(28,.L p2),(29,.I (p2.length:Int)),(30,.I n4)]∧m=Mem.of [(106,.box [.nil,.nil])]) F ⟨0,h,R,R⟩ ?_
  clear h
  rintro n e m ⟨n4,h,rfl,rfl⟩
  rcases n with _ | n
  · exact nX h
  obtain ⟨aE,aC⟩:∃ f,f=GB p2 r1 n:=⟨_,rfl⟩
  replace h:C0 p2 r1 aE n4=some r:=aC ▸ h
  unfold C0 at h
  refine LH.ae R (sN<|dK R R zQ)<|LH.seq (LH.cd h R (fun oV h=>?_) fun oV h=>?_)
  ·refine LH.skip<|ag<|LH.seq<|LH.block ?_
   obtain ⟨x6,yO,h⟩:=aa h
   refine LH.ae R (sN<|dJ (f:=LV.I) bd aw aL R R gB yO R<|sN<|aS R aw br<|aX R zQ)<|LH.dF [2,6,8,28,29,30] 39 ((decide (x6<0)) || (decide (x6 > 10000))) [106] R ?_ ?_
   ·refine aN R<|sN<|dK R R<|bS R ?_
    generalize (decide (x6<0))=cu; cases cu
    ·exact sT R R<|oM (v:=(.int _ _)) R<|sT R R<|hJ R R<|sN<|bY R R zS
    ·exact sK<|sN<|df R R zS
   refine LH.cd h R (fun I2 h=>?_) fun I2 h=>?_
   ·refine LH.cM R (sN<|hD (vs:=[]) ET tA R gZ<|s_<|cN R R R e9 fa R R R<|aX R<|s0<|zB [6,7] [106] 106 R)<|LH.ret<|aU<|aA<|cc<|aU<|aA ?_
    obtain rfl:=oI h
    exact bL (aT Tryz.results24)<|eE R e9 gG fa R R<|dx R<|dN lY
   refine LH.skip<|aB<|ag<|LH.aJ R (sN<|bw R R<|aN R zQ) ?_
   exact aM ⟨(i64 (n4+1)),aC ▸ h,R,R⟩<|Wk.eq R R R R
  refine LH.exit<|bB<|bc<|aZ<|ag ?_
  obtain ⟨v10,LX,h⟩:=aa h
  refine LH.cM R (dC R<|sN<|dh yR (aF.BV (kW (g:=LV.I) mO R 143 LX) R)<|dC R<|sN<|hD (vs:=[(0,.L v10),(1,.lst 3 (r1.1.map ar.lv))]) ET tA R (lf fB cC bj R R R<|lf fC kK fm R R R gZ)<|s_<|cN R R R e9 fa R R R<|aX R<|s0<|zB [6,7] [106] 106 R)<|LH.ret ?_
  obtain rfl:=oI h
  exact bL (aT Tryz.results24)<|eE R e9 gG fa R R<|dx R<|dN lY
theorem Q3 {F:Nat} {p0:List Int} {r:Bool} (h:JH F p0=some r):aF Tryz.prog 129 [.L p0] (Mem.of []) (.bool r) (Mem.of []):=by
  unfold JH at h
  refine aW Tryz.func129 R (nT Tryz.ntmps129 R)<|LH.ae R (bK R zQ)<|LH.seq<|LH.ae R (dC R<|sN<|bx (f:=LV.I) bd R<|aN R zQ)<|LH.block<|LH.bW (fun n e m=>∃ (n1:Int),Gm p0 n n1=some r∧e=Env.of [(5,.L p0),(6,.I (p0.length:Int)),(7,.I n1)]∧m=Mem.of []) F ⟨0,h,R,R⟩ ?_
  clear h
  rintro n e m ⟨n1,h,rfl,rfl⟩
  rcases n with _ | n
  · exact nX h
  obtain ⟨aE,aC⟩:∃ f,f=Gm p0 n:=⟨_,rfl⟩
  replace h:Nn p0 aE n1=some r:=aC ▸ h
  unfold Nn at h
  refine LH.ae R (sN<|dK R R zQ)<|LH.seq (LH.cd h R (fun gK h=>?_) fun gK h=>?_)
  ·refine LH.skip<|ag<|LH.seq<|LH.block ?_
   obtain ⟨x3,fo,h⟩:=aa h
   refine LH.ae R (sN<|dJ (f:=LV.I) bd aw aL R R gB fo R<|sN<|aS R aw br<|aX R zQ)<|LH.dF [5,6,7] 16 ((decide (x3<(-10000))) || (decide (x3 > 10000))) [] R ?_ ?_
   ·refine aN R<|sN<|dK R R<|bS R ?_
    generalize (decide (x3<(-10000)))=fz; cases fz
    ·exact sT R R<|oM (v:=(.int _ _)) R<|sT R R<|hJ R R<|sN<|bY R R zS
    ·exact sK<|sN<|df R R zS
   refine LH.cd h R (fun lz h=>?_) fun lz h=>?_
   ·refine LH.ae R (bK R zQ)<|LH.ret<|aU<|aA<|cc<|aU<|aA ?_
    obtain rfl:=oI h
    exact ba<|aT Tryz.results129
   refine LH.skip<|aB<|ag<|LH.aJ R (sN<|bw R R<|aN R zQ) ?_
   exact aM ⟨(i64 (n1+1)),aC ▸ h,R,R⟩<|Wk.eq R R R R
  refine LH.exit<|bB<|bc<|aZ<|ag<|LH.ae R (bK R zQ)<|LH.ret ?_
  obtain rfl:=oI h
  exact ba<|aT Tryz.results129
theorem Ra {p0:Int} {r:Bool} (h:Ek p0=some r):aF Tryz.prog 130 [.I p0] (Mem.of []) (.bool r) (Mem.of []):=by
  unfold Ek at h
  refine aW Tryz.func130 R (nT Tryz.ntmps130 R)<|LH.ae R (bK R zQ)<|LH.dF [] 2 ((decide (p0 ≥ (-1000000))) && (decide (p0≤1000000))) [] R ?_ ?_
  ·refine aN R<|sN<|ot R R<|bS R ?_
   generalize (decide (p0 ≥ (-1000000)))=hb2; cases hb2
   ·exact sK<|sN<|bY R R<|bK R zS
   ·exact sT R R<|oM (v:=(.int _ _)) R<|sT R R<|Kh R R<|sN<|df R R<|bK R zS
  refine LH.ret ?_
  obtain rfl:=oI h
  exact ba<|aT Tryz.results130
theorem AT {F:Nat} {p0:cZ} {r:Bool} (h:th F p0=some r):aF Tryz.prog 68 [.agg [.L p0.aj,.lst 3 (p0.Rows.map ar.lv)]] (Mem.of []) (.bool r) (Mem.of []):=by
  unfold th at h
  refine aW Tryz.func68 R (nT Tryz.ntmps68 R)<|LH.ae R (sB<|da R R R R<|bK R zQ)<|LH.seq<|LH.dF [1] 16 ((decide ((p0.aj.length:Int) > 12)) || (decide ((p0.Rows.length:Int) > 60))) [] R ?_ ?_
  ·refine sN<|av fB bj cC R R R<|sN<|aS R bj dr<|sN<|bx (f:=LV.I) bd R<|sN<|hJ R R<|bS R ?_
   generalize (decide ((p0.aj.length:Int) > 12))=hb2; cases hb2
   ·exact sT R R<|av fC fm kK R R R<|sT R R<|aS R fm nS<|sT R R<|bx (f:=ar.lv) hY R<|sT R R<|hJ R R<|sN<|bY R R zS
   ·exact sK<|sN<|df R R zS
  refine LH.cd h R (fun mn h=>?_) fun mn h=>?_
  ·refine LH.ae R (bK R zQ)<|LH.ret<|aA ?_
   obtain rfl:=oI h
   exact ba<|aT Tryz.results68
  refine LH.skip<|ag<|LH.seq<|LH.ae R (sN<|av fB bj cC R R R<|sN<|aS R bj dr<|sN<|bx (f:=LV.I) bd R<|aN R zQ)<|LH.block<|LH.bW (fun n e m=>∃ (n4:Int),GI F p0 n n4=some r∧e=Env.of [(1,.sptr [.L p0.aj,.lst 3 (p0.Rows.map ar.lv)]),(18,.L p0.aj),(19,.I (p0.aj.length:Int)),(20,.I n4)]∧m=Mem.of []) F ⟨0,h,R,R⟩ ?_
  clear h
  rintro n e m ⟨n4,h,rfl,rfl⟩
  rcases n with _ | n
  · exact nX h
  obtain ⟨aE,aC⟩:∃ f,f=GI F p0 n:=⟨_,rfl⟩
  replace h:Da F p0 aE n4=some r:=aC ▸ h
  unfold Da at h
  refine LH.ae R (sN<|dK R R zQ)<|LH.seq (LH.cd h R (fun oV h=>?_) fun oV h=>?_)
  ·refine LH.skip<|ag<|LH.seq<|LH.block ?_
   obtain ⟨x6,yO,h⟩:=aa h
   refine LH.ae R (sN<|dJ (f:=LV.I) bd aw aL R R gB yO R<|sN<|aS R aw br<|aX R zQ)<|LH.dF [1,18,19,20] 29 ((decide (x6<0)) || (decide (x6 > 10000))) [] R ?_ ?_
   ·refine aN R<|sN<|dK R R<|bS R ?_
    generalize (decide (x6<0))=cu; cases cu
    ·exact sT R R<|oM (v:=(.int _ _)) R<|sT R R<|hJ R R<|sN<|bY R R zS
    ·exact sK<|sN<|df R R zS
   refine LH.cd h R (fun I2 h=>?_) fun I2 h=>?_
   ·refine LH.ae R (bK R zQ)<|LH.ret<|aU<|aA<|cc<|aU<|aA ?_
    obtain rfl:=oI h
    exact ba<|aT Tryz.results68
   refine LH.skip<|aB<|ag<|LH.aJ R (sN<|bw R R<|aN R zQ) ?_
   exact aM ⟨(i64 (n4+1)),aC ▸ h,R,R⟩<|Wk.eq R R R R
  refine LH.exit<|bB<|bc<|aZ<|ag<|LH.seq<|LH.ae R (sN<|av fC fm kK R R R<|sN<|aS R fm nS<|sN<|bx (f:=ar.lv) hY R<|aN R zQ)<|LH.block<|LH.bW (fun n e m=>∃ (n10:Int),Eh F p0 n n10=some r∧e=Env.of [(1,.sptr [.L p0.aj,.lst 3 (p0.Rows.map ar.lv)]),(32,.lst 3 (p0.Rows.map ar.lv)),(33,.I (p0.Rows.length:Int)),(34,.I n10)]∧m=Mem.of []) F ⟨0,h,R,R⟩ ?_
  clear h
  rintro n e m ⟨n10,h,rfl,rfl⟩
  rcases n with _ | n
  · exact nX h
  obtain ⟨dU,dR⟩:∃ f,f=Eh F p0 n:=⟨_,rfl⟩
  replace h:Db F p0 dU n10=some r:=dR ▸ h
  unfold Db at h
  refine LH.ae R (sN<|dK R R zQ)<|LH.seq (LH.cd h R (fun vI h=>?_) fun vI h=>?_)
  ·refine LH.skip<|ag<|LH.seq<|LH.block ?_
   obtain ⟨kb,ux,h⟩:=aa h
   refine LH.cM R (sN<|dJ (f:=ar.lv) hY eZ dy R R ar.ok ux R<|sN<|a7 R eZ ox dy R R<|sN<|ib (id:=106) R ly R R<|s_<|cN R R R eZ dy R R R<|s0<|zB [1,6,32,33,34] [106] 106 R) ?_
   obtain ⟨N3,hv,h⟩:=aa h
   refine LH.dF [1,32,33,34] 62 N3 [] R ?_ ?_
   ·refine sN<|av gn bj cC R R R<|sN<|aS R bj dr<|sN<|bx (f:=LV.I) bd R<|sN<|av fB bj cC R R R<|sN<|aS R bj dr<|sN<|bx (f:=LV.I) bd R<|sN<|iR R R<|bS R ?_
    by_cases cw:((kb.bU.length:Int) != (p0.aj.length:Int))=true
    ·obtain rfl:=oI (bO hv cw)
     rw [cw]; exact zA
    ·replace cw:=bF cw
     replace hv:=bN hv cw
     refine aK cw<|av gn bj cC R R R<|aK cw<|aS R bj dr ?_
     obtain ⟨gV,vU,hv⟩:=aa hv
     refine aK cw<|dh Ma (Q3 vU)<|aK cw<|dB R<|sN<|bY cw R<|bS R ?_
     by_cases kZ:(!gV)=true
     ·obtain rfl:=oI (bO hv kZ)
      rw [kZ]; exact zA
     ·replace kZ:=bF kZ
      replace hv:=bN hv kZ
      refine aK kZ<|av gS aw aL R R R<|aK kZ<|aS R aw br ?_
      obtain ⟨j9,AB,hv⟩:=aa hv
      refine aK kZ<|dh Mb (Ra AB)<|aK kZ<|dB R<|sN<|bY kZ R<|bS R ?_
      by_cases uk:(!j9)=true
      ·obtain rfl:=oI (bO hv uk)
       rw [uk]; exact zA
      ·replace uk:=bF uk
       replace hv:=bN hv uk
       refine aK uk<|av gT aw aL R R R<|aK uk<|aS R aw br ?_
       obtain ⟨rj,vV,hv⟩:=aa hv
       refine aK uk<|dh Mb (Ra vV)<|aK uk<|dB R<|sN<|bY uk R ?_
       obtain rfl:=oI hv
       exact zS
   clear hv
   refine LH.cd h R (fun sY h=>?_) fun sY h=>?_
   ·refine LH.ae R (bK R zQ)<|LH.ret<|aU<|aA<|cc<|aU<|aA ?_
    obtain rfl:=oI h
    exact ba<|aT Tryz.results68
   refine LH.skip<|aB<|ag<|LH.aJ R (sN<|bw R R<|aN R zQ) ?_
   exact aM ⟨(i64 (n10+1)),dR ▸ h,R,R⟩<|Wk.eq R R R R
  refine LH.exit<|bB<|bc<|aZ<|ag<|LH.ae R (bK R zQ)<|LH.ret ?_
  obtain rfl:=oI h
  exact ba<|aT Tryz.results68
theorem HU {F:Nat} {p0:List Int} {p1:Int} {r:Bool} (h:AX F p0 p1=some r):aF Tryz.prog 80 [.L p0,.I p1] (Mem.of []) (.bool r) (Mem.of []):=by
  unfold AX at h
  refine aW Tryz.func80 R (nT Tryz.ntmps80 R)<|LH.ae R (bK R zQ)<|LH.seq<|LH.ae R (dC R<|sN<|bx (f:=LV.I) bd R<|aN R zQ)<|LH.block<|LH.bW (fun n e m=>∃ (n1:Int),GA p0 p1 n n1=some r∧e=Env.of [(0,.L p0),(1,.I p1),(7,.L p0),(8,.I (p0.length:Int)),(9,.I n1)]∧m=Mem.of []) F ⟨0,h,R,R⟩ ?_
  clear h
  rintro n e m ⟨n1,h,rfl,rfl⟩
  rcases n with _ | n
  · exact nX h
  obtain ⟨aE,aC⟩:∃ f,f=GA p0 p1 n:=⟨_,rfl⟩
  replace h:CY p0 p1 aE n1=some r:=aC ▸ h
  unfold CY at h
  refine LH.ae R (sN<|dK R R zQ)<|LH.seq (LH.cd h R (fun gK h=>?_) fun gK h=>?_)
  ·refine LH.skip<|ag<|LH.seq<|LH.block ?_
   obtain ⟨x3,fo,h⟩:=aa h
   refine LH.ae R (aN R<|sN<|dJ (f:=LV.I) bd aw aL R R gB fo R<|sN<|aS R aw br<|aX R<|aX R zQ) ?_
   obtain ⟨w5,hv,h⟩:=aa h
   refine LH.dF [0,1,7,8,9] 33 w5 [] R ?_ ?_
   ·refine aN R<|sN<|dK R R<|bS R ?_
    by_cases bn:(decide (x3<0))=true
    ·obtain rfl:=oI (bO hv bn)
     rw [bn]; exact zA
    ·replace bn:=bF bn
     replace hv:=bN hv bn
     refine aK bn<|oM (v:=(.int _ _)) R<|aK bn<|oM (v:=(.int _ _)) R<|aK bn<|ot R R<|sN<|bY bn R<|bS R ?_
     by_cases cg:(decide (x3 ≥ p1))=true
     ·obtain rfl:=oI (bO hv cg)
      rw [cg]; exact zA
     ·replace cg:=bF cg
      replace hv:=bN hv cg
      refine aK cg<|oM (v:=(.int _ _)) R<|aK cg<|hJ R R<|aK cg<|oM (v:=(.bool _)) R ?_
      by_cases cu:(decide (n1 > 0))=true
      ·replace hv:=bO hv cu
       refine aK cu<|oM (v:=(.lst _ _)) R<|aK cu<|oM (v:=(.int _ _)) R<|aK cu<|j7 R R ?_
       obtain ⟨x9,rM,hv⟩:=aa hv
       refine aK cu<|dJ (f:=LV.I) bd aw aL R R gB rM R<|aK cu<|aS R aw br<|aK cu<|oM (v:=(.int _ _)) R<|aK cu<|ot R R<|aK cg<|df cu R<|sN<|bY cg R ?_
       obtain rfl:=oI hv
       exact zS
      ·replace cu:=bF cu
       replace hv:=bN hv cu
       refine bl cu<|bl cu<|bl cu<|bl cu<|bl cu<|bl cu<|bl cu<|aK cg<|bY cu R<|sN<|bY cg R ?_
       obtain rfl:=oI hv
       exact zS
   clear hv
   refine LH.cd h R (fun jf h=>?_) fun jf h=>?_
   ·refine LH.ae R (bK R zQ)<|LH.ret<|aU<|aA<|cc<|aU<|aA ?_
    obtain rfl:=oI h
    exact ba<|aT Tryz.results80
   refine LH.skip<|aB<|ag<|LH.aJ R (sN<|bw R R<|aN R zQ) ?_
   exact aM ⟨(i64 (n1+1)),aC ▸ h,R,R⟩<|Wk.eq R R R R
  refine LH.exit<|bB<|bc<|aZ<|ag<|LH.ae R (bK R zQ)<|LH.ret ?_
  obtain rfl:=oI h
  exact ba<|aT Tryz.results80
theorem Ri {p0:Int} {p1:Int} {p2:Int} {r:ar} (h:zp p0 p1 p2=some r):aF Tryz.prog 148 [.I p0,.I p1,.I p2] (Mem.of []) (.agg [.L r.bU,.I r.bE,.I r.cX]) (Mem.of []):=by
  unfold zp at h
  refine aW Tryz.func148 R (nT Tryz.ntmps148 R)<|LH.ae R (sN<|ib (id:=106) R ly R R zQ) ?_
  obtain ⟨v1,jj,h⟩:=aa h
  refine LH.ae R (aN R<|sN<|QX (f:=LV.I) (z:=0) (id:=109) R bd Oq nB aL R R R jj R<|sE R zQ) ?_
  obtain ⟨x2,Bl,h⟩:=aa h
  refine LH.cM R (lh R<|aN R<|sN<|eI (f:=LV.I) bd aw aL R R R Bl<|s_<|kC (f:=LV.I) (z':=1) R R R R aw aL R (cU Bl).2 R<|s0<|Wk.trans (Wk.to (el:=[(2,.I p2),(6,.ptr 106 0),(7,.arr 109 (List.length<|v1.set p1.toNat 1))]) (ml:=[(106,.box [.nil,.I 0,.I 0]),(109,.arr 3 1 (List.map LV.I<|v1.set p1.toNat 1))]) (eC R<|eC R<|eC (congrArg (LV.arr 109) (by simp)) eN) ⟨R,R,trivial⟩ R<|cF R)<|Wk.mZ (f:=LV.I) (ig:=[(2,.I p2),(6,.ptr 106 0),(7,.L (v1.set p1.toNat 1))]) 109 3 1 (v1.set p1.toNat 1) R R (cv R)<|fK R<|fK R<|fZ fN)<|LH.cM R (dC R<|aN R<|aN R<|sN<|hD (vs:=[(0,.L (v1.set p1.toNat 1)),(1,.I p2),(2,.I p2)]) ES ly R (lf gn cC bj R R R<|lf gS aL aw R R R<|lf gT aL aw R R R gZ)<|s_<|cN R R R eZ dy R R R<|s0<|zB [6] [106] 106 R)<|LH.ret ?_
  obtain rfl:=oI h
  exact bL (aT Tryz.results148)<|eE R eZ ox dy R R<|dN lY
set_option maxHeartbeats 4000000 in
theorem Yt {F:Nat} {p0:cZ} {p1:List Int} {p2:List Int} {r:cZ × Int} (h:zh F p0 p1 p2=some r):aF Tryz.prog 81 [.agg [.L p0.aj,.lst 3 (p0.Rows.map ar.lv)],.L p1,.arr 161 p2.length] (Mem.of [(161,.arr 3 1 (p2.map LV.I))]) (.tup [.agg [.L r.1.aj,.lst 3 (r.1.Rows.map ar.lv)],.I r.2]) (Mem.of [(161,.arr 3 1 (p2.map LV.I))]):=by
  unfold zh at h
  refine aW Tryz.func81 R (nT Tryz.ntmps81 R)<|LH.ae R (sB<|da R R R R<|sN<|ib (id:=106) R tA R R<|aX R zQ)<|LH.seq ?_
  obtain ⟨r1,dI,h⟩:=aa h
  refine LH.ae R (sN<|a7 R e9 gG fa R R<|sN<|dh rP (AT dI)<|sN<|dB R zQ) (LH.cd h R (fun gK h=>?_) fun gK h=>?_)
  ·refine LH.cM R (sN<|hD (vs:=[]) ET tA R gZ<|s_<|cN R R R e9 fa R R R<|aX R<|s0<|zB [6,7] [106,161] 106 R)<|LH.ret<|aA ?_
   obtain rfl:=oI h
   exact bL (aT Tryz.results81)<|eE R e9 gG fa R R<|dx R<|dN lY
  refine LH.skip<|ag<|LH.ae R (sN<|av fB bj cC R R R<|sN<|aS R bj dr<|sN<|bx (f:=LV.I) bd R<|aX R zQ)<|LH.seq ?_
  obtain ⟨w4,hv,h⟩:=aa h
  refine LH.tr [1,2,3,6,8] 32 w4 [(106,.box [.nil,.nil]),(161,.arr 3 1 (p2.map LV.I))] R ?_ ?_
  ·refine dC R<|aN R ?_
   obtain ⟨r5,qK,hv⟩:=aa hv
   refine sN<|dh HF (HU qK)<|sN<|dB R<|bS R ?_
   by_cases bn:(!r5)=true
   ·obtain rfl:=oI (bO hv bn)
    rw [bn]; exact zA
   ·replace bn:=bF bn
    replace hv:=bN hv bn
    refine aK bn<|oM (v:=(.arr _ _)) R<|aK bn<|oM (v:=(.int _ _)) R ?_
    obtain ⟨r7,yf,hv⟩:=aa hv
    refine aK bn<|mw (args:=[.arr 161 p2.length,.I (p0.aj.length:Int)]) (ml:=[(161,.arr 3 1 (p2.map LV.I))]) (eD:=[(161,.arr 3 1 (p2.map LV.I))]) R HF R (bZ<|bZ fF) (aF.MA 161 3 1 (xs:=List.map LV.I p2) (HU yf) (.row (by simp) (.keep R .nil)) R R R R R Vp) ⟨R,trivial⟩ (bT R dO) R<|aK bn<|dB R<|sN<|bY bn R ?_
    obtain rfl:=oI hv
    exact zS
  clear hv
  refine LH.cd h R (fun oF h=>?_) fun oF h=>?_
  ·refine LH.cM R (sN<|hD (vs:=[]) ET tA R gZ<|s_<|cN R R R e9 fa R R R<|aX R<|s0<|zB [6,7] [106,161] 106 R)<|LH.ret<|aA ?_
   obtain rfl:=oI h
   exact bL (aT Tryz.results81)<|eE R e9 gG fa R R<|dx R<|dN lY
  refine LH.skip<|ag ?_
  obtain ⟨v9,hv9,h⟩:=aa h
  refine LH.ae R (sN<|av fB bj cC R R R<|sN<|aS R bj dr<|sN<|dh yR (aF.BV (kW (g:=LV.I) mO R 136 hv9) R)<|sN<|hD (vs:=[(0,.L v9)]) ET tA R (lf fB cC bj R R R gZ)<|sN<|ib (id:=109) R tA R R<|s_<|cN R R R e9 fa R R R zQ)<|LH.seq<|LH.ae R (sN<|av fC fm kK R R R<|sN<|aS R fm nS<|sN<|bx (f:=ar.lv) hY R<|aN R zQ)<|LH.block<|LH.wk ((Wk.trans (bQ [1,2,6,8,9,39,40,41] [106,109,161])<|Wk.trans (Wk.kp 156 230 3 109 1 R R R R R<|cv R)<|bQ [1,2,6,8,9,39,40,41] [106,109,156,161]))<|LH.bW (fun n e m=>∃ (n10:Int) (fe:List ar),Gx F p0 p1 p2 v9 n n10 fe=some r∧e=Env.of [(1,.L p1),(2,.arr 161 p2.length),(6,.ptr 106 0),(8,.I (p0.aj.length:Int)),(9,.ptr 109 0),(39,.lst 3 (p0.Rows.map ar.lv)),(40,.I (p0.Rows.length:Int)),(41,.I n10)]∧m=Mem.of [(106,.box [.nil,.nil]),(109,.box [.L v9,.arr 156 fe.length]),(156,.arr 230 3 (fe.map ar.lv)),(161,.arr 3 1 (p2.map LV.I))]) F ⟨0,([]:List ar),h,R,R⟩ ?_
  clear h
  rintro n e m ⟨n10,fe,h,rfl,rfl⟩
  rcases n with _ | n
  · exact nX h
  obtain ⟨aE,aC⟩:∃ f,f=Gx F p0 p1 p2 v9 n:=⟨_,rfl⟩
  replace h:CV F p0 p1 p2 v9 aE n10 fe=some r:=aC ▸ h
  unfold CV at h
  refine LH.ae R (sN<|dK R R zQ)<|LH.seq (LH.cd h R (fun jt h=>?_) fun jt h=>?_)
  ·refine LH.skip<|ag<|LH.seq<|LH.block ?_
   obtain ⟨jc,qf,h⟩:=aa h
   refine LH.cM R (sN<|dJ (f:=ar.lv) hY eZ dy R R ar.ok qf R<|sN<|a7 R eZ ox dy R R<|sN<|ib (id:=111) R ly R R<|s_<|cN R R R eZ dy R R R<|s0<|zB [1,2,6,8,9,11,39,40,41] [106,109,111,156,161] 111 R) ?_
   obtain ⟨Aa,LZ,h⟩:=aa h
   obtain ⟨JZ,L0,h⟩:=aa h
   refine LH.qP mixed [] [0,1109,0,0,0,0,0,0,0,0,0,1000000156,0,100109] [(1,.L p1),(2,.arr 161 p2.length),(6,.ptr 106 0),(8,.I (p0.aj.length:Int)),(9,.ptr 109 0),(39,.lst 3 (p0.Rows.map ar.lv)),(40,.I (p0.Rows.length:Int)),(41,.I n10)] [(106,.box [.nil,.nil]),(109,.box [.L v9,.arr 156 JZ.length]),(156,.arr 230 3 (JZ.map ar.lv)),(161,.arr 3 1 (p2.map LV.I))] R R (by kernel_rfl) ?_ ?_
   ·exact aI<|eF fC fm kK R R ⟨R,mD R R R (fun _ b _ d=>de R b R R fm nS d)<|aI<|av gn bj cC R R R ⟨R,aI<|aS R bj dr ⟨R,aI<|dh yR (aF.BV (kW (g:=LV.I) mO R 149 LZ) R) ⟨R,aI<|av gS aw aL R R R ⟨R,aI<|aS R aw br ⟨R,aI<|av gT aw aL R R R ⟨R,aI<|aS R aw br ⟨R,aI<|hD (vs:=[(0,.L Aa),(1,.I jc.bE),(2,.I jc.cX)]) ES ly R (lf gn cC bj R R R<|lf gS aL aw R R R<|lf gT aL aw R R R gZ) ⟨R,aI<|ic (f:=ar.lv) (ys:=[(ar.mk Aa jc.bE jc.cX)]) hY ny dy R R R ar.ok ⟨R,Vn R (oW.Uv R (fun m0 h0=>cj.Zy [46,55] (by simp [Op.operands,Call.operands])<|AM (f:=ar.lv) hY ny dy R (h0.trans R) (cv R) R L0))<|aI<|eF fC fm kK R R ⟨R,mS R R R (fun _ b _ d=>cN R R R fm kK b R R d) zM⟩⟩⟩⟩⟩⟩⟩⟩⟩⟩⟩
   refine aB<|ag<|LH.aJ R (sN<|bw R R<|aN R zQ) ?_
   exact aM ⟨(i64 (n10+1)),JZ,aC ▸ h,R,R⟩<|Wk.eq R R R R
  refine LH.exit<|bB<|bc<|aZ<|ag<|LH.seq<|LH.ae R (dC R<|sN<|bx (f:=LV.I) bd R<|aN R zQ)<|LH.block<|LH.bW (fun n e m=>∃ (n16:Int) (Bq:List ar),Gy F p0 p1 p2 v9 n n16 Bq=some r∧e=Env.of [(1,.L p1),(2,.arr 161 p2.length),(6,.ptr 106 0),(8,.I (p0.aj.length:Int)),(9,.ptr 109 0),(59,.L p1),(60,.I (p1.length:Int)),(61,.I n16)]∧m=Mem.of [(106,.box [.nil,.nil]),(109,.box [.L v9,.arr 156 Bq.length]),(156,.arr 230 3 (Bq.map ar.lv)),(161,.arr 3 1 (p2.map LV.I))]) F ⟨0,fe,h,R,R⟩ ?_
  clear h
  rintro n e m ⟨n16,Bq,h,rfl,rfl⟩
  rcases n with _ | n
  · exact nX h
  obtain ⟨dU,dR⟩:∃ f,f=Gy F p0 p1 p2 v9 n:=⟨_,rfl⟩
  replace h:CW F p0 p1 p2 v9 dU n16 Bq=some r:=dR ▸ h
  unfold CW at h
  refine LH.ae R (sN<|dK R R zQ)<|LH.seq (LH.cd h R (fun sW h=>?_) fun sW h=>?_)
  ·refine LH.skip<|ag<|LH.seq<|LH.block ?_
   obtain ⟨Vw,Tb,h⟩:=aa h
   refine LH.ae R (sN<|dJ (f:=LV.I) bd aw aL R R gB Tb R<|sN<|aS R aw br<|aX R zQ) ?_
   obtain ⟨rj,vV,h⟩:=aa h
   obtain ⟨v21,L1,h⟩:=aa h
   refine LH.qP mixed [] [0,1109,0,0,0,0,1000000156,0,100109] [(1,.L p1),(2,.arr 161 p2.length),(6,.ptr 106 0),(8,.I (p0.aj.length:Int)),(9,.ptr 109 0),(59,.L p1),(60,.I (p1.length:Int)),(61,.I n16)] [(106,.box [.nil,.nil]),(109,.box [.L v9,.arr 156 v21.length]),(156,.arr 230 3 (v21.map ar.lv)),(161,.arr 3 1 (p2.map LV.I))] R R (by kernel_rfl) (aI<|eF fC fm kK R R ⟨R,mD R R R (fun _ b _ d=>de R b R R fm nS d)<|gu R<|gu R<|aI<|dh Mh (Ri vV) ⟨R,aI<|ic (f:=ar.lv) (ys:=[rj]) hY ny dy R R R ar.ok ⟨R,Vn R (oW.Uv R (fun m0 h0=>cj.Zy [66,70] (by simp [Op.operands,Call.operands])<|AM (f:=ar.lv) hY ny dy R (h0.trans R) (cv R) R L1))<|aI<|eF fC fm kK R R ⟨R,mS R R R (fun _ b _ d=>cN R R R fm kK b R R d) zM⟩⟩⟩⟩)<|aB<|ag<|LH.aJ R (sN<|bw R R<|aN R zQ) ?_
   exact aM ⟨(i64 (n16+1)),v21,dR ▸ h,R,R⟩<|Wk.eq R R R R
  refine LH.exit<|bB<|bc<|aZ<|ag<|LH.seq<|LH.ae R (lh R<|sN<|yp (f:=LV.I) bd R R<|aN R zQ)<|LH.block<|LH.bW (fun n e m=>∃ (n22:Int) (Kd:List ar),Gz F p0 p1 p2 v9 n n22 Kd=some r∧e=Env.of [(1,.L p1),(6,.ptr 106 0),(8,.I (p0.aj.length:Int)),(9,.ptr 109 0),(74,.arr 161 p2.length),(75,.I (p2.length:Int)),(76,.I n22)]∧m=Mem.of [(106,.box [.nil,.nil]),(109,.box [.L v9,.arr 156 Kd.length]),(156,.arr 230 3 (Kd.map ar.lv)),(161,.arr 3 1 (p2.map LV.I))]) F ⟨0,Bq,h,R,R⟩ ?_
  clear h
  rintro n e m ⟨n22,Kd,h,rfl,rfl⟩
  rcases n with _ | n
  · exact nX h
  obtain ⟨fH,fV⟩:∃ f,f=Gz F p0 p1 p2 v9 n:=⟨_,rfl⟩
  replace h:CX F p0 p1 p2 v9 fH n22 Kd=some r:=fV ▸ h
  unfold CX at h
  refine LH.ae R (sN<|dK R R zQ)<|LH.seq (LH.cd h R (fun Sl h=>?_) fun Sl h=>?_)
  ·refine LH.skip<|ag<|LH.seq<|LH.block ?_
   obtain ⟨Hc,Cj,h⟩:=aa h
   refine LH.ae R (sN<|eI (f:=LV.I) bd aw aL R R R Cj<|sN<|oO (f:=LV.I) R R (cU Cj).2 R R R aw br<|aX R zQ) ?_
   obtain ⟨En,LO,h⟩:=aa h
   refine LH.ae R (dC R<|aN R<|sN<|dh F1 (M8 LO)<|sN<|dB R zQ) (LH.cd h R (fun Sm h=>?_) fun Sm h=>?_)
   ·obtain ⟨Bu,LP,h⟩:=aa h
    obtain ⟨ZJ,acC,h⟩:=aa h
    refine LH.qP mixed [] [0,1109,0,0,0,0,1000000156,0,100109] [(1,.L p1),(6,.ptr 106 0),(8,.I (p0.aj.length:Int)),(9,.ptr 109 0),(74,.arr 161 p2.length),(75,.I (p2.length:Int)),(76,.I n22)] [(106,.box [.nil,.nil]),(109,.box [.L v9,.arr 156 ZJ.length]),(156,.arr 230 3 (ZJ.map ar.lv)),(161,.arr 3 1 (p2.map LV.I))] R R (by kernel_rfl) (aI<|eF fC fm kK R R ⟨R,mD R R R (fun _ b _ d=>de R b R R fm nS d)<|gu R<|gu R<|aI<|dh Mh (Ri LP) ⟨R,aI<|ic (f:=ar.lv) (ys:=[Bu]) hY ny dy R R R ar.ok ⟨R,Vn R (oW.Uv R (fun m0 h0=>cj.Zy [85,89] (by simp [Op.operands,Call.operands])<|AM (f:=ar.lv) hY ny dy R (h0.trans R) (cv R) R acC))<|aI<|eF fC fm kK R R ⟨R,mS R R R (fun _ b _ d=>cN R R R fm kK b R R d) zM⟩⟩⟩⟩)<|aB<|ag<|LH.aJ R (sN<|bw R R<|aN R zQ) ?_
    exact aM ⟨(i64 (n22+1)),ZJ,fV ▸ h,R,R⟩<|Wk.eq R R R R
   refine LH.skip<|aB<|ag<|LH.aJ R (sN<|bw R R<|aN R zQ) ?_
   exact aM ⟨(i64 (n22+1)),Kd,fV ▸ h,R,R⟩<|Wk.eq R R R R
  refine LH.exit<|bB<|bc<|aZ<|ag<|LH.seq<|LH.ae R (sN<|eF fC fm kK R R<|sN<|de R R R R fm nS<|sN<|yp (f:=ar.lv) hY R R<|sN<|hJ R R zQ) (LH.cd h R (fun rE h=>?_) fun rE h=>?_)
  ·refine LH.cM R (sN<|hD (vs:=[]) ET tA R gZ<|s_<|cN R R R e9 fa R R R<|aX R<|s0<|zB [6,7] [106,161] 106 R)<|LH.ret<|aA ?_
   obtain rfl:=oI h
   exact bL (aT Tryz.results81)<|eE R e9 gG fa R R<|dx R<|dN lY
  refine LH.skip<|ag<|LH.cM R (cH.wk (bQ [6,9] [106,109,156,161])<|cH.wk (Wk.trans (Wk.cL (f:=ar.lv) 156 230 3 Kd 109 R R R (ay R<|dW dV) R R<|cv R)<|bQ [6,9] [106,109,161])<|sN<|wq R R R e9 gG fa R R<|s_<|cN R R R e9 fa R R R<|aX R<|s0<|zB [6,7] [106,161] 106 R)<|LH.ret ?_
  obtain rfl:=oI h
  exact bL (aT Tryz.results81)<|eE R e9 gG fa R R<|dx R<|dN lY
theorem Yw {p0:List Int} {p1:Int} {c0:bb} {r:bb} (h:DR p0 p1 c0=some r):aF Tryz.prog 70 [.arr 432 p0.length,.I p1,.ptr 423 0] (Mem.of [(423,.box (bb.lv c0).cells),(432,.arr 3 1 (p0.map LV.I))]) (.tup []) (Mem.of [(423,.box (bb.lv r).cells),(432,.arr 3 1 (p0.map LV.I))]):=by
  unfold DR at h
  refine aW Tryz.func70 R (nT Tryz.ntmps70 R)<|LH.dF [0,1,2] 13 ((!c0.Found) || (decide (p1<c0.jH))) [423,432] R ?_ ?_
  ·refine sN<|eF pB jG oU R R<|sN<|de R R R R jG yA<|sN<|dB R<|bS R ?_
   generalize (!c0.Found)=hb2; cases hb2
   ·exact sT R R<|oM (v:=(.int _ _)) R<|sT R R<|eF tx aw aL R R<|sT R R<|de R R R R aw br<|sT R R<|dK R R<|sN<|bY R R zS
   ·exact sK<|sN<|df R R zS
  refine LH.cd h R (fun mn h=>?_) fun mn h=>?_
  ·obtain ⟨v4,hv4,h⟩:=aa h
   refine LH.gU [] [(423,.box [.bool true,.L v4,.I p1,.lst 7 (c0.ke.map aG.lv)]),(432,.arr 3 1 (p0.map LV.I))] R (aN R<|lh R<|cH.wk (bQ [2,14,15] [423,432])<|sN<|mw (args:=[.arr 432 p0.length]) (ml:=[(432,.arr 3 1 (p0.map LV.I))]) (eD:=[(432,.arr 3 1 (p0.map LV.I)),(116,.arr 3 1 (v4.map LV.I))]) R yR R (bZ fF) (aF.MA 432 3 1 (xs:=List.map LV.I p0) (kW (g:=LV.I) mO R 116 hv4) (.row (by simp) .nil) R R R R R<|plC (plA (fun _=>R)) Vp) (mC R mN) (bT R<|MM R dO) R<|sN<|eF pB jG oU R R<|s_<|cN R R R jG oU R R R<|sN<|eF tx aw aL R R<|s_<|cN R R R aw aL R R R<|sN<|eF tw bj cC R R<|cH.wk ((Wk.trans (bQ [16,19] [116,423,432])<|Wk.trans (Wk.mZ (f:=LV.I) (ig:=[(16,.L v4),(19,.ptr 423 1)]) 116 3 1 v4 R R (cv R)<|fZ<|fK R fN)<|bQ [16,19] [423,432]))<|s_<|cN R R R bj cC R R R zS) ?_
   obtain rfl:=oI h
   exact xk (aT Tryz.results70)<|dN lY
  refine LH.skip ?_
  obtain rfl:=oI h
  exact xk (aT Tryz.results70)<|dN lY
theorem Rg {F:Nat} {p0:Int} {p1:Int} {c0:cZ} {c1:List Int} {r:List Int} (h:zm F p0 p1 c0 c1=some r):aF Tryz.prog 131 [.I p0,.I p1,.sptr [.L c0.aj,.lst 3 (c0.Rows.map ar.lv)],.ptr 421 0] (Mem.of [(421,.box [.arr 431 c1.length]),(431,.arr 3 1 (c1.map LV.I))]) (.tup []) (Mem.of [(421,.box [.arr 431 r.length]),(431,.arr 3 1 (r.map LV.I))]):=by
  unfold zm at h
  refine aW Tryz.func131 R (nT Tryz.ntmps131 R)<|LH.ae R (sN<|av fC fm kK R R R<|sN<|aS R fm nS<|sN<|bx (f:=ar.lv) hY R<|aN R zQ)<|LH.block<|LH.bW (fun n e m=>∃ (n1:Int) (l2:List Int),GD p0 p1 c0 n n1 l2=some r∧e=Env.of [(0,.I p0),(1,.I p1),(3,.ptr 421 0),(9,.lst 3 (c0.Rows.map ar.lv)),(10,.I (c0.Rows.length:Int)),(11,.I n1)]∧m=Mem.of [(421,.box [.arr 431 l2.length]),(431,.arr 3 1 (l2.map LV.I))]) F ⟨0,c1,h,R,R⟩ ?_
  clear h
  rintro n e m ⟨n1,l2,h,rfl,rfl⟩
  rcases n with _ | n
  · exact nX h
  obtain ⟨aE,aC⟩:∃ f,f=GD p0 p1 c0 n:=⟨_,rfl⟩
  replace h:C6 p0 p1 c0 aE n1 l2=some r:=aC ▸ h
  unfold C6 at h
  refine LH.ae R (sN<|dK R R zQ)<|LH.seq (LH.cd h R (fun mn h=>?_) fun mn h=>?_)
  ·refine LH.skip<|ag<|LH.seq<|LH.block ?_
   obtain ⟨x4,AG,h⟩:=aa h
   refine LH.cM R (aN R<|sN<|dJ (f:=ar.lv) hY eZ dy R R ar.ok AG R<|sN<|a7 R eZ ox dy R R<|sN<|ib (id:=107) R ly R R<|aX R<|s_<|cN R R R eZ dy R R R<|s0<|zB [0,1,3,6,7,9,10,11] [107,421,431] 107 R) ?_
   obtain ⟨x5,nb,h⟩:=aa h
   obtain ⟨x6,yO,h⟩:=aa h
   obtain ⟨x7,yP,h⟩:=aa h
   refine LH.qP mixed [] [1421,0,1431,1431,0,0,0,0,0,0,0,0,1431,100431] [(0,.I p0),(1,.I p1),(3,.ptr 421 0),(9,.lst 3 (c0.Rows.map ar.lv)),(10,.I (c0.Rows.length:Int)),(11,.I n1)] [(421,.box [.arr 431 (List.length<|l2.set n1.toNat<|i64 (x5+(i64 (p1 * x6))))]),(431,.arr 3 1 (List.map LV.I<|l2.set n1.toNat<|i64 (x5+(i64 (p1 * x6)))))] R R (by kernel_rfl) ?_ ?_
   ·refine mD R R R (fun _ b _ d=>de R b R R bj dr d)<|gu R<|mD R R R (fun _ b _ d=>eI (f:=LV.I) bd aw aL R b R nb d)<|mD R R R (fun _ b _ d=>oO (f:=LV.I) R b (cU nb).2 R R R aw br d)<|gu R<|aI<|av gn bj cC R R R ⟨R,aI<|aS R bj dr ⟨R,gu R<|aI<|dJ (f:=LV.I) bd aw aL R R gB yO R ⟨R,aI<|aS R aw br ⟨R,aI<|MN R R ⟨R,aI<|bw R R ⟨R,mD R R R (fun _ b _ d=>eI (f:=LV.I) bd aw aL R b R yP d)<|mS R R R (fun _ b _ d=>kC (f:=LV.I) (z':=(i64 (x5+(i64 (p1 * x6))))) R R R R aw aL b (cU yP).2 R d) ?_⟩⟩⟩⟩⟩⟩
    exact m0<|Wk.to (eQ ⟨R,R,R,R,R,R,trivial⟩) (mC ((show _=some (LE.box [.arr 431 l2.length]) from R).trans (by simp))<|mC R mN) R<|cF R
   refine aB<|ag<|LH.aJ R (sN<|bw R R<|aN R zQ) ?_
   exact aM ⟨(i64 (n1+1)),(l2.set n1.toNat<|i64 (x5+(i64 (p1 * x6)))),aC ▸ h,R,R⟩<|Wk.eq R R R R
  refine LH.exit<|bB<|bc<|aZ ?_
  obtain rfl:=oI h
  exact xk (aT Tryz.results131)<|dN lY
theorem YF {F:Nat} {c0:cZ} {c1:List Int} {r:Bool × List Int} (h:DV F c0 c1=some r):aF Tryz.prog 132 [.sptr [.L c0.aj,.lst 3 (c0.Rows.map ar.lv)],.ptr 421 0] (Mem.of [(421,.box [.arr 431 c1.length]),(431,.arr 3 1 (c1.map LV.I))]) (.bool r.1) (Mem.of [(421,.box [.arr 431 r.2.length]),(431,.arr 3 1 (r.2.map LV.I))]):=by
  unfold DV at h
  refine aW Tryz.func132 R (nT Tryz.ntmps132 R)<|LH.ae R (bK R zQ)<|LH.seq<|LH.ae R (sN<|av fC fm kK R R R<|sN<|aS R fm nS<|sN<|bx (f:=ar.lv) hY R<|aN R zQ)<|LH.block<|LH.bW (fun n e m=>∃ (n1:Int),GF c0 c1 n n1=some r∧e=Env.of [(1,.ptr 421 0),(6,.lst 3 (c0.Rows.map ar.lv)),(7,.I (c0.Rows.length:Int)),(8,.I n1)]∧m=Mem.of [(421,.box [.arr 431 c1.length]),(431,.arr 3 1 (c1.map LV.I))]) F ⟨0,h,R,R⟩ ?_
  clear h
  rintro n e m ⟨n1,h,rfl,rfl⟩
  rcases n with _ | n
  · exact nX h
  obtain ⟨aE,aC⟩:∃ f,f=GF c0 c1 n:=⟨_,rfl⟩
  replace h:C7 c0 c1 aE n1=some r:=aC ▸ h
  unfold C7 at h
  refine LH.ae R (sN<|dK R R zQ)<|LH.seq (LH.cd h R (fun gK h=>?_) fun gK h=>?_)
  ·refine LH.skip<|ag<|LH.seq<|LH.block ?_
   obtain ⟨x3,fo,h⟩:=aa h
   refine LH.cM R (aN R<|sN<|dJ (f:=ar.lv) hY eZ dy R R ar.ok fo R<|sN<|a7 R eZ ox dy R R<|sN<|ib (id:=104) R ly R R<|aX R<|s_<|cN R R R eZ dy R R R<|s0<|zB [1,3,4,6,7,8] [104,421,431] 104 R) ?_
   obtain ⟨w5,hv,h⟩:=aa h
   refine LH.eY mixed [] [1421,0,1431,1431,0,0,0,0,1,0,1,1,0,0,0,0] [(1,.ptr 421 0),(6,.lst 3 (c0.Rows.map ar.lv)),(7,.I (c0.Rows.length:Int)),(8,.I n1),(28,.bool w5)] [(421,.box [.arr 431 c1.length]),(431,.arr 3 1 (c1.map LV.I))] R R (by kernel_rfl) ?_ ?_
   ·refine mD R R R (fun _ b _ d=>de R b R R bj dr d)<|gu R ?_
    obtain ⟨x6,yO,hv⟩:=aa hv
    refine mD R R R (fun _ b _ d=>eI (f:=LV.I) bd aw aL R b R yO d)<|mD R R R (fun _ b _ d=>oO (f:=LV.I) R b (cU yO).2 R R R aw br d)<|aI<|av gS aw aL R R R ⟨R,aI<|aS R aw br ⟨R,aI<|dK R R ⟨R,qg R ?_⟩⟩⟩
    by_cases cg:(decide (x6<x3.bE))=true
    ·replace hv:=bO hv cg
     refine cJ cg<|cJ cg<|cJ cg<|cJ cg<|cJ cg<|cJ cg<|cJ cg<|aI<|df cg R ⟨R,?_⟩
     obtain rfl:=oI hv
     exact zM
    ·replace cg:=bF cg
     replace hv:=bN hv cg
     refine mT R (cB cg)<|Kg<|de R R R R bj dr ⟨R,mT R (cB cg)<|gu R ?_⟩
     obtain ⟨x8,Ck,hv⟩:=aa hv
     refine mT R (cB cg)<|Kg<|eI (f:=LV.I) bd aw aL R R R Ck ⟨R,mT R (cB cg)<|Kg<|oO (f:=LV.I) R R (cU Ck).2 R R R aw br ⟨R,mT R (cB cg)<|aI<|av gT aw aL R R R ⟨R,mT R (cB cg)<|aI<|aS R aw br ⟨R,mT R (cB cg)<|aI<|hJ R R ⟨R,aI<|bY cg R ⟨R,?_⟩⟩⟩⟩⟩⟩
     obtain rfl:=oI hv
     exact zM
   clear hv
   refine LH.cd h R (fun I2 h=>?_) fun I2 h=>?_
   ·refine LH.ae R (bK R zQ)<|LH.ret<|aU<|aA<|cc<|aU<|aA ?_
    obtain rfl:=oI h
    exact ba<|aT Tryz.results132
   refine LH.skip<|aB<|ag<|LH.aJ R (sN<|bw R R<|aN R zQ) ?_
   exact aM ⟨(i64 (n1+1)),aC ▸ h,R,R⟩<|Wk.eq R R R R
  refine LH.exit<|bB<|bc<|aZ<|ag<|LH.ae R (bK R zQ)<|LH.ret ?_
  obtain rfl:=oI h
  exact ba<|aT Tryz.results132
set_option maxHeartbeats 4000000 in
theorem YG {F:Nat} {p0:Int} {p1:Int} {c2:List Int} {c3:cZ} {RC:List Int} {Im:bb} {r:List Int × List Int × bb} (h:yt F p0 p1 c2 c3 RC Im=some r):iA Tryz.prog 133 [.I p0,.I p1,.ptr 427 0,.ptr 103 0,.ptr 422 0,.sptr [.L c3.aj,.lst 3 (c3.Rows.map ar.lv)],.ptr 425 0,.ptr 426 0] (Mem.of [(103,.box [.fn 70 [.ptr 423 0]]),(421,.box [.arr 431 RC.length]),(422,.box [.arr 432 c2.length]),(423,.box (bb.lv Im).cells),(425,.box [.fn 131 [.sptr [.L c3.aj,.lst 3 (c3.Rows.map ar.lv)],.ptr 421 0]]),(426,.box [.fn 133 [.ptr 427 0,.ptr 103 0,.ptr 422 0,.sptr [.L c3.aj,.lst 3 (c3.Rows.map ar.lv)],.ptr 425 0,.ptr 426 0]]),(427,.box [.fn 132 [.sptr [.L c3.aj,.lst 3 (c3.Rows.map ar.lv)],.ptr 421 0]]),(431,.arr 3 1 (RC.map LV.I)),(432,.arr 3 1 (c2.map LV.I))]) (.tup []) (Mem.of [(103,.box [.fn 70 [.ptr 423 0]]),(421,.box [.arr 431 r.2.1.length]),(422,.box [.arr 432 r.1.length]),(423,.box (bb.lv r.2.2).cells),(425,.box [.fn 131 [.sptr [.L c3.aj,.lst 3 (c3.Rows.map ar.lv)],.ptr 421 0]]),(426,.box [.fn 133 [.ptr 427 0,.ptr 103 0,.ptr 422 0,.sptr [.L c3.aj,.lst 3 (c3.Rows.map ar.lv)],.ptr 425 0,.ptr 426 0]]),(427,.box [.fn 132 [.sptr [.L c3.aj,.lst 3 (c3.Rows.map ar.lv)],.ptr 421 0]]),(431,.arr 3 1 (r.2.1.map LV.I)),(432,.arr 3 1 (r.1.map LV.I))]) (fun id=>Mem.of [(103,.dead),(421,.dead),(422,.dead),(423,.dead),(425,.dead),(426,.dead),(427,.dead),(431,.dead)] id ≠ .none):=by
  induction F generalizing p0 p1 c2 c3 RC Im r with
  | zero=>exact nX h
  | succ F ih =>
    unfold yt at h
    obtain ⟨self,LW⟩:∃ f,f=yt F:=⟨_,rfl⟩
    rw [← LW] at h ih
    refine VM [(103,.dead),(421,.dead),(422,.dead),(423,.dead),(425,.dead),(426,.dead),(427,.dead),(431,.dead)] Tryz.func133 R (nT Tryz.ntmps133 R)<|LH.wk (bQ [0,1,2,3,4,5,6,7] [103,421,422,423,425,426,427,431,432])<|LH.mid (fun e m=>∃ (b1:Bool) (l2:List Int) (n3:Int) (l4:List aG) (l5:List Int),ze F self p0 p1 c2 c3 b1 l2 n3 l4 l5=some r∧Wk (fun id=>Mem.of [(103,.dead),(421,.dead),(422,.dead),(423,.dead),(425,.dead),(426,.dead),(427,.dead),(431,.dead)] id ≠ .none) e m (Env.of [(0,.I p0),(1,.I p1),(4,.ptr 422 0),(5,.sptr [.L c3.aj,.lst 3 (c3.Rows.map ar.lv)]),(6,.ptr 425 0),(7,.ptr 426 0)]) (Mem.of [(103,.box [.fn 70 [.ptr 423 0]]),(421,.box [.arr 431 l5.length]),(422,.box [.arr 432 c2.length]),(423,.box [.bool b1,.L l2,.I n3,.lst 7 (l4.map aG.lv)]),(425,.box [.fn 131 [.sptr [.L c3.aj,.lst 3 (c3.Rows.map ar.lv)],.ptr 421 0]]),(426,.box [.fn 133 [.ptr 427 0,.ptr 103 0,.ptr 422 0,.sptr [.L c3.aj,.lst 3 (c3.Rows.map ar.lv)],.ptr 425 0,.ptr 426 0]]),(427,.box [.fn 132 [.sptr [.L c3.aj,.lst 3 (c3.Rows.map ar.lv)],.ptr 421 0]]),(431,.arr 3 1 (l5.map LV.I)),(432,.arr 3 1 (c2.map LV.I))])) ?_ ?_
    ·obtain ⟨rj,vV,h⟩:=aa h
     refine LH.ae R (sN<|de R R R R Zx adB<|sX (((eo (args:=[.sptr [.L c3.aj,.lst 3 (c3.Rows.map ar.lv)],.ptr 421 0]) (ml:=[(421,.box [.arr 431 RC.length]),(431,.arr 3 1 (RC.map LV.I))]) (eD:=[(421,.box [.arr 431 rj.2.length]),(431,.arr 3 1 (rj.2.map LV.I))]) R Tz R (bZ<|bZ fF) (YF vV) (mC R<|mC R mN) (bT R<|bT R dO) R)).ok) zQ) (LH.cd h R (fun sY h=>?_) fun sY h=>?_)
     ·obtain ⟨sa,AD,h⟩:=aa h
      exact LH.gU [(0,.I p0),(1,.I p1),(4,.ptr 422 0),(5,.sptr [.L c3.aj,.lst 3 (c3.Rows.map ar.lv)]),(6,.ptr 425 0),(7,.ptr 426 0)] [(103,.box [.fn 70 [.ptr 423 0]]),(421,.box [.arr 431 rj.2.length]),(422,.box [.arr 432 c2.length]),(423,.box (bb.lv sa).cells),(425,.box [.fn 131 [.sptr [.L c3.aj,.lst 3 (c3.Rows.map ar.lv)],.ptr 421 0]]),(426,.box [.fn 133 [.ptr 427 0,.ptr 103 0,.ptr 422 0,.sptr [.L c3.aj,.lst 3 (c3.Rows.map ar.lv)],.ptr 425 0,.ptr 426 0]]),(427,.box [.fn 132 [.sptr [.L c3.aj,.lst 3 (c3.Rows.map ar.lv)],.ptr 421 0]]),(431,.arr 3 1 (rj.2.map LV.I)),(432,.arr 3 1 (c2.map LV.I))] R (sN<|de R R R R Zv Zp<|sN<|de R R R R bj dr<|aN R<|cH.wk (bQ [0,1,4,5,6,7,13,14,15] [103,421,422,423,425,426,427,431,432])<|sX (((eo (args:=[.arr 432 c2.length,.I p1,.ptr 423 0]) (ml:=[(423,.box (bb.lv Im).cells),(432,.arr 3 1 (c2.map LV.I))]) (eD:=[(423,.box (bb.lv sa).cells),(432,.arr 3 1 (c2.map LV.I))]) R XA R (bZ<|bZ<|bZ fF) (Yw AD) (mC R<|mC R mN) (bT R<|bT R dO) R)).ok) zS)<|ag ⟨sa.Found,sa.cT,sa.jH,sa.ke,rj.2,h,Wk.eq R R R R⟩
     exact LH.skip<|ag ⟨Im.Found,Im.cT,Im.jH,Im.ke,rj.2,h,Wk.eq R R R R⟩
    clear h
    rintro e m ⟨b1,l2,n3,l4,l5,h,hw⟩
    refine LH.wk hw ?_
    clear hw
    unfold ze at h
    refine LH.cK [(1,.I p1),(4,.ptr 422 0),(5,.sptr [.L c3.aj,.lst 3 (c3.Rows.map ar.lv)]),(6,.ptr 425 0),(7,.ptr 426 0),(10,.I p0)] [(103,.box [.fn 70 [.ptr 423 0]]),(421,.box [.arr 431 l5.length]),(422,.box [.arr 432 c2.length]),(423,.box [.bool b1,.L l2,.I n3,.lst 7 (l4.map aG.lv)]),(425,.box [.fn 131 [.sptr [.L c3.aj,.lst 3 (c3.Rows.map ar.lv)],.ptr 421 0]]),(426,.box [.fn 133 [.ptr 427 0,.ptr 103 0,.ptr 422 0,.sptr [.L c3.aj,.lst 3 (c3.Rows.map ar.lv)],.ptr 425 0,.ptr 426 0]]),(427,.box [.fn 132 [.sptr [.L c3.aj,.lst 3 (c3.Rows.map ar.lv)],.ptr 421 0]]),(431,.arr 3 1 (l5.map LV.I)),(432,.arr 3 1 (c2.map LV.I))] R (aN R<|aX R zS)<|LH.block<|LH.bW (fun n e m=>∃ (n6:Int) (b7:Bool) (l8:List Int) (n9:Int) (iN:List aG) (fe:List Int) (qO:List Int),GG F self p1 c3 n n6 b7 l8 n9 iN fe qO=some r∧e=Env.of [(1,.I p1),(4,.ptr 422 0),(5,.sptr [.L c3.aj,.lst 3 (c3.Rows.map ar.lv)]),(6,.ptr 425 0),(7,.ptr 426 0),(10,.I n6)]∧m=Mem.of [(103,.box [.fn 70 [.ptr 423 0]]),(421,.box [.arr 431 fe.length]),(422,.box [.arr 432 qO.length]),(423,.box [.bool b7,.L l8,.I n9,.lst 7 (iN.map aG.lv)]),(425,.box [.fn 131 [.sptr [.L c3.aj,.lst 3 (c3.Rows.map ar.lv)],.ptr 421 0]]),(426,.box [.fn 133 [.ptr 427 0,.ptr 103 0,.ptr 422 0,.sptr [.L c3.aj,.lst 3 (c3.Rows.map ar.lv)],.ptr 425 0,.ptr 426 0]]),(427,.box [.fn 132 [.sptr [.L c3.aj,.lst 3 (c3.Rows.map ar.lv)],.ptr 421 0]]),(431,.arr 3 1 (fe.map LV.I)),(432,.arr 3 1 (qO.map LV.I))]) F ⟨p0,b1,l2,n3,l4,l5,c2,h,R,R⟩ ?_
    clear h
    rintro n e m ⟨n6,b7,l8,n9,iN,fe,qO,h,rfl,rfl⟩
    rcases n with _ | n
    · exact nX h
    obtain ⟨dU,dR⟩:∃ f,f=GG F self p1 c3 n:=⟨_,rfl⟩
    replace h:C8 F self p1 c3 dU n6 b7 l8 n9 iN fe qO=some r:=dR ▸ h
    unfold C8 at h
    refine LH.seq<|LH.ae R (aN R<|sN<|av fB bj cC R R R<|sN<|aS R bj dr<|sN<|bx (f:=LV.I) bd R<|sN<|dK R R zQ) (LH.cd h R (fun mj h=>?_) fun mj h=>?_)
    ·refine LH.skip<|ag<|LH.seq<|LH.block ?_
     obtain ⟨Aa,LZ,h⟩:=aa h
     refine LH.ae R (sN<|de R R R R bj dr<|aN R<|sN<|ic (f:=LV.I) (ys:=[n6]) bd nB aL R R R gB<|sX (wu (f:=LV.I) bd nB aL R R R LZ)<|s_<|cN R R R bj cC R R R zQ) ?_
     obtain ⟨ri,Az,h⟩:=aa h
     refine LH.ae R (sN<|de R R R R zU Ip<|aN R<|sX (((eo (args:=[.I n6,.I 1,.sptr [.L c3.aj,.lst 3 (c3.Rows.map ar.lv)],.ptr 421 0]) (ml:=[(421,.box [.arr 431 fe.length]),(431,.arr 3 1 (fe.map LV.I))]) (eD:=[(421,.box [.arr 431 ri.length]),(431,.arr 3 1 (ri.map LV.I))]) R Mc R (bZ<|bZ<|bZ<|bZ fF) (Rg Az) (mC R<|mC R mN) (bT R<|bT R dO) R)).ok) zQ) ?_
     obtain ⟨oe,FV,h⟩:=aa h
     obtain ⟨jk,AA,h⟩:=aa h
     refine LH.adz (n:=10) mixed [] [1426,0,0,0,0,0,0,0,0,0] [(1,.I p1),(4,.ptr 422 0),(5,.sptr [.L c3.aj,.lst 3 (c3.Rows.map ar.lv)]),(6,.ptr 425 0),(7,.ptr 426 0),(10,.I n6),(32,.fn 133 [.ptr 427 0,.ptr 103 0,.ptr 422 0,.sptr [.L c3.aj,.lst 3 (c3.Rows.map ar.lv)],.ptr 425 0,.ptr 426 0]),(34,.I (i64 (n6+1))),(41,.I (i64 (p1+oe)))] [(103,.box [.fn 70 [.ptr 423 0]]),(421,.box [.arr 431 ri.length]),(422,.box [.arr 432 Aa.length]),(423,.box [.bool b7,.L l8,.I n9,.lst 7 (iN.map aG.lv)]),(425,.box [.fn 131 [.sptr [.L c3.aj,.lst 3 (c3.Rows.map ar.lv)],.ptr 421 0]]),(426,.box [.fn 133 [.ptr 427 0,.ptr 103 0,.ptr 422 0,.sptr [.L c3.aj,.lst 3 (c3.Rows.map ar.lv)],.ptr 425 0,.ptr 426 0]]),(427,.box [.fn 132 [.sptr [.L c3.aj,.lst 3 (c3.Rows.map ar.lv)],.ptr 421 0]]),(431,.arr 3 1 (ri.map LV.I)),(432,.arr 3 1 (Aa.map LV.I))] [(1,.I p1),(4,.ptr 422 0),(5,.sptr [.L c3.aj,.lst 3 (c3.Rows.map ar.lv)]),(6,.ptr 425 0),(7,.ptr 426 0),(10,.I n6)] [(103,.box [.fn 70 [.ptr 423 0]]),(421,.box [.arr 431 jk.2.1.length]),(422,.box [.arr 432 jk.1.length]),(423,.box (bb.lv jk.2.2).cells),(425,.box [.fn 131 [.sptr [.L c3.aj,.lst 3 (c3.Rows.map ar.lv)],.ptr 421 0]]),(426,.box [.fn 133 [.ptr 427 0,.ptr 103 0,.ptr 422 0,.sptr [.L c3.aj,.lst 3 (c3.Rows.map ar.lv)],.ptr 425 0,.ptr 426 0]]),(427,.box [.fn 132 [.sptr [.L c3.aj,.lst 3 (c3.Rows.map ar.lv)],.ptr 421 0]]),(431,.arr 3 1 (jk.2.1.map LV.I)),(432,.arr 3 1 (jk.1.map LV.I))] R (Nat.le_of_ble_eq_true R) R (by kernel_rfl) ?_ ?_ ?_
     ·exact mD R R R (fun _ b _ d=>de R b R R zU Ip d)<|gu R<|aI<|bw R R ⟨R,gu R<|aI<|av fB bj cC R R R ⟨R,aI<|aS R bj dr ⟨R,gu R<|aI<|dJ (f:=LV.I) bd aw aL R R gB FV R ⟨R,aI<|aS R aw br ⟨R,aI<|bw R R ⟨R,zM⟩⟩⟩⟩⟩⟩
     ·exact Ik (Cw (q:=432) (args:=[.I (i64 (n6+1)),.I (i64 (p1+oe)),.ptr 427 0,.ptr 103 0,.ptr 422 0,.sptr [.L c3.aj,.lst 3 (c3.Rows.map ar.lv)],.ptr 425 0,.ptr 426 0]) (ml:=[(103,.box [.fn 70 [.ptr 423 0]]),(421,.box [.arr 431 ri.length]),(422,.box [.arr 432 Aa.length]),(423,.box [.bool b7,.L l8,.I n9,.lst 7 (iN.map aG.lv)]),(425,.box [.fn 131 [.sptr [.L c3.aj,.lst 3 (c3.Rows.map ar.lv)],.ptr 421 0]]),(426,.box [.fn 133 [.ptr 427 0,.ptr 103 0,.ptr 422 0,.sptr [.L c3.aj,.lst 3 (c3.Rows.map ar.lv)],.ptr 425 0,.ptr 426 0]]),(427,.box [.fn 132 [.sptr [.L c3.aj,.lst 3 (c3.Rows.map ar.lv)],.ptr 421 0]]),(431,.arr 3 1 (ri.map LV.I)),(432,.arr 3 1 (Aa.map LV.I))]) (eD:=[(103,.box [.fn 70 [.ptr 423 0]]),(421,.box [.arr 431 jk.2.1.length]),(422,.box [.arr 432 jk.1.length]),(423,.box (bb.lv jk.2.2).cells),(425,.box [.fn 131 [.sptr [.L c3.aj,.lst 3 (c3.Rows.map ar.lv)],.ptr 421 0]]),(426,.box [.fn 133 [.ptr 427 0,.ptr 103 0,.ptr 422 0,.sptr [.L c3.aj,.lst 3 (c3.Rows.map ar.lv)],.ptr 425 0,.ptr 426 0]]),(427,.box [.fn 132 [.sptr [.L c3.aj,.lst 3 (c3.Rows.map ar.lv)],.ptr 421 0]]),(431,.arr 3 1 (jk.2.1.map LV.I)),(432,.arr 3 1 (jk.1.map LV.I))]) R Md R (bZ<|bZ<|bZ<|bZ<|bZ<|bZ<|bZ<|bZ fF) (ih AA) (mC R<|mC R<|mC R<|mC R<|mC R<|mC R<|mC R<|mC R<|mC R mN) (bT R<|bT R<|bT R<|bT R<|bT R<|bT R<|bT R<|bT R<|bT R dO) R R R (cv R)<|QZ R) zS
     obtain ⟨j9,AB,h⟩:=aa h
     refine LH.ae R (sN<|de R R R R zU Ip<|aN R<|sX (((eo (args:=[.I n6,.I (-1),.sptr [.L c3.aj,.lst 3 (c3.Rows.map ar.lv)],.ptr 421 0]) (ml:=[(421,.box [.arr 431 jk.2.1.length]),(431,.arr 3 1 (jk.2.1.map LV.I))]) (eD:=[(421,.box [.arr 431 j9.length]),(431,.arr 3 1 (j9.map LV.I))]) R Mc R (bZ<|bZ<|bZ<|bZ fF) (Rg AB) (mC R<|mC R mN) (bT R<|bT R dO) R)).ok) zQ) ?_
     obtain ⟨RR,S5,h⟩:=aa h
     refine LH.gU [(1,.I p1),(4,.ptr 422 0),(5,.sptr [.L c3.aj,.lst 3 (c3.Rows.map ar.lv)]),(6,.ptr 425 0),(7,.ptr 426 0),(10,.I n6)] [(103,.box [.fn 70 [.ptr 423 0]]),(421,.box [.arr 431 j9.length]),(422,.box [.arr 432 RR.length]),(423,.box (bb.lv jk.2.2).cells),(425,.box [.fn 131 [.sptr [.L c3.aj,.lst 3 (c3.Rows.map ar.lv)],.ptr 421 0]]),(426,.box [.fn 133 [.ptr 427 0,.ptr 103 0,.ptr 422 0,.sptr [.L c3.aj,.lst 3 (c3.Rows.map ar.lv)],.ptr 425 0,.ptr 426 0]]),(427,.box [.fn 132 [.sptr [.L c3.aj,.lst 3 (c3.Rows.map ar.lv)],.ptr 421 0]]),(431,.arr 3 1 (j9.map LV.I)),(432,.arr 3 1 (RR.map LV.I))] R (sN<|de R R R R bj dr<|sN<|de R R R R bj dr<|sN<|yp (f:=LV.I) bd R R<|sN<|j7 R R<|cH.wk (Wk.trans (bQ [1,4,5,6,7,10,46,47,48,49] [103,421,422,423,425,426,427,431,432])<|Wk.trans (Wk.ZF 422 0 R R)<|bQ [1,4,5,6,7,10,46,47,48,49] [103,421,422,423,425,426,427,431,432])<|Ik (Uj (g:=LV.I) (xs:=jk.1) bd aw R R R (cv R) (HB.of R) S5)<|s_<|cN R R R bj cC R R R zS)<|aB<|ag<|LH.aJ R (aN R<|sN<|bw R R<|aX R zQ) ?_
     exact aM ⟨(i64 (n6+1)),jk.2.2.Found,jk.2.2.cT,jk.2.2.jH,jk.2.2.ke,j9,RR,dR ▸ h,R,R⟩<|Wk.eq R R R R
    refine LH.exit<|bB<|bc<|aZ ?_
    obtain rfl:=oI h
    exact xk (aT Tryz.results133)<|dN lY
theorem YW {F:Nat} {p0:cZ} {Km:bb} {r:bb} (h:D8 F p0 Km=some r):aF Tryz.prog 69 [.agg [.L p0.aj,.lst 3 (p0.Rows.map ar.lv)],.fn 70 [.ptr 423 0]] (Mem.of [(423,.box (bb.lv Km).cells)]) (.tup []) (Mem.of [(423,.box (bb.lv r).cells)]):=by
  unfold D8 at h
  refine aW Tryz.func69 R (nT Tryz.ntmps69 R)<|LH.cK [(2,.sptr [.L p0.aj,.lst 3 (p0.Rows.map ar.lv)]),(3,.ptr 103 0)] [(103,.box [.fn 70 [.ptr 423 0]]),(423,.box (bb.lv Km).cells)] R (sB<|da R R R R<|sN<|oBx (id:=103) R R R R R R zS) ?_
  obtain ⟨v1,jj,h⟩:=aa h
  refine LH.cK [(2,.sptr [.L p0.aj,.lst 3 (p0.Rows.map ar.lv)]),(3,.ptr 103 0),(4,.ptr 421 0)] [(103,.box [.fn 70 [.ptr 423 0]]),(421,.box [.arr 431 v1.length]),(423,.box (bb.lv Km).cells),(431,.arr 3 1 (v1.map LV.I))] R (sN<|av fC fm kK R R R<|sN<|aS R fm nS<|sN<|bx (f:=ar.lv) hY R<|sX ((MV (f:=LV.I) (z:=0) (id:=431) bd Oq nB aL R R R jj R R).ok)<|sX (j8 321 R P2 R R)<|s_<|cN R R R bj cC R R R zS)<|LH.cK [(2,.sptr [.L p0.aj,.lst 3 (p0.Rows.map ar.lv)]),(3,.ptr 103 0),(4,.ptr 421 0),(5,.ptr 425 0)] [(103,.box [.fn 70 [.ptr 423 0]]),(421,.box [.arr 431 v1.length]),(423,.box (bb.lv Km).cells),(425,.box [.fn 131 [.sptr [.L p0.aj,.lst 3 (p0.Rows.map ar.lv)],.ptr 421 0]]),(431,.arr 3 1 (v1.map LV.I))] R (sN<|Br (vs:=[.sptr [.L p0.aj,.lst 3 (p0.Rows.map ar.lv)],.ptr 421 0]) R<|sX (j8 325 R RP R R)<|s_<|cN R R R zU RK R R R zS)<|LH.cK [(2,.sptr [.L p0.aj,.lst 3 (p0.Rows.map ar.lv)]),(3,.ptr 103 0),(5,.ptr 425 0),(6,.ptr 427 0)] [(103,.box [.fn 70 [.ptr 423 0]]),(421,.box [.arr 431 v1.length]),(423,.box (bb.lv Km).cells),(425,.box [.fn 131 [.sptr [.L p0.aj,.lst 3 (p0.Rows.map ar.lv)],.ptr 421 0]]),(427,.box [.fn 132 [.sptr [.L p0.aj,.lst 3 (p0.Rows.map ar.lv)],.ptr 421 0]]),(431,.arr 3 1 (v1.map LV.I))] R (sN<|Br (vs:=[.sptr [.L p0.aj,.lst 3 (p0.Rows.map ar.lv)],.ptr 421 0]) R<|sX (j8 327 R adI R R)<|s_<|cN R R R Zx adD R R R zS)<|LH.cK [(2,.sptr [.L p0.aj,.lst 3 (p0.Rows.map ar.lv)]),(3,.ptr 103 0),(5,.ptr 425 0),(6,.ptr 427 0),(7,.ptr 422 0)] [(103,.box [.fn 70 [.ptr 423 0]]),(421,.box [.arr 431 v1.length]),(422,.box [.arr 432 (List.length ([]:List Int))]),(423,.box (bb.lv Km).cells),(425,.box [.fn 131 [.sptr [.L p0.aj,.lst 3 (p0.Rows.map ar.lv)],.ptr 421 0]]),(427,.box [.fn 132 [.sptr [.L p0.aj,.lst 3 (p0.Rows.map ar.lv)],.ptr 421 0]]),(431,.arr 3 1 (v1.map LV.I)),(432,.arr 3 1 (List.map LV.I ([]:List Int)))] R (sX (j8 322 R P2 R R)<|s0<|(Wk.trans (bQ [2,3,5,6,7] [103,421,422,423,425,427,431])<|Wk.trans (Wk.kp 432 3 1 422 0 R R R R R<|cv R)<|Wk.eq R R R R))<|LH.cK [(2,.sptr [.L p0.aj,.lst 3 (p0.Rows.map ar.lv)]),(3,.ptr 103 0),(5,.ptr 425 0),(6,.ptr 427 0),(7,.ptr 422 0),(8,.ptr 426 0)] [(103,.box [.fn 70 [.ptr 423 0]]),(421,.box [.arr 431 v1.length]),(422,.box [.arr 432 (List.length ([]:List Int))]),(423,.box (bb.lv Km).cells),(425,.box [.fn 131 [.sptr [.L p0.aj,.lst 3 (p0.Rows.map ar.lv)],.ptr 421 0]]),(426,.box [.nilf]),(427,.box [.fn 132 [.sptr [.L p0.aj,.lst 3 (p0.Rows.map ar.lv)],.ptr 421 0]]),(431,.arr 3 1 (v1.map LV.I)),(432,.arr 3 1 (List.map LV.I ([]:List Int)))] R (sX (j8 326 R RP R R) zS)<|LH.cK [(8,.ptr 426 0)] [(103,.box [.fn 70 [.ptr 423 0]]),(421,.box [.arr 431 v1.length]),(422,.box [.arr 432 (List.length ([]:List Int))]),(423,.box (bb.lv Km).cells),(425,.box [.fn 131 [.sptr [.L p0.aj,.lst 3 (p0.Rows.map ar.lv)],.ptr 421 0]]),(426,.box [.fn 133 [.ptr 427 0,.ptr 103 0,.ptr 422 0,.sptr [.L p0.aj,.lst 3 (p0.Rows.map ar.lv)],.ptr 425 0,.ptr 426 0]]),(427,.box [.fn 132 [.sptr [.L p0.aj,.lst 3 (p0.Rows.map ar.lv)],.ptr 421 0]]),(431,.arr 3 1 (v1.map LV.I)),(432,.arr 3 1 (List.map LV.I ([]:List Int)))] R (sN<|Br (vs:=[.ptr 427 0,.ptr 103 0,.ptr 422 0,.sptr [.L p0.aj,.lst 3 (p0.Rows.map ar.lv)],.ptr 425 0,.ptr 426 0]) R<|s_<|cN R R R zU RK R R R zS) ?_
  obtain ⟨r2,hr2,h⟩:=aa h
  refine LH.gU [] [(423,.box (bb.lv r2.2.2).cells)] R (sN<|de R R R R zU Ip<|Ik (Cw (q:=432) (args:=[.I 0,.I 0,.ptr 427 0,.ptr 103 0,.ptr 422 0,.sptr [.L p0.aj,.lst 3 (p0.Rows.map ar.lv)],.ptr 425 0,.ptr 426 0]) (ml:=[(103,.box [.fn 70 [.ptr 423 0]]),(421,.box [.arr 431 v1.length]),(422,.box [.arr 432 (List.length ([]:List Int))]),(423,.box (bb.lv Km).cells),(425,.box [.fn 131 [.sptr [.L p0.aj,.lst 3 (p0.Rows.map ar.lv)],.ptr 421 0]]),(426,.box [.fn 133 [.ptr 427 0,.ptr 103 0,.ptr 422 0,.sptr [.L p0.aj,.lst 3 (p0.Rows.map ar.lv)],.ptr 425 0,.ptr 426 0]]),(427,.box [.fn 132 [.sptr [.L p0.aj,.lst 3 (p0.Rows.map ar.lv)],.ptr 421 0]]),(431,.arr 3 1 (v1.map LV.I)),(432,.arr 3 1 (List.map LV.I ([]:List Int)))]) (eD:=[(103,.box [.fn 70 [.ptr 423 0]]),(421,.box [.arr 431 r2.2.1.length]),(422,.box [.arr 432 r2.1.length]),(423,.box (bb.lv r2.2.2).cells),(425,.box [.fn 131 [.sptr [.L p0.aj,.lst 3 (p0.Rows.map ar.lv)],.ptr 421 0]]),(426,.box [.fn 133 [.ptr 427 0,.ptr 103 0,.ptr 422 0,.sptr [.L p0.aj,.lst 3 (p0.Rows.map ar.lv)],.ptr 425 0,.ptr 426 0]]),(427,.box [.fn 132 [.sptr [.L p0.aj,.lst 3 (p0.Rows.map ar.lv)],.ptr 421 0]]),(431,.arr 3 1 (r2.2.1.map LV.I)),(432,.arr 3 1 (r2.1.map LV.I))]) R Md R (bZ<|bZ<|bZ<|bZ<|bZ<|bZ<|bZ<|bZ fF) (YG hr2) (mC R<|mC R<|mC R<|mC R<|mC R<|mC R<|mC R<|mC R<|mC R mN) (bT R<|bT R<|bT R<|bT R<|bT R<|bT R<|bT R<|bT R<|bT R dO) R R R (cv R)<|QZ R) zS) ?_
  obtain rfl:=oI h
  exact xk (aT Tryz.results69)<|dN lY
theorem Rb {F:Nat} {p0:List Int} {p1:Int} {r:Bool} (h:zg F p0 p1=some r):aF Tryz.prog 183 [.L p0,.I p1] (Mem.of []) (.bool r) (Mem.of []):=by
  unfold zg at h
  refine aW Tryz.func183 R (nT Tryz.ntmps183 R)<|LH.ae R (bK R zQ)<|LH.seq<|LH.dF [0] 14 (((p0.length:Int) != p1) || (decide (p1 > 12))) [] R ?_ ?_
  ·refine dC R<|sN<|bx (f:=LV.I) bd R<|aN R<|sN<|iR R R<|bS R ?_
   generalize ((p0.length:Int) != p1)=hb2; cases hb2
   ·exact sT R R<|oM (v:=(.int _ _)) R<|sT R R<|hJ R R<|sN<|bY R R zS
   ·exact sK<|sN<|df R R zS
  refine LH.cd h R (fun mn h=>?_) fun mn h=>?_
  ·refine LH.ae R (bK R zQ)<|LH.ret<|aA ?_
   obtain rfl:=oI h
   exact ba<|aT Tryz.results183
  refine LH.skip<|ag<|LH.seq<|LH.ae R (dC R<|sN<|bx (f:=LV.I) bd R<|aN R zQ)<|LH.block<|LH.bW (fun n e m=>∃ (n4:Int),Gs p0 n n4=some r∧e=Env.of [(15,.L p0),(16,.I (p0.length:Int)),(17,.I n4)]∧m=Mem.of []) F ⟨0,h,R,R⟩ ?_
  clear h
  rintro n e m ⟨n4,h,rfl,rfl⟩
  rcases n with _ | n
  · exact nX h
  obtain ⟨aE,aC⟩:∃ f,f=Gs p0 n:=⟨_,rfl⟩
  replace h:CO p0 aE n4=some r:=aC ▸ h
  unfold CO at h
  refine LH.ae R (sN<|dK R R zQ)<|LH.seq (LH.cd h R (fun oV h=>?_) fun oV h=>?_)
  ·refine LH.skip<|ag<|LH.seq<|LH.block ?_
   obtain ⟨x6,yO,h⟩:=aa h
   refine LH.ae R (sN<|dJ (f:=LV.I) bd aw aL R R gB yO R<|sN<|aS R aw br<|aX R zQ)<|LH.dF [15,16,17] 26 ((decide (x6<(-1))) || (decide (x6 > 1))) [] R ?_ ?_
   ·refine aN R<|sN<|dK R R<|bS R ?_
    generalize (decide (x6<(-1)))=cu; cases cu
    ·exact sT R R<|oM (v:=(.int _ _)) R<|sT R R<|hJ R R<|sN<|bY R R zS
    ·exact sK<|sN<|df R R zS
   refine LH.cd h R (fun I2 h=>?_) fun I2 h=>?_
   ·refine LH.ae R (bK R zQ)<|LH.ret<|aU<|aA<|cc<|aU<|aA ?_
    obtain rfl:=oI h
    exact ba<|aT Tryz.results183
   refine LH.skip<|aB<|ag<|LH.aJ R (sN<|bw R R<|aN R zQ) ?_
   exact aM ⟨(i64 (n4+1)),aC ▸ h,R,R⟩<|Wk.eq R R R R
  refine LH.exit<|bB<|bc<|aZ<|ag<|LH.ae R (bK R zQ)<|LH.ret ?_
  obtain rfl:=oI h
  exact ba<|aT Tryz.results183
theorem Rk {F:Nat} {p0:ar} {p1:List Int} {r:Int × Int × Bool} (h:xa F p0 p1=some r):aF Tryz.prog 153 [.agg [.L p0.bU,.I p0.bE,.I p0.cX],.L p1] (Mem.of []) (.tup [.I r.1,.I r.2.1,.bool r.2.2]) (Mem.of []):=by
  unfold xa at h
  refine aW Tryz.func153 R (nT Tryz.ntmps153 R)<|LH.ae R (sB<|da R R R R<|aX R<|aX R<|bK R zQ)<|LH.seq ?_
  obtain ⟨w2,hv,h⟩:=aa h
  refine LH.dF [1,2,4,5] 20 w2 [] R ?_ ?_
  ·refine dC R<|sN<|av gn bj cC R R R<|sN<|aS R bj dr<|sN<|bx (f:=LV.I) bd R ?_
   obtain ⟨r3,hr3,hv⟩:=aa hv
   refine sN<|dh Mn (Rb hr3)<|sN<|dB R<|bS R ?_
   by_cases bP:(!r3)=true
   ·obtain rfl:=oI (bO hv bP)
    rw [bP]; exact zA
   ·replace bP:=bF bP
    replace hv:=bN hv bP
    refine aK bP<|av gn bj cC R R R<|aK bP<|aS R bj dr ?_
    obtain ⟨r5,qK,hv⟩:=aa hv
    refine aK bP<|dh Ma (Q3 qK)<|aK bP<|dB R<|sN<|bY bP R ?_
    obtain rfl:=oI hv
    exact zS
  clear hv
  refine LH.cd h R (fun lz h=>?_) fun lz h=>?_
  ·refine LH.ae R (aX R<|aX R<|bK R zQ)<|LH.ret<|aA ?_
   obtain rfl:=oI h
   exact bL (aT Tryz.results153)<|dx R<|dx R<|dx R<|dN lY
  refine LH.skip<|ag<|LH.seq<|LH.ae R (sN<|av gn bj cC R R R<|sN<|aS R bj dr<|sN<|bx (f:=LV.I) bd R<|aN R zQ)<|LH.block<|LH.bW (fun n e m=>∃ (n7:Int) (n8:Int) (n9:Int),wI p0 p1 n n7 n8 n9=some r∧e=Env.of [(1,.L p1),(4,.I n7),(5,.I n8),(22,.L p0.bU),(23,.I (p0.bU.length:Int)),(24,.I n9)]∧m=Mem.of []) F ⟨0,0,0,h,R,R⟩ ?_
  clear h
  rintro n e m ⟨n7,n8,n9,h,rfl,rfl⟩
  rcases n with _ | n
  · exact nX h
  obtain ⟨aE,aC⟩:∃ f,f=wI p0 p1 n:=⟨_,rfl⟩
  replace h:Dm p0 p1 aE n7 n8 n9=some r:=aC ▸ h
  unfold Dm at h
  refine LH.ae R (sN<|dK R R zQ)<|LH.seq (LH.cd h R (fun jf h=>?_) fun jf h=>?_)
  ·refine LH.skip<|ag<|LH.seq<|LH.block ?_
   obtain ⟨qa,ph,h⟩:=aa h
   refine LH.ae R (aN R<|sN<|dJ (f:=LV.I) bd aw aL R R gB ph R<|sN<|aS R aw br<|aX R<|aX R zQ) ?_
   obtain ⟨kb,ux,h⟩:=aa h
   refine LH.ae R (dC R<|aN R<|sN<|dJ (f:=LV.I) bd aw aL R R gB ux R<|sN<|aS R aw br zQ)<|LH.block<|LH.ae R (sN<|gv R R<|bK R zQ) (LH.cd h R (fun mj h=>?_) fun mj h=>?_)
   ·refine LH.aJ R (aN R<|aN R<|sN<|bw R R<|aN R<|aN R<|sN<|bw R R<|aX R<|aX R zQ)<|aB<|aB<|ag<|LH.aJ R (sN<|bw R R<|aN R zQ) ?_
    exact aM ⟨(i64 (n7+qa)),(i64 (n8+qa)),(i64 (n9+1)),aC ▸ h,R,R⟩<|Wk.eq R R R R
   refine LH.ae R (sN<|gv R R<|bK R zQ) (LH.cd h R (fun sV h=>?_) fun sV h=>?_)
   ·refine LH.aJ R (aN R<|aN R<|sX ((Gb R R).ok)<|sN<|bw R R<|aN R<|aN R<|sX ((MU R R).ok)<|sN<|bw R R<|aX R<|aX R zQ)<|aB<|aB<|ag<|LH.aJ R (sN<|bw R R<|aN R zQ) ?_
    exact aM ⟨(i64 (n7+(min qa 0))),(i64 (n8+(max qa 0))),(i64 (n9+1)),aC ▸ h,R,R⟩<|Wk.eq R R R R
   refine LH.skip<|aB<|aB<|ag<|LH.aJ R (sN<|bw R R<|aN R zQ) ?_
   exact aM ⟨n7,n8,(i64 (n9+1)),aC ▸ h,R,R⟩<|Wk.eq R R R R
  refine LH.exit<|bB<|bc<|aZ<|ag<|LH.ae R (aN R<|aN R<|aX R<|aX R<|bK R zQ)<|LH.ret ?_
  obtain rfl:=oI h
  exact bL (aT Tryz.results153)<|dx R<|dx R<|dx R<|dN lY
theorem YQ {F:Nat} {p0:cZ} {p1:List Int} {r:Int} (h:D5 F p0 p1=some r):aF Tryz.prog 135 [.agg [.L p0.aj,.lst 3 (p0.Rows.map ar.lv)],.L p1] (Mem.of []) (.I r) (Mem.of []):=by
  unfold D5 at h
  refine aW Tryz.func135 R (nT Tryz.ntmps135 R)<|LH.ae R (sB<|da R R R R<|aX R zQ)<|LH.seq ?_
  obtain ⟨w2,hv,h⟩:=aa h
  refine LH.dF [1,2] 20 w2 [] R ?_ ?_
  ·refine sN<|a7 R e9 gG fa R R ?_
   obtain ⟨r3,hr3,hv⟩:=aa hv
   refine sN<|dh rP (AT hr3)<|sN<|dB R<|bS R ?_
   by_cases bP:(!r3)=true
   ·obtain rfl:=oI (bO hv bP)
    rw [bP]; exact zA
   ·replace bP:=bF bP
    replace hv:=bN hv bP
    refine aK bP<|oM (v:=(.lst _ _)) R<|aK bP<|av fB bj cC R R R<|aK bP<|aS R bj dr<|aK bP<|bx (f:=LV.I) bd R ?_
    obtain ⟨r5,qK,hv⟩:=aa hv
    refine aK bP<|dh Mn (Rb qK)<|aK bP<|dB R<|sN<|bY bP R ?_
    obtain rfl:=oI hv
    exact zS
  clear hv
  refine LH.cd h R (fun lz h=>?_) fun lz h=>?_
  ·refine LH.ae R (aX R zQ)<|LH.ret<|aA ?_
   obtain rfl:=oI h
   exact ba<|aT Tryz.results135
  refine LH.skip<|ag<|LH.seq<|LH.ae R (sN<|av fC fm kK R R R<|sN<|aS R fm nS<|sN<|bx (f:=ar.lv) hY R<|aN R zQ)<|LH.block<|LH.bW (fun n e m=>∃ (n7:Int),wF F p0 p1 n n7=some r∧e=Env.of [(1,.L p1),(22,.lst 3 (p0.Rows.map ar.lv)),(23,.I (p0.Rows.length:Int)),(24,.I n7)]∧m=Mem.of []) F ⟨0,h,R,R⟩ ?_
  clear h
  rintro n e m ⟨n7,h,rfl,rfl⟩
  rcases n with _ | n
  · exact nX h
  obtain ⟨aE,aC⟩:∃ f,f=wF F p0 p1 n:=⟨_,rfl⟩
  replace h:Dh F p0 p1 aE n7=some r:=aC ▸ h
  unfold Dh at h
  refine LH.ae R (sN<|dK R R zQ)<|LH.seq (LH.cd h R (fun oF h=>?_) fun oF h=>?_)
  ·refine LH.skip<|ag<|LH.seq<|LH.block ?_
   obtain ⟨x9,rM,h⟩:=aa h
   refine LH.cM R (aN R<|sN<|dJ (f:=ar.lv) hY eZ dy R R ar.ok rM R<|sN<|a7 R eZ ox dy R R<|sN<|ib (id:=106) R ly R R<|aX R<|s_<|cN R R R eZ dy R R R<|s0<|zB [1,5,6,22,23,24] [106] 106 R) ?_
   obtain ⟨fR,s7,h⟩:=aa h
   refine LH.ae R (sN<|a7 R eZ ox dy R R<|dC R<|sN<|dh Mk (Rk s7)<|sG R<|sN<|gj R R<|sN<|gj R R<|sN<|gj R R<|aX R<|aX R<|bK R zQ)<|LH.dF [1,5,22,23,24] 55 (fR.2.2 && ((decide (fR.1 > x9.cX)) || ((decide (fR.2.1<x9.bE)) || (decide (x9.bE > x9.cX))))) [] R ?_ ?_
   ·refine bS R<|bS R ?_
    by_cases cY:fR.2.2=true
    ·refine aK cY<|oM (v:=(.int _ _)) R<|aK cY<|av gT aw aL R R R<|aK cY<|aS R aw br<|aK cY<|hJ R R<|aK cY<|oM (v:=(.bool _)) R ?_
     by_cases dq:(decide (fR.1 > x9.cX))=true
     ·exact bl dq<|bl dq<|bl dq<|bl dq<|aK cY<|df dq R<|aK cY<|oM (v:=(.bool _)) R<|sF R R R<|sF R R R<|sF R R R<|sF R R R<|sF R R R<|aK cY<|df R R<|sN<|df cY R<|s0<|Wk.to (eC R<|eC R<|eC R<|eC R<|eC R<|eC (cB<|Eq.trans (wz dq)<|eU cY) eN) mN R<|cF R
     ·replace dq:=bF dq
      refine aK dq<|oM (v:=(.int _ _)) R<|aK dq<|av gS aw aL R R R<|aK dq<|aS R aw br<|aK dq<|dK R R<|aK cY<|bY dq R<|aK cY<|oM (v:=(.bool _)) R ?_
      by_cases cI:(decide (fR.2.1<x9.bE))=true
      ·exact bl cI<|bl cI<|bl cI<|bl cI<|bl cI<|aK cY<|df cI R<|sN<|df cY R<|s0<|Wk.to (eC R<|eC R<|eC R<|eC R<|eC R<|eC (cB<|Eq.trans (Eq.trans (wz cI)<|kR dq)<|eU cY) eN) mN R<|cF R
      ·replace cI:=bF cI
       exact aK cI<|av gS aw aL R R R<|aK cI<|aS R aw br<|aK cI<|av gT aw aL R R R<|aK cI<|aS R aw br<|aK cI<|hJ R R<|aK cY<|bY cI R<|sN<|df cY R<|s0<|Wk.to (eC R<|eC R<|eC R<|eC R<|eC R<|eC (cB<|Eq.trans (Eq.trans (kR cI)<|kR dq)<|eU cY) eN) mN R<|cF R
    ·replace cY:=bF cY
     exact bl cY<|bl cY<|bl cY<|bl cY<|bl cY<|sU R R<|sU R R<|sU R R<|sU R R<|bl cY<|bl cY<|sU R R<|sU R R<|sU R R<|sU R R<|sU R R<|bl cY<|sN<|bY cY R<|s0<|Wk.to (eC R<|eC R<|eC R<|eC R<|eC R<|eC (cB<|mf cY) eN) mN R<|cF R
   refine LH.cd h R (fun qd h=>?_) fun qd h=>?_
   ·refine LH.ae R (aN R<|aX R zQ)<|LH.ret<|aU<|aA<|cc<|aU<|aA ?_
    obtain rfl:=oI h
    exact ba<|aT Tryz.results135
   refine LH.skip<|aB<|ag<|LH.aJ R (sN<|bw R R<|aN R zQ) ?_
   exact aM ⟨(i64 (n7+1)),aC ▸ h,R,R⟩<|Wk.eq R R R R
  refine LH.exit<|bB<|bc<|aZ<|ag<|LH.ae R (aX R zQ)<|LH.ret ?_
  obtain rfl:=oI h
  exact ba<|aT Tryz.results135
theorem Yn {F:Nat} {p0:List Int} {p1:Int} {r:Bool} (h:DD F p0 p1=some r):aF Tryz.prog 184 [.L p0,.I p1] (Mem.of []) (.bool r) (Mem.of []):=by
  unfold DD at h
  refine aW Tryz.func184 R (nT Tryz.ntmps184 R)<|LH.ae R (bK R zQ)<|LH.seq<|LH.ae R (dC R<|sN<|bx (f:=LV.I) bd R<|aN R<|sN<|iR R R zQ) (LH.cd h R (fun hc1 h=>?_) fun hc1 h=>?_)
  ·refine LH.ae R (bK R zQ)<|LH.ret<|aA ?_
   obtain rfl:=oI h
   exact ba<|aT Tryz.results184
  refine LH.skip<|ag<|LH.seq<|LH.ae R (dC R<|sN<|bx (f:=LV.I) bd R<|aN R zQ)<|LH.block<|LH.bW (fun n e m=>∃ (n2:Int),Gr p0 n n2=some r∧e=Env.of [(11,.L p0),(12,.I (p0.length:Int)),(13,.I n2)]∧m=Mem.of []) F ⟨0,h,R,R⟩ ?_
  clear h
  rintro n e m ⟨n2,h,rfl,rfl⟩
  rcases n with _ | n
  · exact nX h
  obtain ⟨aE,aC⟩:∃ f,f=Gr p0 n:=⟨_,rfl⟩
  replace h:CL p0 aE n2=some r:=aC ▸ h
  unfold CL at h
  refine LH.ae R (sN<|dK R R zQ)<|LH.seq (LH.cd h R (fun mn h=>?_) fun mn h=>?_)
  ·refine LH.skip<|ag<|LH.seq<|LH.block ?_
   obtain ⟨x4,AG,h⟩:=aa h
   refine LH.ae R (sN<|dJ (f:=LV.I) bd aw aL R R gB AG R<|sN<|aS R aw br<|aX R zQ)<|LH.dF [11,12,13] 22 ((decide (x4<(-1))) || (decide (x4 > 1))) [] R ?_ ?_
   ·refine aN R<|sN<|dK R R<|bS R ?_
    generalize (decide (x4<(-1)))=bn; cases bn
    ·exact sT R R<|oM (v:=(.int _ _)) R<|sT R R<|hJ R R<|sN<|bY R R zS
    ·exact sK<|sN<|df R R zS
   refine LH.cd h R (fun xS h=>?_) fun xS h=>?_
   ·refine LH.ae R (bK R zQ)<|LH.ret<|aU<|aA<|cc<|aU<|aA ?_
    obtain rfl:=oI h
    exact ba<|aT Tryz.results184
   refine LH.skip<|aB<|ag<|LH.aJ R (sN<|bw R R<|aN R zQ) ?_
   exact aM ⟨(i64 (n2+1)),aC ▸ h,R,R⟩<|Wk.eq R R R R
  refine LH.exit<|bB<|bc<|aZ<|ag<|LH.ae R (bK R zQ)<|LH.ret ?_
  obtain rfl:=oI h
  exact ba<|aT Tryz.results184
theorem Q8 {p0:cZ} {p1:aG} {r:Bool} (h:AU p0 p1=some r):aF Tryz.prog 185 [.agg [.L p0.aj,.lst 3 (p0.Rows.map ar.lv)],aG.lv p1] (Mem.of []) (.bool r) (Mem.of []):=by
  unfold AU at h
  refine aW Tryz.func185 R (nT Tryz.ntmps185 R)<|LH.ae R (sB<|da R R R R<|sB<|da R R R R<|bK R zQ)<|LH.seq<|LH.ae R (sN<|av od aw aL R R R<|sN<|aS R aw br<|sN<|iR R R zQ) (LH.cd h R (fun hc1 h=>?_) fun hc1 h=>?_)
  ·refine LH.ae R (bK R zQ)<|LH.ret<|aA ?_
   obtain rfl:=oI h
   exact ba<|aT Tryz.results185
  refine LH.skip<|ag<|LH.seq<|LH.ae R (sN<|av jF aw aL R R R<|sN<|aS R aw br<|sN<|gv R R zQ) (LH.cd h R (fun gK h=>?_) fun gK h=>?_)
  ·refine LH.dF [] 4 ((p1.qx == 0) && (p1.Den == 1)) [] R ?_ ?_
   ·refine sN<|av lU aw aL R R R<|sN<|aS R aw br<|sN<|gv R R<|bS R ?_
    generalize (p1.qx == 0)=bP; cases bP
    ·exact sK<|sN<|bY R R<|bK R zS
    ·exact sT R R<|av p7 aw aL R R R<|sT R R<|aS R aw br<|sT R R<|gv R R<|sN<|df R R<|bK R zS
   refine LH.ret<|aA ?_
   obtain rfl:=oI h
   exact ba<|aT Tryz.results185
  refine LH.skip<|ag<|LH.dF [] 4 ((decide (p1.Row ≥ 0)) && ((decide (p1.Row<(p0.Rows.length:Int))) && ((decide (p1.qx ≥ (-10000))) && ((decide (p1.qx≤10000)) && ((decide (p1.Den ≥ 1)) && (decide (p1.Den≤10000))))))) [] R ?_ ?_
  ·refine sN<|av jF aw aL R R R<|sN<|aS R aw br<|sN<|ot R R<|bS R ?_
   by_cases bn:(decide (p1.Row ≥ 0))=true
   ·refine aK bn<|av jF aw aL R R R<|aK bn<|aS R aw br<|aK bn<|av fC fm kK R R R<|aK bn<|aS R fm nS<|aK bn<|bx (f:=ar.lv) hY R<|aK bn<|dK R R<|sN<|df bn R<|bS R ?_
    by_cases cg:(decide (p1.Row<(p0.Rows.length:Int)))=true
    ·refine aK cg<|av lU aw aL R R R<|aK cg<|aS R aw br<|aK cg<|ot R R<|sN<|df cg R<|bS R ?_
     by_cases cu:(decide (p1.qx ≥ (-10000)))=true
     ·refine aK cu<|av lU aw aL R R R<|aK cu<|aS R aw br<|aK cu<|Kh R R<|sN<|df cu R<|bS R ?_
      by_cases c7:(decide (p1.qx≤10000))=true
      ·refine aK c7<|av p7 aw aL R R R<|aK c7<|aS R aw br<|aK c7<|ot R R<|sN<|df c7 R<|bS R ?_
       by_cases dj:(decide (p1.Den ≥ 1))=true
       ·exact aK dj<|av p7 aw aL R R R<|aK dj<|aS R aw br<|aK dj<|Kh R R<|sN<|df dj R<|bK R<|s0<|Wk.to (eC (cB<|Eq.trans (Eq.trans (Eq.trans (Eq.trans (eU dj)<|eU c7)<|eU cu)<|eU cg)<|eU bn) eN) mN R<|cF R
       ·replace dj:=bF dj
        exact bl dj<|bl dj<|bl dj<|sN<|bY dj R<|bK R<|s0<|Wk.to (eC (cB<|Eq.trans (Eq.trans (Eq.trans (Eq.trans (mf dj)<|eU c7)<|eU cu)<|eU cg)<|eU bn) eN) mN R<|cF R
      ·replace c7:=bF c7
       exact bl c7<|bl c7<|bl c7<|sN<|bY c7 R<|bS R<|sK<|sN<|bY R R<|bK R<|s0<|Wk.to (eC (cB<|Eq.trans (Eq.trans (Eq.trans (mf c7)<|eU cu)<|eU cg)<|eU bn) eN) mN R<|cF R
     ·replace cu:=bF cu
      exact bl cu<|bl cu<|bl cu<|sN<|bY cu R<|bS R<|sK<|sN<|bY R R<|bS R<|sK<|sN<|bY R R<|bK R<|s0<|Wk.to (eC (cB<|Eq.trans (Eq.trans (mf cu)<|eU cg)<|eU bn) eN) mN R<|cF R
    ·replace cg:=bF cg
     exact bl cg<|bl cg<|bl cg<|sN<|bY cg R<|bS R<|sK<|sN<|bY R R<|bS R<|sK<|sN<|bY R R<|bS R<|sK<|sN<|bY R R<|bK R<|s0<|Wk.to (eC (cB<|Eq.trans (mf cg)<|eU bn) eN) mN R<|cF R
   ·replace bn:=bF bn
    exact bl bn<|bl bn<|bl bn<|bl bn<|bl bn<|bl bn<|sN<|bY bn R<|bS R<|sK<|sN<|bY R R<|bS R<|sK<|sN<|bY R R<|bS R<|sK<|sN<|bY R R<|bS R<|sK<|sN<|bY R R<|bK R<|s0<|Wk.to (eC (cB<|mf bn) eN) mN R<|cF R
  refine LH.ret ?_
  obtain rfl:=oI h
  exact ba<|aT Tryz.results185
theorem YL {p0:Int} {p1:Int} {r:Int} (h:Ib p0 p1=some r):aF Tryz.prog 198 [.I p0,.I p1] (Mem.of []) (.I r) (Mem.of []):=by
  unfold Ib at h
  refine aW Tryz.func198 R (nT Tryz.ntmps198 R)<|LH.ae R (aX R zQ) ?_
  obtain ⟨v1,jj,h⟩:=aa h
  refine LH.ae R (aN R<|aN R<|sN<|adm R R jj<|aX R zQ)<|LH.seq ?_
  obtain ⟨v2,hv2,h⟩:=aa h
  refine LH.ae R (aN R<|aN R<|sN<|XX R R hv2<|sN<|hJ R R zQ) (LH.cd h R (fun mn h=>?_) fun mn h=>?_)
  ·refine LH.aJ R (aN R<|sN<|bw R R<|aX R zQ)<|ag<|LH.ae R (aN R<|aX R zQ)<|LH.ret ?_
   obtain rfl:=oI h
   exact ba<|aT Tryz.results198
  refine LH.skip<|ag<|LH.ae R (aN R<|aX R zQ)<|LH.ret ?_
  obtain rfl:=oI h
  exact ba<|aT Tryz.results198
theorem Q7 {F:Nat} {p0:cZ} {p1:List Int} {p2:aG} {r:Int} (h:GM F p0 p1 p2=some r):aF Tryz.prog 154 [.agg [.L p0.aj,.lst 3 (p0.Rows.map ar.lv)],.L p1,aG.lv p2] (Mem.of []) (.I r) (Mem.of []):=by
  unfold GM at h
  refine aW Tryz.func154 R (nT Tryz.ntmps154 R)<|LH.ae R (sB<|da R R R R<|sB<|da R R R R<|aX R zQ) ?_
  obtain ⟨v1,jj,h⟩:=aa h
  refine LH.cK [(1,.L p1),(3,.sptr [.L p0.aj,.lst 3 (p0.Rows.map ar.lv)]),(5,.sptr (aG.lv p2).cells),(7,.ptr 107 0)] [(107,.box [.arr 115 v1.length,.I 0,.I 0]),(115,.arr 3 1 (v1.map LV.I))] R (sN<|av fB bj cC R R R<|sN<|aS R bj dr<|sN<|bx (f:=LV.I) bd R<|sN<|QX (f:=LV.I) (z:=0) (id:=115) R bd Oq nB aL R R R jj R<|sN<|hD (vs:=[(0,.arr 115 v1.length)]) ES ly R (lf gn cC bj R R R gZ)<|sN<|ib (id:=107) R ly R R<|s_<|cN R R R eZ dy R R R zS)<|LH.mid (fun e m=>∃ (l2:List Int) (n3:Int) (n4:Int),C3 F p0 p1 p2 l2 n3 n4=some r∧Wk (fun id=>Mem.of [] id ≠ .none) e m (Env.of [(1,.L p1),(3,.sptr [.L p0.aj,.lst 3 (p0.Rows.map ar.lv)]),(5,.sptr (aG.lv p2).cells),(7,.sptr [.L l2,.I n3,.I n4])]) (Mem.of [])) ?_ ?_
  ·refine LH.ae R (sN<|av jF aw aL R R R<|sN<|aS R aw br<|sN<|ot R R zQ) (LH.cd h R (fun o8 h=>?_) fun o8 h=>?_)
   ·obtain ⟨jn,oK,h⟩:=aa h
    exact LH.gU [(1,.L p1),(3,.sptr [.L p0.aj,.lst 3 (p0.Rows.map ar.lv)]),(5,.sptr (aG.lv p2).cells),(7,.sptr [.L jn.bU,.I jn.bE,.I jn.cX])] [] R (sN<|av fC fm kK R R R<|sN<|aS R fm nS<|sN<|av jF aw aL R R R<|sN<|aS R aw br<|sN<|dJ (f:=ar.lv) hY eZ dy R R ar.ok oK R<|sN<|a7 R eZ ox dy R R<|s_<|cN R R R eZ dy R R R<|s0<|(Wk.trans (zB [1,3,5,7] [107] 107 R)<|Wk.eq R R R R))<|ag ⟨jn.bU,jn.bE,jn.cX,h,Wk.eq R R R R⟩
   exact LH.skip<|ag ⟨v1,0,0,h,(Wk.trans (bQ [1,3,5,7] [107,115])<|Wk.trans (Wk.trans (Wk.cL (f:=LV.I) 115 3 1 v1 107 R R R (dW<|ay R<|ay R dV) R R<|cv R)<|bQ [1,3,5,7] [107])<|Wk.trans (Wk.dz 107 [.L v1,.I 0,.I 0] R R R<|cv R)<|Wk.eq R R R R)⟩
  clear h
  rintro e m ⟨l2,n3,n4,h,hw⟩
  refine LH.wk hw ?_
  clear hw
  unfold C3 at h
  refine LH.cK [(1,.L p1),(3,.sptr [.L p0.aj,.lst 3 (p0.Rows.map ar.lv)]),(5,.sptr (aG.lv p2).cells),(7,.sptr [.L l2,.I n3,.I n4]),(8,.I (i64 (p2.qx * n3)))] [] R (sN<|av lU aw aL R R R<|sN<|aS R aw br<|sN<|av gS aw aL R R R<|sN<|aS R aw br<|sN<|MN R R<|aX R zS)<|LH.mid (fun e m=>∃ (n5:Int),C4 F p0 p1 p2 l2 n5=some r∧Wk (fun id=>Mem.of [] id ≠ .none) e m (Env.of [(1,.L p1),(3,.sptr [.L p0.aj,.lst 3 (p0.Rows.map ar.lv)]),(5,.sptr (aG.lv p2).cells),(7,.sptr [.L l2,.I n3,.I n4]),(8,.I n5)]) (Mem.of [])) ?_ ?_
  ·refine LH.ae R (sN<|av lU aw aL R R R<|sN<|aS R aw br<|sN<|dK R R zQ) (LH.cd h R (fun qd h=>?_) fun qd h=>?_)
   ·exact LH.aJ R (sN<|av lU aw aL R R R<|sN<|aS R aw br<|sN<|av gT aw aL R R R<|sN<|aS R aw br<|sN<|MN R R<|aX R zQ)<|ag ⟨(i64 (p2.qx * n4)),h,Wk.eq R R R R⟩
   exact LH.skip<|ag ⟨(i64 (p2.qx * n3)),h,Wk.eq R R R R⟩
  clear h
  rintro e m ⟨n5,h,hw⟩
  refine LH.wk hw ?_
  clear hw
  unfold C4 at h
  refine LH.seq<|LH.cK [(1,.L p1),(5,.sptr (aG.lv p2).cells),(7,.sptr [.L l2,.I n3,.I n4]),(8,.I n5),(40,.L p0.aj),(41,.I (p0.aj.length:Int)),(42,.I 0)] [] R (sN<|av fB bj cC R R R<|sN<|aS R bj dr<|sN<|bx (f:=LV.I) bd R<|aN R zS)<|LH.block<|LH.bW (fun n e m=>∃ (n6:Int) (n7:Int),Gq p0 p1 p2 l2 n n6 n7=some r∧e=Env.of [(1,.L p1),(5,.sptr (aG.lv p2).cells),(7,.sptr [.L l2,.I n3,.I n4]),(8,.I n6),(40,.L p0.aj),(41,.I (p0.aj.length:Int)),(42,.I n7)]∧m=Mem.of []) F ⟨n5,0,h,R,R⟩ ?_
  clear h
  rintro n e m ⟨n6,n7,h,rfl,rfl⟩
  rcases n with _ | n
  · exact nX h
  obtain ⟨fH,fV⟩:∃ f,f=Gq p0 p1 p2 l2 n:=⟨_,rfl⟩
  replace h:CK p0 p1 p2 l2 fH n6 n7=some r:=fV ▸ h
  unfold CK at h
  refine LH.ae R (sN<|dK R R zQ)<|LH.seq (LH.cd h R (fun oF h=>?_) fun oF h=>?_)
  ·refine LH.skip<|ag<|LH.seq<|LH.block ?_
   obtain ⟨x9,rM,h⟩:=aa h
   refine LH.ae R (aN R<|sN<|dJ (f:=LV.I) bd aw aL R R gB rM R<|sN<|aS R aw br<|aX R<|aX R zQ) ?_
   obtain ⟨mI,oJ,h⟩:=aa h
   refine LH.eY mixed [] [0,0,0,0,0,0,0,0,0,0,0,0,0,0] [(1,.L p1),(5,.sptr (aG.lv p2).cells),(7,.sptr [.L l2,.I n3,.I n4]),(8,.I n6),(9,.I n7),(11,.I (i64 ((i64 (p2.Den * x9)) - (i64 (p2.qx * mI))))),(40,.L p0.aj),(41,.I (p0.aj.length:Int)),(42,.I n7)] [] R R (by kernel_rfl) ?_ ?_
   ·exact aI<|av p7 aw aL R R R ⟨R,aI<|aS R aw br ⟨R,gu R<|aI<|MN R R ⟨R,aI<|av lU aw aL R R R ⟨R,aI<|aS R aw br ⟨R,aI<|av gn bj cC R R R ⟨R,aI<|aS R bj dr ⟨R,gu R<|aI<|dJ (f:=LV.I) bd aw aL R R gB oJ R ⟨R,aI<|aS R aw br ⟨R,aI<|MN R R ⟨R,aI<|j7 R R ⟨R,Kf R zM⟩⟩⟩⟩⟩⟩⟩⟩⟩⟩⟩
   obtain ⟨qa,ph,h⟩:=aa h
   refine LH.ae R (dC R<|aN R<|sN<|dJ (f:=LV.I) bd aw aL R R gB ph R<|sN<|aS R aw br zQ)<|LH.block<|LH.ae R (sN<|gv R R<|bK R zQ) (LH.cd h R (fun jt h=>?_) fun jt h=>?_)
   ·refine LH.aJ R (aN R<|aN R<|sN<|bw R R<|aX R zQ)<|aB<|aB<|ag<|LH.aJ R (sN<|bw R R<|aN R zQ) ?_
    exact aM ⟨(i64 (n6+(i64 ((i64 (p2.Den * x9)) - (i64 (p2.qx * mI)))))),(i64 (n7+1)),fV ▸ h,R,R⟩<|Wk.eq R R R R
   refine LH.ae R (sN<|gv R R<|bK R zQ) (LH.cd h R (fun mj h=>?_) fun mj h=>?_)
   ·refine LH.aJ R (aN R<|aN R<|sX ((Gb R R).ok)<|sN<|bw R R<|aX R zQ)<|aB<|aB<|ag<|LH.aJ R (sN<|bw R R<|aN R zQ) ?_
    exact aM ⟨(i64 (n6+(min (i64 ((i64 (p2.Den * x9)) - (i64 (p2.qx * mI)))) 0))),(i64 (n7+1)),fV ▸ h,R,R⟩<|Wk.eq R R R R
   refine LH.skip<|aB<|aB<|ag<|LH.aJ R (sN<|bw R R<|aN R zQ) ?_
   exact aM ⟨n6,(i64 (n7+1)),fV ▸ h,R,R⟩<|Wk.eq R R R R
  refine LH.exit<|bB<|bc<|aZ<|ag ?_
  obtain ⟨fJ,s8,h⟩:=aa h
  refine LH.ae R (aN R<|sN<|av p7 aw aL R R R<|sN<|aS R aw br<|sN<|dh TV (YL s8)<|aX R zQ)<|LH.ret ?_
  obtain rfl:=oI h
  exact ba<|aT Tryz.results154
theorem YD {F:Nat} {p0:cZ} {p1:List Int} {p2:aG} {r:Int × Bool} (h:DT F p0 p1 p2=some r):aF Tryz.prog 136 [.agg [.L p0.aj,.lst 3 (p0.Rows.map ar.lv)],.L p1,aG.lv p2] (Mem.of []) (.tup [.I r.1,.bool r.2]) (Mem.of []):=by
  unfold DT at h
  refine aW Tryz.func136 R (nT Tryz.ntmps136 R)<|LH.ae R (sB<|da R R R R<|sB<|da R R R R<|aX R<|bK R zQ)<|LH.seq ?_
  obtain ⟨w2,hv,h⟩:=aa h
  refine LH.dF [1,3,5] 24 w2 [] R ?_ ?_
  ·refine sN<|a7 R e9 gG fa R R ?_
   obtain ⟨r3,hr3,hv⟩:=aa hv
   refine sN<|dh rP (AT hr3)<|sN<|dB R<|bS R ?_
   by_cases bP:(!r3)=true
   ·obtain rfl:=oI (bO hv bP)
    rw [bP]; exact zA
   ·replace bP:=bF bP
    replace hv:=bN hv bP
    refine aK bP<|oM (v:=(.lst _ _)) R<|aK bP<|av fB bj cC R R R<|aK bP<|aS R bj dr<|aK bP<|bx (f:=LV.I) bd R ?_
    obtain ⟨r5,qK,hv⟩:=aa hv
    refine aK bP<|dh TQ (Yn qK)<|aK bP<|dB R<|sN<|bY bP R<|bS R ?_
    by_cases bn:(!r5)=true
    ·obtain rfl:=oI (bO hv bn)
     rw [bn]; exact zA
    ·replace bn:=bF bn
     replace hv:=bN hv bn
     refine aK bn<|a7 R e9 gG fa R R<|aK bn<|a7 R kr sk gW R R ?_
     obtain ⟨r7,yf,hv⟩:=aa hv
     refine aK bn<|dh Mo (Q8 yf)<|aK bn<|dB R<|sN<|bY bn R ?_
     obtain rfl:=oI hv
     exact zS
  clear hv
  refine LH.cd h R (fun oF h=>?_) fun oF h=>?_
  ·refine LH.ae R (aX R<|bK R zQ)<|LH.ret<|aA ?_
   obtain rfl:=oI h
   exact bL (aT Tryz.results136)<|dx R<|dx R<|dN lY
  refine LH.skip<|ag ?_
  obtain ⟨r9,FQ,h⟩:=aa h
  refine LH.ae R (sN<|a7 R e9 gG fa R R<|dC R<|sN<|a7 R kr sk gW R R<|sN<|dh Ml (Q7 FQ)<|aX R<|bK R zQ)<|LH.ret ?_
  obtain rfl:=oI h
  exact bL (aT Tryz.results136)<|dx R<|dx R<|dN lY
end Go.Proofs.YtiinmaihgmfniaaGreat
