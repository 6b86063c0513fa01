import Derived.Test.YtiinmaihgmfniaaGreatZW3
set_option linter.unusedVariables false
set_option linter.unusedSimpArgs false
set_option maxRecDepth 100000
set_option maxHeartbeats 1000000
namespace Go.Proofs.YtiinmaihgmfniaaGreat
open Go.L Go.Sh
set_option maxHeartbeats 4000000 in
theorem aas {F:Nat} {p0:ax} {p1:Int} {r:fG × ax} (h:Kt F p0 p1=some r):aF Tryz.prog 31 [.ptr 7 0,.I p1] (Mem.of [(7,.box [.L p0.L,.I p0.At])]) (.agg [.I r.1.cD,.I r.1.c6,.I r.1.aY,.I r.1.bh,.lst 3 (r.1.b5.map bM.lv),.lst 3 (r.1.aR.map bM.lv),.L r.1.cV,.lst 2 (r.1.bC.map bA.lv),.I r.1.aV]) (Mem.of [(7,.box [.L r.2.L,.I r.2.At])]):=by
  unfold Kt at h
  refine aW Tryz.func31 R (nT Tryz.ntmps31 R)<|LH.ae R (sN<|ib (id:=104) R P3 R R zQ) ?_
  obtain ⟨r1,dI,h⟩:=aa h
  refine LH.ae R (fW R<|sN<|gq fb (iP dI)<|aX R zQ) ?_
  obtain ⟨r2,hr2,h⟩:=aa h
  obtain ⟨r3,hr3,h⟩:=aa h
  obtain ⟨r4,FO,h⟩:=aa h
  obtain ⟨r5,qK,h⟩:=aa h
  refine LH.cK [(0,.ptr 7 0),(1,.I p1),(4,.ptr 104 0),(6,.ptr 106 0)] [(7,.box [.L r5.2.L,.I r5.2.At]),(104,.box [.I 0,.I 0,.I 0,.I 0,.nil,.nil,.nil,.nil,.I 0]),(106,.box [.I r1.1,.I (i64 (r1.1+r2.1)),.I r3.1,.I r4.1,.nil,.nil,.nil,.nil,.I r5.1])] R ?_ ?_
  ·exact aN R<|aN R<|fW R<|sN<|gq ij (me hr2)<|sN<|bw R R<|fW R<|sN<|gq fb (iP hr3)<|fW R<|sN<|gq ij (me FO)<|fW R<|sN<|gq fb (iP qK)<|sN<|hD (vs:=[(0,.I r1.1),(1,.I (i64 (r1.1+r2.1))),(2,.I r3.1),(3,.I r4.1),(8,.I r5.1)]) adG P3 R (lf tu aL aw R R R<|lf xv aL aw R R R<|lf Bb aL aw R R R<|lf xw aL aw R R R<|lf xx aL aw R R R gZ)<|sN<|ib (id:=106) R P3 R R<|s_<|cN R R R iS iT R R R zS
  refine LH.seq<|LH.ae R (aX R zQ)<|LH.block<|LH.wk ((Wk.trans (bQ [0,1,4,6,7] [7,104,106])<|Wk.trans (Wk.kp 142 188 3 106 4 R R R R R<|cv R)<|bQ [0,1,4,6,7] [7,104,106,142]))<|LH.bW (fun n e m=>∃ (n6:Int) (l7:List Int) (n8:Int) (l9:List bM),Fa F p1 r1 r2 r3 r4 r5 n n6 l7 n8 l9=some r∧e=Env.of [(0,.ptr 7 0),(1,.I p1),(4,.ptr 104 0),(6,.ptr 106 0),(7,.I n6)]∧m=Mem.of [(7,.box [.L l7,.I n8]),(104,.box [.I 0,.I 0,.I 0,.I 0,.nil,.nil,.nil,.nil,.I 0]),(106,.box [.I r1.1,.I (i64 (r1.1+r2.1)),.I r3.1,.I r4.1,.arr 142 l9.length,.nil,.nil,.nil,.I r5.1]),(142,.arr 188 3 (l9.map bM.lv))]) F ⟨0,r5.2.L,r5.2.At,([]:List bM),h,R,R⟩ ?_
  clear h
  rintro n e m ⟨n6,l7,n8,l9,h,rfl,rfl⟩
  rcases n with _ | n
  · exact nX h
  obtain ⟨aE,aC⟩:∃ f,f=Fa F p1 r1 r2 r3 r4 r5 n:=⟨_,rfl⟩
  replace h:Ku F p1 r1 r2 r3 r4 r5 aE n6 l7 n8 l9=some r:=aC ▸ h
  unfold Ku at h
  refine LH.seq<|LH.ae R (aN R<|sN<|dK R R zQ) (LH.cd h R (fun jf h=>?_) fun jf h=>?_)
  ·refine LH.skip<|ag<|LH.seq<|LH.block ?_
   obtain ⟨dS,j5,h⟩:=aa h
   refine LH.ae R (fW R<|sN<|gq pk (u7 j5) zQ) (LH.cd h R (fun jt h=>?_) fun jt h=>?_)
   ·obtain ⟨sD,vT,h⟩:=aa h
    obtain ⟨fJ,s8,h⟩:=aa h
    obtain ⟨JZ,L0,h⟩:=aa h
    refine LH.mu mixed [] [0,1106,0,0,100007,0,100007,0,0,2,0,100106] R R (by kernel_rfl) (aI<|eF lp fk jT R R ⟨R,mD R R R (fun _ b _ d=>de R b R R fk oS d)<|gu R<|uy R<|mW R R R (fun _ b _ d=>mw (args:=[.ptr 7 0,.I 4]) (ml:=[(7,.box [.L dS.2.L,.I dS.2.At])]) (eD:=[(7,.box [.L sD.2.L,.I sD.2.At])]) R fb R (bZ<|bZ fF) (iP vT) (mC b mN) (bT R dO) R d)<|uy R<|mW R R R (fun _ b _ d=>mw (args:=[.ptr 7 0,.I 4,.I 30]) (ml:=[(7,.box [.L sD.2.L,.I sD.2.At])]) (eD:=[(7,.box [.L fJ.2.L,.I fJ.2.At])]) R ij R (bZ<|bZ<|bZ fF) (me s8) (mC b mN) (bT R dO) R d)<|aI<|hD (vs:=[(0,.I n6),(1,.I sD.1),(2,.I fJ.1)]) Iv xJ R (lf iy aL aw R R R<|lf lT aL aw R R R<|lf kJ aL aw R R R gZ) ⟨R,aI<|ic (f:=bM.lv) (ys:=[(bM.mk n6 sD.1 fJ.1)]) jx ua fM R R R bM.ok ⟨R,E2<|oN (f:=bM.lv) jx ua fM R R (cv R) R L0<|aI<|eF lp fk jT R R ⟨R,mS R R R (fun _ b _ d=>cN R R R fk jT b R R d) zV⟩⟩⟩⟩)<|aB<|ag<|LH.aJ R (aN R<|sN<|bw R R<|aX R zQ) ?_
    exact aM ⟨(i64 (n6+1)),fJ.2.L,fJ.2.At,JZ,aC ▸ h,R,R⟩<|Wk.eq R R R R
   refine LH.skip<|aB<|ag<|LH.aJ R (aN R<|sN<|bw R R<|aX R zQ) ?_
   exact aM ⟨(i64 (n6+1)),dS.2.L,dS.2.At,l9,aC ▸ h,R,R⟩<|Wk.eq R R R R
  refine LH.exit<|bB<|bc<|aZ<|ag<|LH.seq<|LH.ae R (aX R zQ)<|LH.block<|LH.wk ((Wk.trans (bQ [0,1,4,6,8] [7,104,106,142])<|Wk.trans (Wk.kp 159 188 3 106 5 R R R R R<|cv R)<|bQ [0,1,4,6,8] [7,104,106,142,159]))<|LH.bW (fun n e m=>∃ (n16:Int) (Bq:List Int) (n18:Int) (ga:List bM),Fb F p1 r1 r2 r3 r4 r5 l9 n n16 Bq n18 ga=some r∧e=Env.of [(0,.ptr 7 0),(1,.I p1),(4,.ptr 104 0),(6,.ptr 106 0),(8,.I n16)]∧m=Mem.of [(7,.box [.L Bq,.I n18]),(104,.box [.I 0,.I 0,.I 0,.I 0,.nil,.nil,.nil,.nil,.I 0]),(106,.box [.I r1.1,.I (i64 (r1.1+r2.1)),.I r3.1,.I r4.1,.arr 142 l9.length,.arr 159 ga.length,.nil,.nil,.I r5.1]),(142,.arr 188 3 (l9.map bM.lv)),(159,.arr 188 3 (ga.map bM.lv))]) F ⟨0,l7,n8,([]:List bM),h,R,R⟩ ?_
  clear h
  rintro n e m ⟨n16,Bq,n18,ga,h,rfl,rfl⟩
  rcases n with _ | n
  · exact nX h
  obtain ⟨dU,dR⟩:∃ f,f=Fb F p1 r1 r2 r3 r4 r5 l9 n:=⟨_,rfl⟩
  replace h:Kv F p1 r1 r2 r3 r4 r5 l9 dU n16 Bq n18 ga=some r:=dR ▸ h
  unfold Kv at h
  refine LH.seq<|LH.ae R (aN R<|sN<|dK R R zQ) (LH.cd h R (fun qe h=>?_) fun qe h=>?_)
  ·refine LH.skip<|ag<|LH.seq<|LH.block ?_
   obtain ⟨nA,FM,h⟩:=aa h
   refine LH.ae R (fW R<|sN<|gq pk (u7 FM) zQ) (LH.cd h R (fun As h=>?_) fun As h=>?_)
   ·obtain ⟨uB,LN,h⟩:=aa h
    obtain ⟨Oi,abQ,h⟩:=aa h
    obtain ⟨v25,acA,h⟩:=aa h
    refine LH.mu mixed [] [0,1106,0,0,100007,0,100007,0,0,2,0,100106] R R (by kernel_rfl) (aI<|eF lq fk jT R R ⟨R,mD R R R (fun _ b _ d=>de R b R R fk oS d)<|gu R<|uy R<|mW R R R (fun _ b _ d=>mw (args:=[.ptr 7 0,.I 4]) (ml:=[(7,.box [.L nA.2.L,.I nA.2.At])]) (eD:=[(7,.box [.L uB.2.L,.I uB.2.At])]) R fb R (bZ<|bZ fF) (iP LN) (mC b mN) (bT R dO) R d)<|uy R<|mW R R R (fun _ b _ d=>mw (args:=[.ptr 7 0,.I 4,.I 30]) (ml:=[(7,.box [.L uB.2.L,.I uB.2.At])]) (eD:=[(7,.box [.L Oi.2.L,.I Oi.2.At])]) R ij R (bZ<|bZ<|bZ fF) (me abQ) (mC b mN) (bT R dO) R d)<|aI<|hD (vs:=[(0,.I n16),(1,.I uB.1),(2,.I Oi.1)]) Iv xJ R (lf iy aL aw R R R<|lf lT aL aw R R R<|lf kJ aL aw R R R gZ) ⟨R,aI<|ic (f:=bM.lv) (ys:=[(bM.mk n16 uB.1 Oi.1)]) jx ua fM R R R bM.ok ⟨R,E2<|oN (f:=bM.lv) jx ua fM R R (cv R) R acA<|aI<|eF lq fk jT R R ⟨R,mS R R R (fun _ b _ d=>cN R R R fk jT b R R d) zV⟩⟩⟩⟩)<|aB<|ag<|LH.aJ R (aN R<|sN<|bw R R<|aX R zQ) ?_
    exact aM ⟨(i64 (n16+1)),Oi.2.L,Oi.2.At,v25,dR ▸ h,R,R⟩<|Wk.eq R R R R
   refine LH.skip<|aB<|ag<|LH.aJ R (aN R<|sN<|bw R R<|aX R zQ) ?_
   exact aM ⟨(i64 (n16+1)),nA.2.L,nA.2.At,ga,dR ▸ h,R,R⟩<|Wk.eq R R R R
  refine LH.exit<|bB<|bc<|aZ<|ag<|LH.seq<|LH.ae R (aX R zQ)<|LH.block<|LH.wk ((Wk.trans (bQ [0,1,4,6,9] [7,104,106,142,159])<|Wk.trans (Wk.kp 171 3 1 106 6 R R R R R<|cv R)<|bQ [0,1,4,6,9] [7,104,106,142,159,171]))<|LH.bW (fun n e m=>∃ (n26:Int) (Ub:List Int) (n28:Int) (km:List Int),Fc F p1 r1 r2 r3 r4 r5 l9 ga n n26 Ub n28 km=some r∧e=Env.of [(0,.ptr 7 0),(1,.I p1),(4,.ptr 104 0),(6,.ptr 106 0),(9,.I n26)]∧m=Mem.of [(7,.box [.L Ub,.I n28]),(104,.box [.I 0,.I 0,.I 0,.I 0,.nil,.nil,.nil,.nil,.I 0]),(106,.box [.I r1.1,.I (i64 (r1.1+r2.1)),.I r3.1,.I r4.1,.arr 142 l9.length,.arr 159 ga.length,.arr 171 km.length,.nil,.I r5.1]),(142,.arr 188 3 (l9.map bM.lv)),(159,.arr 188 3 (ga.map bM.lv)),(171,.arr 3 1 (km.map LV.I))]) F ⟨0,Bq,n18,([]:List Int),h,R,R⟩ ?_
  clear h
  rintro n e m ⟨n26,Ub,n28,km,h,rfl,rfl⟩
  rcases n with _ | n
  · exact nX h
  obtain ⟨fH,fV⟩:∃ f,f=Fc F p1 r1 r2 r3 r4 r5 l9 ga n:=⟨_,rfl⟩
  replace h:Kw F p1 r1 r2 r3 r4 r5 l9 ga fH n26 Ub n28 km=some r:=fV ▸ h
  unfold Kw at h
  refine LH.seq<|LH.ae R (aN R<|sN<|dK R R zQ) (LH.cd h R (fun rE h=>?_) fun rE h=>?_)
  ·refine LH.skip<|ag<|LH.seq<|LH.block ?_
   obtain ⟨jV,AE,h⟩:=aa h
   refine LH.ae R (fW R<|sN<|gq pk (u7 AE) zQ) (LH.cd h R (fun Au h=>?_) fun Au h=>?_)
   ·obtain ⟨v33,S7,h⟩:=aa h
    refine LH.aJ R (sN<|eF mB bj cC R R<|sN<|de R R R R bj dr<|aN R<|sN<|ic (f:=LV.I) (ys:=[n26]) bd nB aL R R R gB<|sN<|oN (f:=LV.I) bd nB aL R R (cv R) R S7<|sN<|eF mB bj cC R R<|s_<|cN R R R bj cC R R R zQ)<|aB<|ag<|LH.aJ R (aN R<|sN<|bw R R<|aX R zQ) ?_
    exact aM ⟨(i64 (n26+1)),jV.2.L,jV.2.At,v33,fV ▸ h,R,R⟩<|Wk.eq R R R R
   refine LH.skip<|aB<|ag<|LH.aJ R (aN R<|sN<|bw R R<|aX R zQ) ?_
   exact aM ⟨(i64 (n26+1)),jV.2.L,jV.2.At,km,fV ▸ h,R,R⟩<|Wk.eq R R R R
  refine LH.exit<|bB<|bc<|aZ<|ag<|LH.seq ?_
  obtain ⟨Kk,abU,h⟩:=aa h
  refine LH.ae R (fW R<|sN<|gq fb (iP abU)<|aX R zQ)<|LH.block<|LH.wk ((Wk.trans (bQ [0,1,4,6,10] [7,104,106,142,159,171])<|Wk.trans (Wk.kp 199 99 2 106 7 R R R R R<|cv R)<|bQ [0,1,4,6,10] [7,104,106,142,159,171,199]))<|LH.bW (fun n e m=>∃ (n35:Int) (QV:List Int) (n37:Int) (jA:List bA),By F p1 r1 r2 r3 r4 r5 l9 ga km n n35 QV n37 jA=some r∧e=Env.of [(0,.ptr 7 0),(1,.I p1),(4,.ptr 104 0),(6,.ptr 106 0),(10,.I n35)]∧m=Mem.of [(7,.box [.L QV,.I n37]),(104,.box [.I 0,.I 0,.I 0,.I 0,.nil,.nil,.nil,.nil,.I 0]),(106,.box [.I r1.1,.I (i64 (r1.1+r2.1)),.I r3.1,.I r4.1,.arr 142 l9.length,.arr 159 ga.length,.arr 171 km.length,.arr 199 jA.length,.I r5.1]),(142,.arr 188 3 (l9.map bM.lv)),(159,.arr 188 3 (ga.map bM.lv)),(171,.arr 3 1 (km.map LV.I)),(199,.arr 99 2 (jA.map bA.lv))]) F ⟨Kk.1,Kk.2.L,Kk.2.At,([]:List bA),h,R,R⟩ ?_
  clear h
  rintro n e m ⟨n35,QV,n37,jA,h,rfl,rfl⟩
  rcases n with _ | n
  · exact nX h
  obtain ⟨lC,tL⟩:∃ f,f=By F p1 r1 r2 r3 r4 r5 l9 ga km n:=⟨_,rfl⟩
  replace h:Kx F p1 r1 r2 r3 r4 r5 l9 ga km lC n35 QV n37 jA=some r:=tL ▸ h
  unfold Kx at h
  refine LH.seq<|LH.ae R (aN R<|sN<|hJ R R zQ) (LH.cd h R (fun I1 h=>?_) fun I1 h=>?_)
  ·refine LH.skip<|ag<|LH.seq<|LH.block<|LH.ae R (sN<|ib (id:=111) R NV R R zQ)<|LH.seq ?_
   obtain ⟨Bv,SP,h⟩:=aa h
   refine LH.ae R (fW R<|sN<|gq fb (iP SP)<|aX R zQ)<|LH.block<|LH.wk ((Wk.trans (bQ [0,1,4,6,10,11,12] [7,104,106,111,142,159,171,199])<|Wk.trans (Wk.kp 193 105 2 111 1 R R R R R<|cv R)<|bQ [0,1,4,6,10,11,12] [7,104,106,111,142,159,171,193,199]))<|LH.bW (fun n e m=>∃ (n41:Int) (Pg:List Int) (n43:Int) (Cm:List bD),Fe lC n35 jA n n41 Pg n43 Cm=some r∧e=Env.of [(0,.ptr 7 0),(1,.I p1),(4,.ptr 104 0),(6,.ptr 106 0),(10,.I n35),(11,.ptr 111 0),(12,.I n41)]∧m=Mem.of [(7,.box [.L Pg,.I n43]),(104,.box [.I 0,.I 0,.I 0,.I 0,.nil,.nil,.nil,.nil,.I 0]),(106,.box [.I r1.1,.I (i64 (r1.1+r2.1)),.I r3.1,.I r4.1,.arr 142 l9.length,.arr 159 ga.length,.arr 171 km.length,.arr 199 jA.length,.I r5.1]),(111,.box [.I 0,.arr 193 Cm.length]),(142,.arr 188 3 (l9.map bM.lv)),(159,.arr 188 3 (ga.map bM.lv)),(171,.arr 3 1 (km.map LV.I)),(193,.arr 105 2 (Cm.map bD.lv)),(199,.arr 99 2 (jA.map bA.lv))]) F ⟨Bv.1,Bv.2.L,Bv.2.At,([]:List bD),h,R,R⟩ ?_
   clear h
   rintro n e m ⟨n41,Pg,n43,Cm,h,rfl,rfl⟩
   rcases n with _ | n
   · exact nX h
   obtain ⟨GR,Cf⟩:∃ f,f=Fe lC n35 jA n:=⟨_,rfl⟩
   replace h:Ky lC n35 jA GR n41 Pg n43 Cm=some r:=Cf ▸ h
   unfold Ky at h
   refine LH.seq<|LH.ae R (aN R<|sN<|hJ R R zQ) (LH.cd h R (fun Sq h=>?_) fun Sq h=>?_)
   ·refine LH.skip<|ag<|LH.seq<|LH.block ?_
    obtain ⟨PH,abW,h⟩:=aa h
    obtain ⟨zJ,LU,h⟩:=aa h
    obtain ⟨v48,acH,h⟩:=aa h
    refine LH.mu mixed [] [0,1111,0,100007,0,100007,0,0,2,0,100111] R R (by kernel_rfl) (aI<|eF G8 JV P1 R R ⟨R,mD R R R (fun _ b _ d=>de R b R R JV Zr d)<|uy R<|mW R R R (fun _ b _ d=>mw (args:=[.ptr 7 0,.I 4]) (ml:=[(7,.box [.L Pg,.I n43])]) (eD:=[(7,.box [.L PH.2.L,.I PH.2.At])]) R fb R (bZ<|bZ fF) (iP abW) (mC b mN) (bT R dO) R d)<|uy R<|mW R R R (fun _ b _ d=>mw (args:=[.ptr 7 0,.I 1,.I 2]) (ml:=[(7,.box [.L PH.2.L,.I PH.2.At])]) (eD:=[(7,.box [.L zJ.2.L,.I zJ.2.At])]) R ij R (bZ<|bZ<|bZ fF) (me LU) (mC b mN) (bT R dO) R d)<|aI<|hD (vs:=[(0,.I PH.1),(1,.I zJ.1)]) z6 z7 R (lf jE aL aw R R R<|lf fq aL aw R R R gZ) ⟨R,aI<|ic (f:=bD.lv) (ys:=[(bD.mk PH.1 zJ.1)]) uG Is eM R R R bD.ok ⟨R,E2<|oN (f:=bD.lv) uG Is eM R R (cv R) R acH<|aI<|eF G8 JV P1 R R ⟨R,mS R R R (fun _ b _ d=>cN R R R JV P1 b R R d) zV⟩⟩⟩⟩)<|aB<|ag<|LH.aJ R (aN R<|sN<|j7 R R<|aX R zQ) ?_
    exact aM ⟨(i64 (n41 - 1)),zJ.2.L,zJ.2.At,v48,Cf ▸ h,R,R⟩<|Wk.eq R R R R
   refine LH.exit<|bB<|bc<|aZ<|ag<|LH.wk ((Wk.trans (bQ [0,1,4,6,10,11] [7,104,106,111,142,159,171,193,199])<|Wk.trans (Wk.trans (Wk.cL (f:=bD.lv) 193 105 2 Cm 111 R R R (ay R<|dW dV) R R<|cv R)<|bQ [0,1,4,6,10,11] [7,104,106,111,142,159,171,199])<|Wk.trans (Wk.dz 111 [.I 0,.lst 2 (Cm.map bD.lv)] R R R<|cv R)<|bQ [0,1,4,6,10,11] [7,104,106,142,159,171,199])) ?_
   obtain ⟨v49,acI,h⟩:=aa h
   refine LH.aJ R (sN<|eF tv uH EP R R<|sN<|de R R R R uH PW<|sN<|a7 R PY Zs ER R R<|sN<|ic (f:=bA.lv) (ys:=[(bA.mk 0 Cm)]) G7 P0 ER R R R bA.ok<|sN<|oN (f:=bA.lv) G7 P0 ER R R (cv R) R acI<|sN<|eF tv uH EP R R<|s_<|cN R R R uH EP R R R zQ)<|aB<|ag<|LH.aJ R (aN R<|sN<|j7 R R<|aX R zQ) ?_
   exact aM ⟨(i64 (n35 - 1)),Pg,n43,v49,tL ▸ h,R,R⟩<|Wk.eq R R R R
  refine LH.exit<|bB<|bc<|aZ<|ag<|LH.seq ?_
  obtain ⟨Qc,hv,h⟩:=aa h
  refine LH.tr [0,4,6] 107 Qc.1 [(7,.box [.L Qc.2.1,.I Qc.2.2]),(104,.box [.I 0,.I 0,.I 0,.I 0,.nil,.nil,.nil,.nil,.I 0]),(106,.box [.I r1.1,.I (i64 (r1.1+r2.1)),.I r3.1,.I r4.1,.arr 142 l9.length,.arr 159 ga.length,.arr 171 km.length,.arr 199 jA.length,.I r5.1]),(142,.arr 188 3 (l9.map bM.lv)),(159,.arr 188 3 (ga.map bM.lv)),(171,.arr 3 1 (km.map LV.I)),(199,.arr 99 2 (jA.map bA.lv))] R ?_ ?_
  ·refine aN R<|sN<|hJ R R<|bS R ?_
   by_cases ur:(decide (p1 > 0))=true
   ·replace hv:=bO hv ur
    refine aK ur<|oM (v:=(.ptr _ _)) R<|aK ur<|oM (v:=(.int _ _)) R ?_
    obtain ⟨GP,SQ,hv⟩:=aa hv
    refine aK ur<|gq pk (u7 SQ)<|sN<|df ur R ?_
    obtain rfl:=oI hv
    exact zS
   ·replace ur:=bF ur
    replace hv:=bN hv ur
    refine bl ur<|bl ur<|bl ur<|sN<|bY ur R ?_
    obtain rfl:=oI hv
    exact zS
  clear hv
  refine LH.cd h R (fun Ss h=>?_) fun Ss h=>?_
  ·obtain ⟨oQ,SR,h⟩:=aa h
   refine LH.ae R (fW R<|sN<|gq fb (iP SR) zQ)<|LH.block<|LH.ae R (sN<|gv R R<|bK R zQ) (LH.cd h R (fun abc h=>?_) fun abc h=>?_)
   ·obtain ⟨r59,ab4,h⟩:=aa h
    refine LH.oq R (fW R<|sN<|gq qp (xY ab4)<|sN<|eF tu aw aL R R<|s_<|cN R R R aw aL R R R<|s0<|Wk.trans (bQ [4,6] [7,104,106,142,159,171,199])<|Wk.trans (Wk.trans (Wk.cL (f:=bM.lv) 142 188 3 l9 106 R R R (ay R<|ay R<|ay R<|ay R<|dW<|ay R<|ay R<|ay R<|ay R dV) R R<|cv R)<|bQ [4,6] [7,104,106,159,171,199])<|Wk.trans (bQ [4,6] [7,104,106,159,171,199])<|Wk.trans (Wk.trans (Wk.cL (f:=bM.lv) 159 188 3 ga 106 R R R (ay R<|ay R<|ay R<|ay R<|ay R<|dW<|ay R<|ay R<|ay R dV) R R<|cv R)<|bQ [4,6] [7,104,106,171,199])<|Wk.trans (bQ [4,6] [7,104,106,171,199])<|Wk.trans (Wk.trans (Wk.cL (f:=LV.I) 171 3 1 km 106 R R R (ay R<|ay R<|ay R<|ay R<|ay R<|ay R<|dW<|ay R<|ay R dV) R R<|cv R)<|bQ [4,6] [7,104,106,199])<|Wk.trans (bQ [4,6] [7,104,106,199])<|Wk.trans (Wk.trans (Wk.cL (f:=bA.lv) 199 99 2 jA 106 R R R (ay R<|ay R<|ay R<|ay R<|ay R<|ay R<|ay R<|dW<|ay R dV) R R<|cv R)<|bQ [4,6] [7,104,106])<|Wk.dz 106 [.I r59.1,.I (i64 (r1.1+r2.1)),.I r3.1,.I r4.1,.lst 3 (l9.map bM.lv),.lst 3 (ga.map bM.lv),.L km,.lst 2 (jA.map bA.lv),.I r5.1] R R R<|cv R)<|aB<|ag<|LH.cM R (sN<|a7 R iS nt iT R R<|s_<|cN R R R iS iT R R R<|s0<|zB [4] [7,104] 104 R)<|LH.ret ?_
    obtain rfl:=oI h
    exact bL (aT Tryz.results31)<|eE R iS nt iT R R<|dN lY
   refine LH.ae R (sN<|gv R R<|bK R zQ) (LH.cd h R (fun abd h=>?_) fun abd h=>?_)
   ·obtain ⟨r61,ab6,h⟩:=aa h
    refine LH.oq R (fW R<|sN<|gq qp (xY ab6)<|sN<|eF xw aw aL R R<|s_<|cN R R R aw aL R R R<|s0<|Wk.trans (bQ [4,6] [7,104,106,142,159,171,199])<|Wk.trans (Wk.trans (Wk.cL (f:=bM.lv) 142 188 3 l9 106 R R R (ay R<|ay R<|ay R<|ay R<|dW<|ay R<|ay R<|ay R<|ay R dV) R R<|cv R)<|bQ [4,6] [7,104,106,159,171,199])<|Wk.trans (bQ [4,6] [7,104,106,159,171,199])<|Wk.trans (Wk.trans (Wk.cL (f:=bM.lv) 159 188 3 ga 106 R R R (ay R<|ay R<|ay R<|ay R<|ay R<|dW<|ay R<|ay R<|ay R dV) R R<|cv R)<|bQ [4,6] [7,104,106,171,199])<|Wk.trans (bQ [4,6] [7,104,106,171,199])<|Wk.trans (Wk.trans (Wk.cL (f:=LV.I) 171 3 1 km 106 R R R (ay R<|ay R<|ay R<|ay R<|ay R<|ay R<|dW<|ay R<|ay R dV) R R<|cv R)<|bQ [4,6] [7,104,106,199])<|Wk.trans (bQ [4,6] [7,104,106,199])<|Wk.trans (Wk.trans (Wk.cL (f:=bA.lv) 199 99 2 jA 106 R R R (ay R<|ay R<|ay R<|ay R<|ay R<|ay R<|ay R<|dW<|ay R dV) R R<|cv R)<|bQ [4,6] [7,104,106])<|Wk.dz 106 [.I r1.1,.I (i64 (r1.1+r2.1)),.I r3.1,.I r61.1,.lst 3 (l9.map bM.lv),.lst 3 (ga.map bM.lv),.L km,.lst 2 (jA.map bA.lv),.I r5.1] R R R<|cv R)<|aB<|ag<|LH.cM R (sN<|a7 R iS nt iT R R<|s_<|cN R R R iS iT R R R<|s0<|zB [4] [7,104] 104 R)<|LH.ret ?_
    obtain rfl:=oI h
    exact bL (aT Tryz.results31)<|eE R iS nt iT R R<|dN lY
   refine LH.ae R (sN<|gv R R<|bK R zQ) (LH.cd h R (fun abf h=>?_) fun abf h=>?_)
   ·obtain ⟨r63,ab8,h⟩:=aa h
    refine LH.oq R (fW R<|sN<|ic (f:=LV.I) (ys:=[(-1),12,13]) bd nB aL R R R gB<|sN<|gq rO (Ad ab8)<|sN<|eF xx aw aL R R<|s_<|cN R R R aw aL R R R<|s0<|Wk.trans (bQ [4,6] [7,104,106,142,159,171,199])<|Wk.trans (Wk.trans (Wk.cL (f:=bM.lv) 142 188 3 l9 106 R R R (ay R<|ay R<|ay R<|ay R<|dW<|ay R<|ay R<|ay R<|ay R dV) R R<|cv R)<|bQ [4,6] [7,104,106,159,171,199])<|Wk.trans (bQ [4,6] [7,104,106,159,171,199])<|Wk.trans (Wk.trans (Wk.cL (f:=bM.lv) 159 188 3 ga 106 R R R (ay R<|ay R<|ay R<|ay R<|ay R<|dW<|ay R<|ay R<|ay R dV) R R<|cv R)<|bQ [4,6] [7,104,106,171,199])<|Wk.trans (bQ [4,6] [7,104,106,171,199])<|Wk.trans (Wk.trans (Wk.cL (f:=LV.I) 171 3 1 km 106 R R R (ay R<|ay R<|ay R<|ay R<|ay R<|ay R<|dW<|ay R<|ay R dV) R R<|cv R)<|bQ [4,6] [7,104,106,199])<|Wk.trans (bQ [4,6] [7,104,106,199])<|Wk.trans (Wk.trans (Wk.cL (f:=bA.lv) 199 99 2 jA 106 R R R (ay R<|ay R<|ay R<|ay R<|ay R<|ay R<|ay R<|dW<|ay R dV) R R<|cv R)<|bQ [4,6] [7,104,106])<|Wk.dz 106 [.I r1.1,.I (i64 (r1.1+r2.1)),.I r3.1,.I r4.1,.lst 3 (l9.map bM.lv),.lst 3 (ga.map bM.lv),.L km,.lst 2 (jA.map bA.lv),.I r63.1] R R R<|cv R)<|aB<|ag<|LH.cM R (sN<|a7 R iS nt iT R R<|s_<|cN R R R iS iT R R R<|s0<|zB [4] [7,104] 104 R)<|LH.ret ?_
    obtain rfl:=oI h
    exact bL (aT Tryz.results31)<|eE R iS nt iT R R<|dN lY
   refine LH.ae R (sN<|gv R R<|bK R zQ) (LH.cd h R (fun abg h=>?_) fun abg h=>?_)
   ·obtain ⟨PI,ab9,h⟩:=aa h
    obtain ⟨PJ,aca,h⟩:=aa h
    obtain ⟨PK,acb,h⟩:=aa h
    obtain ⟨ZL,acK,h⟩:=aa h
    refine LH.qP mixed [] [0,1106,0,0,100007,0,100007,0,100007,0,0,2,0,100106] [(4,.ptr 104 0),(6,.sptr [.I r1.1,.I (i64 (r1.1+r2.1)),.I r3.1,.I r4.1,.lst 3 (ZL.map bM.lv),.lst 3 (ga.map bM.lv),.L km,.lst 2 (jA.map bA.lv),.I r5.1])] [(7,.box [.L PK.2.L,.I PK.2.At]),(104,.box [.I 0,.I 0,.I 0,.I 0,.nil,.nil,.nil,.nil,.I 0])] R R (by kernel_rfl) ?_ ?_
    ·exact aI<|eF lp fk jT R R ⟨R,mD R R R (fun _ b _ d=>de R b R R fk oS d)<|uy R<|aI<|ic (f:=LV.I) (ys:=[(-1),0,15,16]) bd nB aL R R R gB ⟨R,mW R R R (fun _ b _ d=>mw (args:=[.ptr 7 0,.L [(-1),0,15,16]]) (ml:=[(7,.box [.L oQ.2.L,.I oQ.2.At])]) (eD:=[(7,.box [.L PI.2.L,.I PI.2.At])]) R rO R (bZ<|bZ fF) (Ad ab9) (mC b mN) (bT R dO) R d)<|uy R<|mW R R R (fun _ b _ d=>mw (args:=[.ptr 7 0]) (ml:=[(7,.box [.L PI.2.L,.I PI.2.At])]) (eD:=[(7,.box [.L PJ.2.L,.I PJ.2.At])]) R qp R (bZ fF) (xY aca) (mC b mN) (bT R dO) R d)<|uy R<|mW R R R (fun _ b _ d=>mw (args:=[.ptr 7 0]) (ml:=[(7,.box [.L PJ.2.L,.I PJ.2.At])]) (eD:=[(7,.box [.L PK.2.L,.I PK.2.At])]) R qp R (bZ fF) (xY acb) (mC b mN) (bT R dO) R d)<|aI<|hD (vs:=[(0,.I PI.1),(1,.I PJ.1),(2,.I PK.1)]) Iv xJ R (lf iy aL aw R R R<|lf lT aL aw R R R<|lf kJ aL aw R R R gZ) ⟨R,aI<|ic (f:=bM.lv) (ys:=[(bM.mk PI.1 PJ.1 PK.1)]) jx ua fM R R R bM.ok ⟨R,E2<|oN (f:=bM.lv) jx ua fM R R (cv R) R acK<|aI<|eF lp fk jT R R ⟨R,mS R R R (fun _ b _ d=>cN R R R fk jT b R R d)<|m0<|(Wk.trans (bQ [4,6] [7,104,106,142,159,171,199])<|Wk.trans (Wk.trans (Wk.cL (f:=bM.lv) 142 188 3 ZL 106 R R R (ay R<|ay R<|ay R<|ay R<|dW<|ay R<|ay R<|ay R<|ay R dV) R R<|cv R)<|bQ [4,6] [7,104,106,159,171,199])<|Wk.trans (bQ [4,6] [7,104,106,159,171,199])<|Wk.trans (Wk.trans (Wk.cL (f:=bM.lv) 159 188 3 ga 106 R R R (ay R<|ay R<|ay R<|ay R<|ay R<|dW<|ay R<|ay R<|ay R dV) R R<|cv R)<|bQ [4,6] [7,104,106,171,199])<|Wk.trans (bQ [4,6] [7,104,106,171,199])<|Wk.trans (Wk.trans (Wk.cL (f:=LV.I) 171 3 1 km 106 R R R (ay R<|ay R<|ay R<|ay R<|ay R<|ay R<|dW<|ay R<|ay R dV) R R<|cv R)<|bQ [4,6] [7,104,106,199])<|Wk.trans (bQ [4,6] [7,104,106,199])<|Wk.trans (Wk.trans (Wk.cL (f:=bA.lv) 199 99 2 jA 106 R R R (ay R<|ay R<|ay R<|ay R<|ay R<|ay R<|ay R<|dW<|ay R dV) R R<|cv R)<|bQ [4,6] [7,104,106])<|Wk.trans (Wk.dz 106 [.I r1.1,.I (i64 (r1.1+r2.1)),.I r3.1,.I r4.1,.lst 3 (ZL.map bM.lv),.lst 3 (ga.map bM.lv),.L km,.lst 2 (jA.map bA.lv),.I r5.1] R R R<|cv R)<|Wk.eq R R R R)⟩⟩⟩⟩⟩
    refine aB<|ag<|LH.cM R (sN<|a7 R iS nt iT R R<|s_<|cN R R R iS iT R R R<|s0<|zB [4] [7,104] 104 R)<|LH.ret ?_
    obtain rfl:=oI h
    exact bL (aT Tryz.results31)<|eE R iS nt iT R R<|dN lY
   refine LH.ae R (sN<|gv R R<|bK R zQ) (LH.cd h R (fun abh h=>?_) fun abh h=>?_)
   ·obtain ⟨Vs,ace,h⟩:=aa h
    obtain ⟨v71,acL,h⟩:=aa h
    refine LH.mu mixed [] [0,1106,0,0,100007,0,2,0,100106] R R (by kernel_rfl) (aI<|eF mB bj cC R R ⟨R,mD R R R (fun _ b _ d=>de R b R R bj dr d)<|uy R<|aI<|ic (f:=LV.I) (ys:=[0,(-1),9]) bd nB aL R R R gB ⟨R,mW R R R (fun _ b _ d=>mw (args:=[.ptr 7 0,.L [0,(-1),9]]) (ml:=[(7,.box [.L oQ.2.L,.I oQ.2.At])]) (eD:=[(7,.box [.L Vs.2.L,.I Vs.2.At])]) R rO R (bZ<|bZ fF) (Ad ace) (mC b mN) (bT R dO) R d)<|aI<|ic (f:=LV.I) (ys:=[Vs.1]) bd nB aL R R R gB ⟨R,E2<|oN (f:=LV.I) bd nB aL R R (cv R) R acL<|aI<|eF mB bj cC R R ⟨R,mS R R R (fun _ b _ d=>cN R R R bj cC b R R d)<|m0<|Wk.trans (bQ [4,6] [7,104,106,142,159,171,199])<|Wk.trans (Wk.trans (Wk.cL (f:=bM.lv) 142 188 3 l9 106 R R R (ay R<|ay R<|ay R<|ay R<|dW<|ay R<|ay R<|ay R<|ay R dV) R R<|cv R)<|bQ [4,6] [7,104,106,159,171,199])<|Wk.trans (bQ [4,6] [7,104,106,159,171,199])<|Wk.trans (Wk.trans (Wk.cL (f:=bM.lv) 159 188 3 ga 106 R R R (ay R<|ay R<|ay R<|ay R<|ay R<|dW<|ay R<|ay R<|ay R dV) R R<|cv R)<|bQ [4,6] [7,104,106,171,199])<|Wk.trans (bQ [4,6] [7,104,106,171,199])<|Wk.trans (Wk.trans (Wk.cL (f:=LV.I) 171 3 1 v71 106 R R R (ay R<|ay R<|ay R<|ay R<|ay R<|ay R<|dW<|ay R<|ay R dV) R R<|cv R)<|bQ [4,6] [7,104,106,199])<|Wk.trans (bQ [4,6] [7,104,106,199])<|Wk.trans (Wk.trans (Wk.cL (f:=bA.lv) 199 99 2 jA 106 R R R (ay R<|ay R<|ay R<|ay R<|ay R<|ay R<|ay R<|dW<|ay R dV) R R<|cv R)<|bQ [4,6] [7,104,106])<|Wk.dz 106 [.I r1.1,.I (i64 (r1.1+r2.1)),.I r3.1,.I r4.1,.lst 3 (l9.map bM.lv),.lst 3 (ga.map bM.lv),.L v71,.lst 2 (jA.map bA.lv),.I r5.1] R R R<|cv R⟩⟩⟩⟩)<|aB<|ag<|LH.cM R (sN<|a7 R iS nt iT R R<|s_<|cN R R R iS iT R R R<|s0<|zB [4] [7,104] 104 R)<|LH.ret ?_
    obtain rfl:=oI h
    exact bL (aT Tryz.results31)<|eE R iS nt iT R R<|dN lY
   refine LH.ae R (sN<|gv R R<|bK R zQ) (LH.cd h R (fun abj h=>?_) fun abj h=>?_)
   ·obtain ⟨v73,acM,h⟩:=aa h
    refine LH.oq R (sN<|eF tv uH EP R R<|sN<|de R R R R uH PW<|sN<|hD (vs:=[]) UP NV R gZ<|sN<|hD (vs:=[]) UP NV R gZ<|sN<|hD (vs:=[]) UP NV R gZ<|sX (MS (f:=bA.lv) (ys:=[(bA.mk 0 []),(bA.mk 0 []),(bA.mk 0 [])]) G7 P0 ER R R R (XY R R R<|XY R R R<|XY R R R okN) (UE (Sub.agg<|bZ<|Oo fF)<|UE (Sub.agg<|bZ<|Oo fF)<|UE (Sub.agg<|bZ<|Oo fF) fF) bA.ok)<|sN<|oN (f:=bA.lv) G7 P0 ER R R (cv R) R acM<|sN<|eF tv uH EP R R<|s_<|cN R R R uH EP R R R<|s0<|Wk.trans (bQ [4,6] [7,104,106,142,159,171,199])<|Wk.trans (Wk.trans (Wk.cL (f:=bM.lv) 142 188 3 l9 106 R R R (ay R<|ay R<|ay R<|ay R<|dW<|ay R<|ay R<|ay R<|ay R dV) R R<|cv R)<|bQ [4,6] [7,104,106,159,171,199])<|Wk.trans (bQ [4,6] [7,104,106,159,171,199])<|Wk.trans (Wk.trans (Wk.cL (f:=bM.lv) 159 188 3 ga 106 R R R (ay R<|ay R<|ay R<|ay R<|ay R<|dW<|ay R<|ay R<|ay R dV) R R<|cv R)<|bQ [4,6] [7,104,106,171,199])<|Wk.trans (bQ [4,6] [7,104,106,171,199])<|Wk.trans (Wk.trans (Wk.cL (f:=LV.I) 171 3 1 km 106 R R R (ay R<|ay R<|ay R<|ay R<|ay R<|ay R<|dW<|ay R<|ay R dV) R R<|cv R)<|bQ [4,6] [7,104,106,199])<|Wk.trans (bQ [4,6] [7,104,106,199])<|Wk.trans (Wk.trans (Wk.cL (f:=bA.lv) 199 99 2 v73 106 R R R (ay R<|ay R<|ay R<|ay R<|ay R<|ay R<|ay R<|dW<|ay R dV) R R<|cv R)<|bQ [4,6] [7,104,106])<|Wk.dz 106 [.I r1.1,.I (i64 (r1.1+r2.1)),.I r3.1,.I r4.1,.lst 3 (l9.map bM.lv),.lst 3 (ga.map bM.lv),.L km,.lst 2 (v73.map bA.lv),.I r5.1] R R R<|cv R)<|aB<|ag<|LH.cM R (sN<|a7 R iS nt iT R R<|s_<|cN R R R iS iT R R R<|s0<|zB [4] [7,104] 104 R)<|LH.ret ?_
    obtain rfl:=oI h
    exact bL (aT Tryz.results31)<|eE R iS nt iT R R<|dN lY
   obtain ⟨Uw,acf,h⟩:=aa h
   obtain ⟨v75,acN,h⟩:=aa h
   refine LH.mu mixed [] [0,1106,0,0,100007,0,0,2,0,100106] R R (by kernel_rfl) (aI<|eF lq fk jT R R ⟨R,mD R R R (fun _ b _ d=>de R b R R fk oS d)<|uy R<|aI<|ic (f:=LV.I) (ys:=[0,5,6]) bd nB aL R R R gB ⟨R,mW R R R (fun _ b _ d=>mw (args:=[.ptr 7 0,.L [0,5,6]]) (ml:=[(7,.box [.L oQ.2.L,.I oQ.2.At])]) (eD:=[(7,.box [.L Uw.2.L,.I Uw.2.At])]) R rO R (bZ<|bZ fF) (Ad acf) (mC b mN) (bT R dO) R d)<|aI<|hD (vs:=[(0,.I Uw.1),(2,.I 4)]) Iv xJ R (lf iy aL aw R R R<|lf kJ aL aw R R R gZ) ⟨R,aI<|ic (f:=bM.lv) (ys:=[(bM.mk Uw.1 0 4)]) jx ua fM R R R bM.ok ⟨R,E2<|oN (f:=bM.lv) jx ua fM R R (cv R) R acN<|aI<|eF lq fk jT R R ⟨R,mS R R R (fun _ b _ d=>cN R R R fk jT b R R d)<|m0<|Wk.trans (bQ [4,6] [7,104,106,142,159,171,199])<|Wk.trans (Wk.trans (Wk.cL (f:=bM.lv) 142 188 3 l9 106 R R R (ay R<|ay R<|ay R<|ay R<|dW<|ay R<|ay R<|ay R<|ay R dV) R R<|cv R)<|bQ [4,6] [7,104,106,159,171,199])<|Wk.trans (bQ [4,6] [7,104,106,159,171,199])<|Wk.trans (Wk.trans (Wk.cL (f:=bM.lv) 159 188 3 v75 106 R R R (ay R<|ay R<|ay R<|ay R<|ay R<|dW<|ay R<|ay R<|ay R dV) R R<|cv R)<|bQ [4,6] [7,104,106,171,199])<|Wk.trans (bQ [4,6] [7,104,106,171,199])<|Wk.trans (Wk.trans (Wk.cL (f:=LV.I) 171 3 1 km 106 R R R (ay R<|ay R<|ay R<|ay R<|ay R<|ay R<|dW<|ay R<|ay R dV) R R<|cv R)<|bQ [4,6] [7,104,106,199])<|Wk.trans (bQ [4,6] [7,104,106,199])<|Wk.trans (Wk.trans (Wk.cL (f:=bA.lv) 199 99 2 jA 106 R R R (ay R<|ay R<|ay R<|ay R<|ay R<|ay R<|ay R<|dW<|ay R dV) R R<|cv R)<|bQ [4,6] [7,104,106])<|Wk.dz 106 [.I r1.1,.I (i64 (r1.1+r2.1)),.I r3.1,.I r4.1,.lst 3 (l9.map bM.lv),.lst 3 (v75.map bM.lv),.L km,.lst 2 (jA.map bA.lv),.I r5.1] R R R<|cv R⟩⟩⟩⟩⟩)<|aB<|ag<|LH.cM R (sN<|a7 R iS nt iT R R<|s_<|cN R R R iS iT R R R<|s0<|zB [4] [7,104] 104 R)<|LH.ret ?_
   obtain rfl:=oI h
   exact bL (aT Tryz.results31)<|eE R iS nt iT R R<|dN lY
  refine LH.skip<|ag<|LH.wk ((Wk.trans (bQ [4,6] [7,104,106,142,159,171,199])<|Wk.trans (Wk.trans (Wk.cL (f:=bM.lv) 142 188 3 l9 106 R R R (ay R<|ay R<|ay R<|ay R<|dW<|ay R<|ay R<|ay R<|ay R dV) R R<|cv R)<|bQ [4,6] [7,104,106,159,171,199])<|Wk.trans (bQ [4,6] [7,104,106,159,171,199])<|Wk.trans (Wk.trans (Wk.cL (f:=bM.lv) 159 188 3 ga 106 R R R (ay R<|ay R<|ay R<|ay R<|ay R<|dW<|ay R<|ay R<|ay R dV) R R<|cv R)<|bQ [4,6] [7,104,106,171,199])<|Wk.trans (bQ [4,6] [7,104,106,171,199])<|Wk.trans (Wk.trans (Wk.cL (f:=LV.I) 171 3 1 km 106 R R R (ay R<|ay R<|ay R<|ay R<|ay R<|ay R<|dW<|ay R<|ay R dV) R R<|cv R)<|bQ [4,6] [7,104,106,199])<|Wk.trans (bQ [4,6] [7,104,106,199])<|Wk.trans (Wk.trans (Wk.cL (f:=bA.lv) 199 99 2 jA 106 R R R (ay R<|ay R<|ay R<|ay R<|ay R<|ay R<|ay R<|dW<|ay R dV) R R<|cv R)<|bQ [4,6] [7,104,106])<|Wk.trans (Wk.dz 106 [.I r1.1,.I (i64 (r1.1+r2.1)),.I r3.1,.I r4.1,.lst 3 (l9.map bM.lv),.lst 3 (ga.map bM.lv),.L km,.lst 2 (jA.map bA.lv),.I r5.1] R R R<|cv R)<|bQ [4,6] [7,104]))<|LH.cM R (sN<|a7 R iS nt iT R R<|s_<|cN R R R iS iT R R R<|s0<|zB [4] [7,104] 104 R)<|LH.ret ?_
  obtain rfl:=oI h
  exact bL (aT Tryz.results31)<|eE R iS nt iT R R<|dN lY
theorem JG {p0:Int} {r:Bool} (h:rY p0=some r):aF Tryz.prog 180 [.I p0] (Mem.of []) (.bool r) (Mem.of []):=by
  unfold rY at h
  refine aW Tryz.func180 R (nT Tryz.ntmps180 R)<|LH.ae R (bK R zQ)<|LH.dF [] 2 ((decide (p0 ≥ 0)) && (decide (p0≤200))) [] R ?_ ?_
  ·refine aN R<|sN<|ot R R<|bS R ?_
   generalize (decide (p0 ≥ 0))=hb2; cases hb2
   ·exact sK<|sN<|bY R R<|bK R zS
   ·exact sT R R<|oM (v:=(.int _ _)) R<|sT R R<|Kh R R<|sN<|df R R<|bK R zS
  refine LH.ret ?_
  obtain rfl:=oI h
  exact ba<|aT Tryz.results180
theorem Ya {p0:bM} {c0:bM} {r:Bool} (h:CI p0 c0=some r):aF Tryz.prog 213 [.agg [.I p0.Index,.I p0.bE,.I p0.cX],.sptr [.I c0.Index,.I c0.bE,.I c0.cX]] (Mem.of []) (.bool r) (Mem.of []):=by
  unfold CI at h
  refine aW Tryz.func213 R (nT Tryz.ntmps213 R)<|LH.ae R (sB<|da R R R R<|bK R zQ)<|LH.ae R (sN<|av iy aw aL R R R<|sN<|aS R aw br<|sN<|av iy aw aL R R R<|sN<|aS R aw br<|sN<|gv R R<|bK R zQ)<|LH.ret ?_
  obtain rfl:=oI h
  exact ba<|aT Tryz.results213
theorem X7 {F:Nat} {p0:List bM} {p1:(bM→Option Bool)} {r:Int} {dQ:Nat} {cW:List LV} (td:di Tryz.prog dQ) (jQ:LV.bf cW=true) (te:∀ (x0:bM) (q:Bool),p1 x0=some q→aF Tryz.prog dQ ([.agg [.I x0.Index,.I x0.bE,.I x0.cX]]++cW) (Mem.of []) (.bool q) (Mem.of [])) (h:PD F p0 p1=some r):aF Tryz.prog 226 [.lst 3 (p0.map bM.lv),.fn dQ cW] (Mem.of []) (.I r) (Mem.of []):=by
  have yq:∀ {l:List LV},LV.bf l=true→LV.bf (l++cW)=true:=M5 jQ
  have gr:LV.b6 cW=[]:=eK jQ
  unfold PD at h
  refine aW Tryz.func226 R (nT Tryz.ntmps226 R)<|LH.wk (Wk.to (el:=[(0,.lst 3 (p0.map bM.lv)),(1,.fn dQ cW)]) (ml:=[]) (eQ ⟨R,R,trivial⟩) mN (by simp [aQ,LV.refs,LV.b6,LV.cells,dZ,Env.args,Env.of,Env.put,Env.drop,gr])<|cF R)<|LH.ae R (aX R zQ)<|LH.seq<|LH.cK [(0,.lst 3 (p0.map bM.lv)),(1,.fn dQ cW),(7,.I (p0.length:Int)),(8,.I 0)] [] R (dC R<|sN<|bx (f:=bM.lv) jx R<|aN R<|s0<|Wk.to (eQ ⟨R,R,R,R,trivial⟩) mN (by simp [aQ,LV.refs,LV.b6,LV.cells,dZ,Env.args,Env.of,Env.put,Env.drop,gr])<|cF R)<|LH.block<|LH.loop (fun n e m=>∃ (n1:Int),Rx p0 p1 n n1=some r∧e=Env.of [(0,.lst 3 (p0.map bM.lv)),(1,.fn dQ cW),(7,.I (p0.length:Int)),(8,.I n1)]∧m=Mem.of []) F ⟨0,h,R,R⟩ ?_
  clear h
  rintro n e m ⟨n1,h,rfl,rfl⟩
  rcases n with _ | n
  · exact nX h
  obtain ⟨aE,aC⟩:∃ f,f=Rx p0 p1 n:=⟨_,rfl⟩
  replace h:M9 p0 p1 aE n1=some r:=aC ▸ h
  unfold M9 at h
  refine LH.ae R (sN<|dK R R zQ)<|LH.seq (LH.cd h R (fun gK h=>?_) fun gK h=>?_)
  ·refine LH.skip<|ag<|LH.wk (Wk.to (el:=[(0,.lst 3 (p0.map bM.lv)),(1,.fn dQ cW),(7,.I (p0.length:Int)),(8,.I n1)]) (ml:=[]) (eQ ⟨R,R,R,R,trivial⟩) mN (by simp [aQ,LV.refs,LV.b6,LV.cells,dZ,Env.args,Env.of,Env.put,Env.drop,gr])<|cF R)<|LH.seq<|LH.block<|LH.ae R (aN R<|aX R zQ) ?_
   obtain ⟨x3,fo,h⟩:=aa h
   obtain ⟨r4,FO,h⟩:=aa h
   refine LH.cK [(0,.lst 3 (p0.map bM.lv)),(1,.fn dQ cW),(5,.I n1),(7,.I (p0.length:Int)),(8,.I n1),(16,.bool r4)] [] R ?_ ?_
   ·refine sN<|oM (v:=(.fn _ _)) R<|dC R<|aN R<|sN<|dJ (f:=bM.lv) jx jl fM R R bM.ok fo R<|sN<|a7 R jl Io fM R R<|sN<|F5 (args:=[.agg [.I x3.Index,.I x3.bE,.I x3.cX]]++cW) (ew:=[.agg [.I x3.Index,.I x3.bE,.I x3.cX]]++cW) R td R fc.rfl (te _ _ FO) (yq R) ?_
    exact s0<|Wk.to (eQ ⟨R,R,R,R,R,R,trivial⟩) mN (by simp [aQ,LV.refs,LV.b6,LV.cells,dZ,Env.args,Env.of,Env.put,Env.drop,gr])<|cF R
   refine LH.cd h R (fun oV h=>?_) fun oV h=>?_
   ·refine LH.ae R (aN R<|aX R zQ)<|LH.ret<|aU<|aA<|cc<|aU<|aA ?_
    obtain rfl:=oI h
    exact bL (aT Tryz.results226)<|dx R<|dN ⟨gP mN,R,cF R,Sub.rfl⟩
   refine LH.skip<|aB<|ag<|LH.aJ R (sN<|bw R R<|aN R zQ) ?_
   exact aM ⟨(i64 (n1+1)),aC ▸ h,R,R⟩<|Wk.to (eQ ⟨R,R,R,R,trivial⟩) mN (by simp [aQ,LV.refs,LV.b6,LV.cells,dZ,Env.args,Env.of,Env.put,Env.drop,gr])<|cF R
  refine LH.exit<|bB<|bc<|aZ<|ag<|LH.ae R (aX R zQ)<|LH.ret ?_
  obtain rfl:=oI h
  exact bL (aT Tryz.results226)<|dx R<|dN ⟨gP mN,R,cF R,Sub.rfl⟩
theorem X6 {F:Nat} {p0:List bM} {p1:(bM→Option Bool)} {r:Bool} {dQ:Nat} {cW:List LV} (td:di Tryz.prog dQ) (jQ:LV.bf cW=true) (te:∀ (x0:bM) (q:Bool),p1 x0=some q→aF Tryz.prog dQ ([.agg [.I x0.Index,.I x0.bE,.I x0.cX]]++cW) (Mem.of []) (.bool q) (Mem.of [])) (h:Jy F p0 p1=some r):aF Tryz.prog 212 [.lst 3 (p0.map bM.lv),.fn dQ cW] (Mem.of []) (.bool r) (Mem.of []):=by
  have yq:∀ {l:List LV},LV.bf l=true→LV.bf (l++cW)=true:=M5 jQ
  have gr:LV.b6 cW=[]:=eK jQ
  unfold Jy at h
  refine aW Tryz.func212 R (nT Tryz.ntmps212 R)<|LH.wk (Wk.to (el:=[(0,.lst 3 (p0.map bM.lv)),(1,.fn dQ cW)]) (ml:=[]) (eQ ⟨R,R,trivial⟩) mN (by simp [aQ,LV.refs,LV.b6,LV.cells,dZ,Env.args,Env.of,Env.put,Env.drop,gr])<|cF R)<|LH.ae R (bK R zQ) ?_
  obtain ⟨r1,dI,h⟩:=aa h
  refine LH.ae R (dC R<|sN<|oM (v:=(.fn _ _)) R<|sN<|F5 (args:=[.lst 3 (p0.map bM.lv),.fn dQ cW]) R T9 R (bZ<|bZ fF) (X7 td jQ te dI) (by simp [LV.pure,LV.bf,jQ])<|sN<|ot R R<|bK R zQ)<|LH.ret ?_
  obtain rfl:=oI h
  exact bL (aT Tryz.results212)<|dx R<|dN ⟨gP mN,R,cF R,Sub.rfl⟩
theorem Q1 {F:Nat} {p0:List bM} {p1:Int} {r:Int} (h:Gn F p0 p1=some r):aF Tryz.prog 181 [.lst 3 (p0.map bM.lv),.I p1] (Mem.of []) (.I r) (Mem.of []):=by
  unfold Gn at h
  refine aW Tryz.func181 R (nT Tryz.ntmps181 R)<|LH.ae R (aX R zQ)<|LH.seq<|LH.ae R (dC R<|sN<|bx (f:=bM.lv) jx R<|aN R zQ)<|LH.block<|LH.bW (fun n e m=>∃ (n1:Int),Gl F p0 p1 n n1=some r∧e=Env.of [(0,.lst 3 (p0.map bM.lv)),(1,.I p1),(7,.lst 3 (p0.map bM.lv)),(8,.I (p0.length:Int)),(9,.I n1)]∧m=Mem.of []) F ⟨0,h,R,R⟩ ?_
  clear h
  rintro n e m ⟨n1,h,rfl,rfl⟩
  rcases n with _ | n
  · exact nX h
  obtain ⟨aE,aC⟩:∃ f,f=Gl F p0 p1 n:=⟨_,rfl⟩
  replace h:Nk F p0 p1 aE n1=some r:=aC ▸ h
  unfold Nk at h
  refine LH.ae R (sN<|dK R R zQ)<|LH.seq (LH.cd h R (fun gK h=>?_) fun gK h=>?_)
  ·refine LH.skip<|ag<|LH.seq<|LH.block ?_
   obtain ⟨x3,fo,h⟩:=aa h
   refine LH.cM R (aN R<|sN<|dJ (f:=bM.lv) jx jl fM R R bM.ok fo R<|sN<|a7 R jl Io fM R R<|sN<|ib (id:=106) R xJ R R<|aX R<|s_<|cN R R R jl fM R R R<|s0<|zB [0,1,5,6,7,8,9] [106] 106 R)<|LH.seq ?_
   obtain ⟨w5,hv,h⟩:=aa h
   refine LH.dF [0,1,5,6,7,8,9] 34 w5 [] R ?_ ?_
   ·refine sN<|av iy aw aL R R R<|sN<|aS R aw br<|sN<|dK R R<|bS R ?_
    by_cases bn:(decide (x3.Index<0))=true
    ·obtain rfl:=oI (bO hv bn)
     rw [bn]; exact zA
    ·replace bn:=bF bn
     replace hv:=bN hv bn
     refine aK bn<|av iy aw aL R R R<|aK bn<|aS R aw br<|aK bn<|oM (v:=(.int _ _)) R<|aK bn<|ot R R<|sN<|bY bn R<|bS R ?_
     by_cases cg:(decide (x3.Index ≥ p1))=true
     ·obtain rfl:=oI (bO hv cg)
      rw [cg]; exact zA
     ·replace cg:=bF cg
      replace hv:=bN hv cg
      refine aK cg<|av lT aw aL R R R<|aK cg<|aS R aw br ?_
      obtain ⟨r8,SS,hv⟩:=aa hv
      refine aK cg<|dh tb (JG SS)<|aK cg<|dB R<|sN<|bY cg R<|bS R ?_
      by_cases c7:(!r8)=true
      ·obtain rfl:=oI (bO hv c7)
       rw [c7]; exact zA
      ·replace c7:=bF c7
       replace hv:=bN hv c7
       refine aK c7<|av kJ aw aL R R R<|aK c7<|aS R aw br ?_
       obtain ⟨fR,s7,hv⟩:=aa hv
       refine aK c7<|dh tb (JG s7)<|aK c7<|dB R<|sN<|bY c7 R ?_
       obtain rfl:=oI hv
       exact zS
   clear hv
   refine LH.cd h R (fun vI h=>?_) fun vI h=>?_
   ·refine LH.ae R (aX R zQ)<|LH.ret<|aA<|aU<|aA<|cc<|aU<|aA ?_
    obtain rfl:=oI h
    exact ba<|aT Tryz.results181
   refine LH.skip<|ag ?_
   obtain ⟨v12,LY,h⟩:=aa h
   obtain ⟨sD,vT,h⟩:=aa h
   refine LH.ae R (dC R<|aN R<|sN<|oSl (f:=bM.lv) jx jl fM R R R LY<|sN<|Br (vs:=[.sptr [.I x3.Index,.I x3.bE,.I x3.cX]]) R<|sN<|dh T1 (X6 (dQ:=213) (cW:=[.sptr [.I x3.Index,.I x3.bE,.I x3.cX]]) T2 R (fun _ _ h=>Ya h) vT) zQ) (LH.cd h R (fun sV h=>?_) fun sV h=>?_)
   ·refine LH.ae R (aX R zQ)<|LH.ret<|aU<|aA<|cc<|aU<|aA ?_
    obtain rfl:=oI h
    exact ba<|aT Tryz.results181
   refine LH.skip<|aB<|ag<|LH.aJ R (sN<|bw R R<|aN R zQ) ?_
   exact aM ⟨(i64 (n1+1)),aC ▸ h,R,R⟩<|Wk.eq R R R R
  refine LH.exit<|bB<|bc<|aZ<|ag<|LH.ae R (aX R zQ)<|LH.ret ?_
  obtain rfl:=oI h
  exact ba<|aT Tryz.results181
theorem YI {F:Nat} {p0:fG} {r:Int} (h:DY F p0=some r):aF Tryz.prog 114 [.agg [.I p0.cD,.I p0.c6,.I p0.aY,.I p0.bh,.lst 3 (p0.b5.map bM.lv),.lst 3 (p0.aR.map bM.lv),.L p0.cV,.lst 2 (p0.bC.map bA.lv),.I p0.aV]] (Mem.of []) (.I r) (Mem.of []):=by
  unfold DY at h
  refine aW Tryz.func114 R (nT Tryz.ntmps114 R)<|LH.ae R (sB<|da R R R R<|aX R zQ)<|LH.seq ?_
  obtain ⟨w2,hv,h⟩:=aa h
  refine LH.dF [1] 37 w2 [] R ?_ ?_
  ·refine sN<|av tu aw aL R R R<|sN<|aS R aw br ?_
   obtain ⟨r3,hr3,hv⟩:=aa hv
   refine sN<|dh tb (JG hr3)<|sN<|dB R<|bS R ?_
   by_cases bP:(!r3)=true
   ·obtain rfl:=oI (bO hv bP)
    rw [bP]; exact zA
   ·replace bP:=bF bP
    replace hv:=bN hv bP
    refine aK bP<|av xv aw aL R R R<|aK bP<|aS R aw br ?_
    obtain ⟨r5,qK,hv⟩:=aa hv
    refine aK bP<|dh tb (JG qK)<|aK bP<|dB R<|sN<|bY bP R<|bS R ?_
    by_cases bn:(!r5)=true
    ·obtain rfl:=oI (bO hv bn)
     rw [bn]; exact zA
    ·replace bn:=bF bn
     replace hv:=bN hv bn
     refine aK bn<|av Bb aw aL R R R<|aK bn<|aS R aw br ?_
     obtain ⟨r7,yf,hv⟩:=aa hv
     refine aK bn<|dh tb (JG yf)<|aK bn<|dB R<|sN<|bY bn R<|bS R ?_
     by_cases cu:(!r7)=true
     ·obtain rfl:=oI (bO hv cu)
      rw [cu]; exact zA
     ·replace cu:=bF cu
      replace hv:=bN hv cu
      refine aK cu<|av xw aw aL R R R<|aK cu<|aS R aw br ?_
      obtain ⟨r9,FQ,hv⟩:=aa hv
      refine aK cu<|dh tb (JG FQ)<|aK cu<|dB R<|sN<|bY cu R<|bS R ?_
      by_cases dj:(!r9)=true
      ·obtain rfl:=oI (bO hv dj)
       rw [dj]; exact zA
      ·replace dj:=bF dj
       replace hv:=bN hv dj
       refine aK dj<|av xx aw aL R R R<|aK dj<|aS R aw br<|aK dj<|dK R R<|sN<|bY dj R<|bS R ?_
       by_cases cP:(decide (p0.aV<0))=true
       ·obtain rfl:=oI (bO hv cP)
        rw [cP]; exact zA
       ·replace cP:=bF cP
        replace hv:=bN hv cP
        refine aK cP<|av xx aw aL R R R<|aK cP<|aS R aw br<|aK cP<|hJ R R<|sN<|bY cP R ?_
        obtain rfl:=oI hv
        exact zS
  clear hv
  refine LH.cd h R (fun jt h=>?_) fun jt h=>?_
  ·refine LH.ae R (aX R zQ)<|LH.ret<|aA ?_
   obtain rfl:=oI h
   exact ba<|aT Tryz.results114
  refine LH.skip<|ag<|LH.seq<|LH.dF [1] 59 ((decide ((p0.b5.length:Int) > 16)) || ((decide ((p0.aR.length:Int) > 6)) || ((decide ((p0.cV.length:Int) > 12)) || (decide ((p0.bC.length:Int) > 4))))) [] R ?_ ?_
  ·refine sN<|av lp fk jT R R R<|sN<|aS R fk oS<|sN<|bx (f:=bM.lv) jx R<|sN<|hJ R R<|bS R ?_
   by_cases cI:(decide ((p0.b5.length:Int) > 16))=true
   ·exact bl cI<|bl cI<|bl cI<|bl cI<|sN<|df cI R<|bS R<|sK<|sN<|df R R<|bS R<|sK<|sN<|df R R<|s0<|Wk.to (eC R<|eC (cB<|wz cI) eN) mN R<|cF R
   ·replace cI:=bF cI
    refine aK cI<|av lq fk jT R R R<|aK cI<|aS R fk oS<|aK cI<|bx (f:=bM.lv) jx R<|aK cI<|hJ R R<|sN<|bY cI R<|bS R ?_
    by_cases cw:(decide ((p0.aR.length:Int) > 6))=true
    ·exact bl cw<|bl cw<|bl cw<|bl cw<|sN<|df cw R<|bS R<|sK<|sN<|df R R<|s0<|Wk.to (eC R<|eC (cB<|Eq.trans (wz cw)<|kR cI) eN) mN R<|cF R
    ·replace cw:=bF cw
     refine aK cw<|av mB bj cC R R R<|aK cw<|aS R bj dr<|aK cw<|bx (f:=LV.I) bd R<|aK cw<|hJ R R<|sN<|bY cw R<|bS R ?_
     by_cases iW:(decide ((p0.cV.length:Int) > 12))=true
     ·exact bl iW<|bl iW<|bl iW<|bl iW<|sN<|df iW R<|s0<|Wk.to (eC R<|eC (cB<|Eq.trans (Eq.trans (wz iW)<|kR cw)<|kR cI) eN) mN R<|cF R
     ·replace iW:=bF iW
      exact aK iW<|av tv uH EP R R R<|aK iW<|aS R uH PW<|aK iW<|bx (f:=bA.lv) G7 R<|aK iW<|hJ R R<|sN<|bY iW R<|s0<|Wk.to (eC R<|eC (cB<|Eq.trans (Eq.trans (kR iW)<|kR cw)<|kR cI) eN) mN R<|cF R
  refine LH.cd h R (fun Fz h=>?_) fun Fz h=>?_
  ·refine LH.ae R (aX R zQ)<|LH.ret<|aA ?_
   obtain rfl:=oI h
   exact ba<|aT Tryz.results114
  refine LH.skip<|ag<|LH.seq ?_
  obtain ⟨j9,AB,h⟩:=aa h
  refine LH.ae R (sN<|av lp fk jT R R R<|sN<|aS R fk oS<|sN<|dh Mm (Q1 AB)<|aX R zQ)<|LH.ae R (aN R<|sN<|iR R R zQ) (LH.cd h R (fun Sk h=>?_) fun Sk h=>?_)
  ·refine LH.ae R (aN R<|aX R zQ)<|LH.ret<|aA ?_
   obtain rfl:=oI h
   exact ba<|aT Tryz.results114
  refine LH.skip<|ag<|LH.seq ?_
  obtain ⟨rj,vV,h⟩:=aa h
  refine LH.ae R (sN<|av lq fk jT R R R<|sN<|aS R fk oS<|sN<|dh Mm (Q1 vV)<|aX R zQ)<|LH.ae R (aN R<|sN<|iR R R zQ) (LH.cd h R (fun sY h=>?_) fun sY h=>?_)
  ·refine LH.ae R (aN R<|aX R zQ)<|LH.ret<|aA ?_
   obtain rfl:=oI h
   exact ba<|aT Tryz.results114
  refine LH.skip<|ag<|LH.seq<|LH.ae R (aX R zQ)<|LH.block<|LH.bW (fun n e m=>∃ (n22:Int),DB p0 n n22=some r∧e=Env.of [(1,.sptr [.I p0.cD,.I p0.c6,.I p0.aY,.I p0.bh,.lst 3 (p0.b5.map bM.lv),.lst 3 (p0.aR.map bM.lv),.L p0.cV,.lst 2 (p0.bC.map bA.lv),.I p0.aV]),(5,.I n22)]∧m=Mem.of []) F ⟨1,h,R,R⟩ ?_
  clear h
  rintro n e m ⟨n22,h,rfl,rfl⟩
  rcases n with _ | n
  · exact nX h
  obtain ⟨aE,aC⟩:∃ f,f=DB p0 n:=⟨_,rfl⟩
  replace h:HT p0 aE n22=some r:=aC ▸ h
  unfold HT at h
  refine LH.seq<|LH.ae R (aN R<|sN<|av mB bj cC R R R<|sN<|aS R bj dr<|sN<|bx (f:=LV.I) bd R<|sN<|dK R R zQ) (LH.cd h R (fun Li h=>?_) fun Li h=>?_)
  ·refine LH.skip<|ag<|LH.seq<|LH.block ?_
   obtain ⟨x24,acS,h⟩:=aa h
   obtain ⟨Hc,Cj,h⟩:=aa h
   refine LH.lN mixed [] [0,0,0,0,0,0,0,0,0,0,0,0] R R (by kernel_rfl) (aI<|av mB bj cC R R R ⟨R,aI<|aS R bj dr ⟨R,gu R<|aI<|j7 R R ⟨R,aI<|dJ (f:=LV.I) bd aw aL R R gB acS R ⟨R,aI<|aS R aw br ⟨R,aI<|av mB bj cC R R R ⟨R,aI<|aS R bj dr ⟨R,gu R<|aI<|dJ (f:=LV.I) bd aw aL R R gB Cj R ⟨R,aI<|aS R aw br ⟨R,aI<|ot R R ⟨R,zV⟩⟩⟩⟩⟩⟩⟩⟩⟩⟩) (LH.cd h R (fun Lj h=>?_) fun Lj h=>?_)
   ·refine LH.ae R (aX R zQ)<|LH.ret<|aU<|aA<|cc<|aU<|aA ?_
    obtain rfl:=oI h
    exact ba<|aT Tryz.results114
   refine LH.skip<|aB<|ag<|LH.aJ R (aN R<|sN<|bw R R<|aX R zQ) ?_
   exact aM ⟨(i64 (n22+1)),aC ▸ h,R,R⟩<|Wk.eq R R R R
  refine LH.exit<|bB<|bc<|aZ<|ag<|LH.ae R (aX R zQ)<|LH.ret ?_
  obtain rfl:=oI h
  exact ba<|aT Tryz.results114
theorem zk {F:Nat} {p0:List ah} {p1:Int} {p2:Int} {p3:(ah→Option Int)} {r:ar} {rX:Nat} {oP:List LV} (ado:di Tryz.prog rX) (X1:LV.bf oP=true) (adp:∀ (x0:ah) (q:Int),p3 x0=some q→aF Tryz.prog rX ([.agg [.I x0.ID,.I x0.Version,.str x0.cO,.lst 6 (x0.aH.map aq.lv),.L x0.aO]]++oP) (Mem.of []) (.I q) (Mem.of [])) (h:uA F p0 p1 p2 p3=some r):aF Tryz.prog 116 [.lst 5 (p0.map ah.lv),.I p1,.I p2,.fn rX oP] (Mem.of []) (.agg [.L r.bU,.I r.bE,.I r.cX]) (Mem.of []):=by
  have adq:∀ {l:List LV},LV.bf l=true→LV.bf (l++oP)=true:=M5 X1
  have Gd:LV.b6 oP=[]:=eK X1
  unfold uA at h
  refine aW Tryz.func116 R (nT Tryz.ntmps116 R)<|LH.wk (Wk.to (el:=[(0,.lst 5 (p0.map ah.lv)),(1,.I p1),(2,.I p2),(3,.fn rX oP)]) (ml:=[]) (eQ ⟨R,R,R,R,trivial⟩) mN (by simp [aQ,LV.refs,LV.b6,LV.cells,dZ,Env.args,Env.of,Env.put,Env.drop,Gd])<|cF R)<|LH.ae R (sN<|ib (id:=108) R ly R R zQ) ?_
  obtain ⟨v1,jj,h⟩:=aa h
  refine LH.ae R (dC R<|sN<|bx (f:=ah.lv) fA R<|sN<|QX (f:=LV.I) (z:=0) (id:=114) R bd Oq nB aL R R R jj R<|sE R zQ)<|LH.seq<|LH.cK [(1,.I p1),(2,.I p2),(3,.fn rX oP),(8,.ptr 108 0),(9,.arr 114 v1.length),(15,.lst 5 (p0.map ah.lv)),(16,.I (p0.length:Int)),(17,.I 0)] [(108,.box [.nil,.I 0,.I 0]),(114,.arr 3 1 (v1.map LV.I))] R (dC R<|sN<|bx (f:=ah.lv) fA R<|aN R<|s0<|Wk.to (eQ ⟨R,R,R,R,R,R,R,R,trivial⟩) ⟨R,R,trivial⟩ (by simp [aQ,LV.refs,LV.b6,LV.cells,dZ,Env.args,Env.of,Env.put,Env.drop,Gd])<|cF R)<|LH.block<|LH.loop (fun n e m=>∃ (n2:Int) (l3:List Int),wX p0 p1 p2 p3 n n2 l3=some r∧e=Env.of [(1,.I p1),(2,.I p2),(3,.fn rX oP),(8,.ptr 108 0),(9,.arr 114 l3.length),(15,.lst 5 (p0.map ah.lv)),(16,.I (p0.length:Int)),(17,.I n2)]∧m=Mem.of [(108,.box [.nil,.I 0,.I 0]),(114,.arr 3 1 (l3.map LV.I))]) F ⟨0,v1,h,R,R⟩ ?_
  clear h
  rintro n e m ⟨n2,l3,h,rfl,rfl⟩
  rcases n with _ | n
  · exact nX h
  obtain ⟨aE,aC⟩:∃ f,f=wX p0 p1 p2 p3 n:=⟨_,rfl⟩
  replace h:DC p0 p1 p2 p3 aE n2 l3=some r:=aC ▸ h
  unfold DC at h
  refine LH.ae R (sN<|dK R R zQ)<|LH.seq (LH.cd h R (fun qE h=>?_) fun qE h=>?_)
  ·refine LH.skip<|ag<|LH.wk (Wk.to (el:=[(1,.I p1),(2,.I p2),(3,.fn rX oP),(8,.ptr 108 0),(9,.arr 114 l3.length),(15,.lst 5 (p0.map ah.lv)),(16,.I (p0.length:Int)),(17,.I n2)]) (ml:=[(108,.box [.nil,.I 0,.I 0]),(114,.arr 3 1 (l3.map LV.I))]) (eQ ⟨R,R,R,R,R,R,R,R,trivial⟩) ⟨R,R,trivial⟩ (by simp [aQ,LV.refs,LV.b6,LV.cells,dZ,Env.args,Env.of,Env.put,Env.drop,Gd])<|cF R)<|LH.seq<|LH.block ?_
   obtain ⟨x5,nb,h⟩:=aa h
   refine LH.ae R (aN R<|sN<|dJ (f:=ah.lv) fA bm bk R R ah.ok nb R<|sN<|a7 R bm dn bk R R<|sN<|ib (id:=111) R lX R R<|aX R<|s_<|cN R R R bm bk R R R zQ) ?_
   obtain ⟨r6,WD,h⟩:=aa h
   obtain ⟨x7,yP,h⟩:=aa h
   refine LH.gU [(1,.I p1),(2,.I p2),(3,.fn rX oP),(8,.ptr 108 0),(9,.arr 114 (List.length<|l3.set n2.toNat r6)),(15,.lst 5 (p0.map ah.lv)),(16,.I (p0.length:Int)),(17,.I n2)] [(108,.box [.nil,.I 0,.I 0]),(114,.arr 3 1 (List.map LV.I<|l3.set n2.toNat r6))] R ?_ ?_
   ·refine lh R<|aN R<|sN<|oM (v:=(.fn _ _)) R<|sN<|wq R R R bm dn bk R R<|sN<|F5 (args:=[.agg [.I x5.ID,.I x5.Version,.str x5.cO,.lst 6 (x5.aH.map aq.lv),.L x5.aO]]++oP) (ew:=[.agg [.I x5.ID,.I x5.Version,.str x5.cO,.lst 6 (x5.aH.map aq.lv),.L x5.aO]]++oP) R ado R fc.rfl (adp _ _ WD) (adq R) ?_
    exact sN<|eI (f:=LV.I) bd aw aL R R R yP<|s_<|kC (f:=LV.I) (z':=r6) R R R R aw aL R (cU yP).2 R<|s0<|Wk.to (eC R<|eC R<|eC R<|eC R<|eC (congrArg (LV.arr 114) (by simp))<|eC R<|eC R<|eC R eN) ⟨R,R,trivial⟩ (by simp [aQ,LV.refs,LV.b6,LV.cells,dZ,Env.args,Env.of,Env.put,Env.drop,Gd])<|cF R
   refine aB<|ag<|LH.aJ R (sN<|bw R R<|aN R zQ) ?_
   exact aM ⟨(i64 (n2+1)),(l3.set n2.toNat r6),aC ▸ h,R,R⟩<|Wk.to (eQ ⟨R,R,R,R,R,R,R,R,trivial⟩) ⟨R,R,trivial⟩ (by simp [aQ,LV.refs,LV.b6,LV.cells,dZ,Env.args,Env.of,Env.put,Env.drop,Gd])<|cF R
  refine LH.exit<|bB<|bc<|aZ<|ag<|LH.wk ((Wk.trans (Wk.to (el:=[(1,.I p1),(2,.I p2),(8,.ptr 108 0),(9,.arr 114 l3.length)]) (ml:=[(108,.box [.nil,.I 0,.I 0]),(114,.arr 3 1 (l3.map LV.I))]) (eQ ⟨R,R,R,R,trivial⟩) ⟨R,R,trivial⟩ (by simp [aQ,LV.refs,LV.b6,LV.cells,dZ,Env.args,Env.of,Env.put,Env.drop,Gd])<|cF R)<|Wk.trans (Wk.mZ (f:=LV.I) (ig:=[(1,.I p1),(2,.I p2),(8,.ptr 108 0),(9,.L l3)]) 114 3 1 l3 R R (cv R)<|fK R<|fK R<|fK R<|fZ fN)<|Wk.to (el:=[(1,.I p1),(2,.I p2),(8,.ptr 108 0),(9,.L l3)]) (ml:=[(108,.box [.nil,.I 0,.I 0])]) (eQ ⟨R,R,R,R,trivial⟩) ⟨R,trivial⟩ (by simp [aQ,LV.refs,LV.b6,LV.cells,dZ,Env.args,Env.of,Env.put,Env.drop,Gd])<|cF R))<|LH.ae R (dC R<|aN R<|aN R<|sN<|hD (vs:=[(0,.L l3),(1,.I p1),(2,.I p2)]) ES ly R (lf gn cC bj R R R<|lf gS aL aw R R R<|lf gT aL aw R R R gZ)<|s_<|cN R R R eZ dy R R R zQ)<|LH.ret ?_
  obtain rfl:=oI h
  exact bL (aT Tryz.results116)<|adf R R R eZ ox dy R R<|dN ⟨gP mN,R,cF R,Sub.rfl⟩
theorem Yy {p0:ah} {r:Int} (h:DS p0=some r):aF Tryz.prog 117 [ah.lv p0] (Mem.of []) (.I r) (Mem.of []):=by
  unfold DS at h
  refine aW Tryz.func117 R (nT Tryz.ntmps117 R)<|LH.ae R (sB<|da R R R R<|aX R zQ)<|LH.ae R (aX R zQ)<|LH.ret ?_
  obtain rfl:=oI h
  exact ba<|aT Tryz.results117
theorem Nc {F:Nat} {p0:List aq} {r:Int} (h:yv F p0=some r):aF Tryz.prog 84 [.lst 6 (p0.map aq.lv)] (Mem.of []) (.I r) (Mem.of []):=by
  unfold yv at h
  refine aW Tryz.func84 R (nT Tryz.ntmps84 R)<|LH.ae R (aX R zQ)<|LH.ae R (aX R zQ)<|LH.seq<|LH.ae R (dC R<|sN<|bx (f:=aq.lv) ey R<|aN R zQ)<|LH.block<|LH.bW (fun n e m=>∃ (n1:Int) (n2:Int),xg p0 n n1 n2=some r∧e=Env.of [(3,.I n1),(6,.lst 6 (p0.map aq.lv)),(7,.I (p0.length:Int)),(8,.I n2)]∧m=Mem.of []) F ⟨0,0,h,R,R⟩ ?_
  clear h
  rintro n e m ⟨n1,n2,h,rfl,rfl⟩
  rcases n with _ | n
  · exact nX h
  obtain ⟨aE,aC⟩:∃ f,f=xg p0 n:=⟨_,rfl⟩
  replace h:GL p0 aE n1 n2=some r:=aC ▸ h
  unfold GL at h
  refine LH.ae R (sN<|dK R R zQ)<|LH.seq (LH.cd h R (fun mn h=>?_) fun mn h=>?_)
  ·refine LH.skip<|ag<|LH.seq<|LH.block ?_
   obtain ⟨x4,AG,h⟩:=aa h
   refine LH.cM R (sN<|dJ (f:=aq.lv) ey cR cm R R aq.ok AG R<|sN<|a7 R cR fi cm R R<|sN<|ib (id:=105) R ud R R<|s_<|cN R R R cR cm R R R<|s0<|Wk.trans (bQ [3,5,6,7,8] [105])<|Wk.dz 105 (aq.lv x4).cells R R R<|cv R)<|LH.aJ R (aN R<|sN<|av kI aw aL R R R<|sN<|aS R aw br<|sN<|bw R R<|aX R zQ)<|aB<|ag<|LH.aJ R (sN<|bw R R<|aN R zQ) ?_
   exact aM ⟨(i64 (n1+x4.Max)),(i64 (n2+1)),aC ▸ h,R,R⟩<|Wk.eq R R R R
  refine LH.exit<|bB<|bc<|aZ<|ag<|LH.ae R (aN R<|aX R zQ)<|LH.ret ?_
  obtain rfl:=oI h
  exact ba<|aT Tryz.results84
theorem Y9 {F:Nat} {p0:ah} {r:Int} (h:xf F p0=some r):aF Tryz.prog 118 [ah.lv p0] (Mem.of []) (.I r) (Mem.of []):=by
  unfold xf at h
  refine aW Tryz.func118 R (nT Tryz.ntmps118 R)<|LH.ae R (sB<|da R R R R<|aX R zQ)<|LH.seq ?_
  obtain ⟨r1,dI,h⟩:=aa h
  refine LH.ae R (sN<|a7 R bm dn bk R R<|sN<|dh tM (tS dI)<|sN<|iR R R zQ) (LH.cd h R (fun gK h=>?_) fun gK h=>?_)
  ·refine LH.ae R (aX R zQ)<|LH.ret<|aA ?_
   obtain rfl:=oI h
   exact ba<|aT Tryz.results118
  refine LH.skip<|ag ?_
  obtain ⟨r3,hr3,h⟩:=aa h
  refine LH.ae R (sN<|av dP b8 dG R R R<|sN<|aS R b8 fh<|sN<|dh My (Nc hr3)<|aX R zQ)<|LH.ret ?_
  obtain rfl:=oI h
  exact ba<|aT Tryz.results118
theorem JF {p0:List ar} {p1:List ar} {r:List ar} (h:Ii p0 p1=some r):aF Tryz.prog 115 [.ptr 511 0,.lst 3 (p1.map ar.lv)] (Mem.of [(511,.box [.arr 512 p0.length]),(512,.arr 230 3 (p0.map ar.lv))]) (.tup []) (Mem.of [(511,.box [.arr 512 r.length]),(512,.arr 230 3 (r.map ar.lv))]):=by
  unfold Ii at h
  refine aW Tryz.func115 R (nT Tryz.ntmps115 R) (?_)
  obtain ⟨v1,jj,h⟩:=aa h
  refine LH.aJ R (fW R<|fW R<|sN<|Jq R<|sN<|de R R R R fm nS<|dC R<|sX (wu (f:=ar.lv) hY ny dy R R R jj)<|sN<|Jq R<|s_<|cN R R R fm kK R R R zQ) ?_
  obtain rfl:=oI h
  exact xk (aT Tryz.results115)<|dN lY
theorem Yl {p0:aq} {c0:bM} {r:Bool} (h:HX p0 c0=some r):aF Tryz.prog 121 [aq.lv p0,.sptr [.I c0.Index,.I c0.bE,.I c0.cX]] (Mem.of []) (.bool r) (Mem.of []):=by
  unfold HX at h
  refine aW Tryz.func121 R (nT Tryz.ntmps121 R)<|LH.ae R (sB<|da R R R R<|bK R zQ)<|LH.ae R (sN<|av p5 aw aL R R R<|sN<|aS R aw br<|sN<|av iy aw aL R R R<|sN<|aS R aw br<|sN<|gv R R<|bK R zQ)<|LH.ret ?_
  obtain rfl:=oI h
  exact ba<|aT Tryz.results121
theorem Rc {F:Nat} {p0:ah} {p1:(aq→Option Bool)} {r:Int} {dQ:Nat} {cW:List LV} (td:di Tryz.prog dQ) (jQ:LV.bf cW=true) (te:∀ (x0:aq) (q:Bool),p1 x0=some q→aF Tryz.prog dQ ([.agg [.I x0.Kind,.I x0.Max,.I x0.fx,.I x0.cG,.I x0.Options,.I x0.Key]]++cW) (Mem.of []) (.bool q) (Mem.of [])) (h:wJ F p0 p1=some r):aF Tryz.prog 120 [.agg [.I p0.ID,.I p0.Version,.str p0.cO,.lst 6 (p0.aH.map aq.lv),.L p0.aO],.fn dQ cW] (Mem.of []) (.I r) (Mem.of []):=by
  have yq:∀ {l:List LV},LV.bf l=true→LV.bf (l++cW)=true:=M5 jQ
  have gr:LV.b6 cW=[]:=eK jQ
  unfold wJ at h
  refine aW Tryz.func120 R (nT Tryz.ntmps120 R)<|LH.wk (Wk.to (el:=[(0,.agg [.I p0.ID,.I p0.Version,.str p0.cO,.lst 6 (p0.aH.map aq.lv),.L p0.aO]),(1,.fn dQ cW)]) (ml:=[]) (eQ ⟨R,R,trivial⟩) mN (by simp [aQ,LV.refs,LV.b6,LV.cells,dZ,Env.args,Env.of,Env.put,Env.drop,gr])<|cF R)<|LH.ae R (sB<|da R R R R<|aX R zQ)<|LH.ae R (aX R zQ)<|LH.seq<|LH.cK [(1,.fn dQ cW),(5,.I 0),(9,.lst 6 (p0.aH.map aq.lv)),(10,.I (p0.aH.length:Int)),(11,.I 0)] [] R (sN<|av dP b8 dG R R R<|sN<|aS R b8 fh<|sN<|bx (f:=aq.lv) ey R<|aN R<|s0<|Wk.to (eQ ⟨R,R,R,R,R,trivial⟩) mN (by simp [aQ,LV.refs,LV.b6,LV.cells,dZ,Env.args,Env.of,Env.put,Env.drop,gr])<|cF R)<|LH.block<|LH.loop (fun n e m=>∃ (n1:Int) (n2:Int),Gt p0 p1 n n1 n2=some r∧e=Env.of [(1,.fn dQ cW),(5,.I n1),(9,.lst 6 (p0.aH.map aq.lv)),(10,.I (p0.aH.length:Int)),(11,.I n2)]∧m=Mem.of []) F ⟨0,0,h,R,R⟩ ?_
  clear h
  rintro n e m ⟨n1,n2,h,rfl,rfl⟩
  rcases n with _ | n
  · exact nX h
  obtain ⟨aE,aC⟩:∃ f,f=Gt p0 p1 n:=⟨_,rfl⟩
  replace h:CP p0 p1 aE n1 n2=some r:=aC ▸ h
  unfold CP at h
  refine LH.ae R (sN<|dK R R zQ)<|LH.seq (LH.cd h R (fun mn h=>?_) fun mn h=>?_)
  ·refine LH.skip<|ag<|LH.wk (Wk.to (el:=[(1,.fn dQ cW),(5,.I n1),(9,.lst 6 (p0.aH.map aq.lv)),(10,.I (p0.aH.length:Int)),(11,.I n2)]) (ml:=[]) (eQ ⟨R,R,R,R,R,trivial⟩) mN (by simp [aQ,LV.refs,LV.b6,LV.cells,dZ,Env.args,Env.of,Env.put,Env.drop,gr])<|cF R)<|LH.seq<|LH.block ?_
   obtain ⟨x4,AG,h⟩:=aa h
   refine LH.ae R (sN<|dJ (f:=aq.lv) ey cR cm R R aq.ok AG R<|sN<|a7 R cR fi cm R R<|sN<|ib (id:=107) R ud R R<|s_<|cN R R R cR cm R R R zQ) ?_
   obtain ⟨r5,qK,h⟩:=aa h
   refine LH.cK [(1,.fn dQ cW),(5,.I n1),(7,.ptr 107 0),(9,.lst 6 (p0.aH.map aq.lv)),(10,.I (p0.aH.length:Int)),(11,.I n2),(17,.bool r5)] [(107,.box [.I x4.Kind,.I x4.Max,.I x4.fx,.I x4.cG,.I x4.Options,.I x4.Key])] R ?_ ?_
   ·refine sN<|oM (v:=(.fn _ _)) R<|sN<|wq R R R cR fi cm R R<|sN<|F5 (args:=[.agg [.I x4.Kind,.I x4.Max,.I x4.fx,.I x4.cG,.I x4.Options,.I x4.Key]]++cW) (ew:=[.agg [.I x4.Kind,.I x4.Max,.I x4.fx,.I x4.cG,.I x4.Options,.I x4.Key]]++cW) R td R fc.rfl (te _ _ qK) (yq R) ?_
    exact s0<|Wk.to (eQ ⟨R,R,R,R,R,R,R,trivial⟩) ⟨R,trivial⟩ (by simp [aQ,LV.refs,LV.b6,LV.cells,dZ,Env.args,Env.of,Env.put,Env.drop,gr])<|cF R
   refine LH.cd h R (fun lz h=>?_) fun lz h=>?_
   ·refine LH.aJ R (aN R<|sN<|eF kI aw aL R R<|sN<|de R R R R aw br<|sN<|bw R R<|aX R zQ)<|aB<|ag<|LH.aJ R (sN<|bw R R<|aN R zQ) ?_
    exact aM ⟨(i64 (n1+x4.Max)),(i64 (n2+1)),aC ▸ h,R,R⟩<|Wk.to (eQ ⟨R,R,R,R,R,trivial⟩) mN (by simp [aQ,LV.refs,LV.b6,LV.cells,dZ,Env.args,Env.of,Env.put,Env.drop,gr])<|cF R
   refine LH.skip<|aB<|ag<|LH.aJ R (sN<|bw R R<|aN R zQ) ?_
   exact aM ⟨n1,(i64 (n2+1)),aC ▸ h,R,R⟩<|Wk.to (eQ ⟨R,R,R,R,R,trivial⟩) mN (by simp [aQ,LV.refs,LV.b6,LV.cells,dZ,Env.args,Env.of,Env.put,Env.drop,gr])<|cF R
  refine LH.exit<|bB<|bc<|aZ<|ag<|LH.ae R (aN R<|aX R zQ)<|LH.ret ?_
  obtain rfl:=oI h
  exact bL (aT Tryz.results120)<|dx R<|dN ⟨gP mN,R,cF R,Sub.rfl⟩
theorem Yz {F:Nat} {p0:ah} {c0:bM} {r:Int} (h:H7 F p0 c0=some r):aF Tryz.prog 119 [ah.lv p0,.sptr [.I c0.Index,.I c0.bE,.I c0.cX]] (Mem.of []) (.I r) (Mem.of []):=by
  unfold H7 at h
  refine aW Tryz.func119 R (nT Tryz.ntmps119 R)<|LH.ae R (sB<|da R R R R<|aX R zQ) ?_
  obtain ⟨r1,dI,h⟩:=aa h
  refine LH.ae R (sN<|a7 R bm dn bk R R<|sN<|Br (vs:=[.sptr [.I c0.Index,.I c0.bE,.I c0.cX]]) R<|sN<|dh L8 (Rc (dQ:=121) (cW:=[.sptr [.I c0.Index,.I c0.bE,.I c0.cX]]) Ts R (fun _ _ h=>Yl h) dI)<|aX R zQ)<|LH.ret ?_
  obtain rfl:=oI h
  exact ba<|aT Tryz.results119
theorem Ym {p0:aq} {c0:bM} {r:Bool} (h:HY p0 c0=some r):aF Tryz.prog 123 [aq.lv p0,.sptr [.I c0.Index,.I c0.bE,.I c0.cX]] (Mem.of []) (.bool r) (Mem.of []):=by
  unfold HY at h
  refine aW Tryz.func123 R (nT Tryz.ntmps123 R)<|LH.ae R (sB<|da R R R R<|bK R zQ)<|LH.ae R (sN<|av oa aw aL R R R<|sN<|aS R aw br<|sN<|av iy aw aL R R R<|sN<|aS R aw br<|sN<|gv R R<|bK R zQ)<|LH.ret ?_
  obtain rfl:=oI h
  exact ba<|aT Tryz.results123
theorem YA {F:Nat} {p0:ah} {c0:bM} {r:Int} (h:H8 F p0 c0=some r):aF Tryz.prog 122 [ah.lv p0,.sptr [.I c0.Index,.I c0.bE,.I c0.cX]] (Mem.of []) (.I r) (Mem.of []):=by
  unfold H8 at h
  refine aW Tryz.func122 R (nT Tryz.ntmps122 R)<|LH.ae R (sB<|da R R R R<|aX R zQ) ?_
  obtain ⟨r1,dI,h⟩:=aa h
  refine LH.ae R (sN<|a7 R bm dn bk R R<|sN<|Br (vs:=[.sptr [.I c0.Index,.I c0.bE,.I c0.cX]]) R<|sN<|dh L8 (Rc (dQ:=123) (cW:=[.sptr [.I c0.Index,.I c0.bE,.I c0.cX]]) Tu R (fun _ _ h=>Ym h) dI)<|aX R zQ)<|LH.ret ?_
  obtain rfl:=oI h
  exact ba<|aT Tryz.results122
theorem Ro {p0:Bool} {r:Int} (h:Ea p0=some r):aF Tryz.prog 125 [.bool p0] (Mem.of []) (.I r) (Mem.of []):=by
  unfold Ea at h
  refine aW Tryz.func125 R (nT Tryz.ntmps125 R)<|LH.ae R (aX R zQ)<|LH.seq<|LH.ae R (bS R zQ) (LH.cd h R (fun hc1 h=>?_) fun hc1 h=>?_)
  ·refine LH.ae R (aX R zQ)<|LH.ret<|aA ?_
   obtain rfl:=oI h
   exact ba<|aT Tryz.results125
  refine LH.skip<|ag<|LH.ae R (aX R zQ)<|LH.ret ?_
  obtain rfl:=oI h
  exact ba<|aT Tryz.results125
theorem YB {p0:ah} {c0:Int} {r:Int} (h:Nb p0 c0=some r):aF Tryz.prog 124 [ah.lv p0,.sptr [.I c0]] (Mem.of []) (.I r) (Mem.of []):=by
  unfold Nb at h
  refine aW Tryz.func124 R (nT Tryz.ntmps124 R)<|LH.ae R (sB<|da R R R R<|aX R zQ) ?_
  obtain ⟨r1,dI,h⟩:=aa h
  refine LH.ae R (sN<|av ei aw aL R R R<|sN<|aS R aw br<|sN<|aS R aw br<|sN<|gv R R<|sN<|dh L9 (Ro dI)<|aX R zQ)<|LH.ret ?_
  obtain rfl:=oI h
  exact ba<|aT Tryz.results124
theorem Yk {F:Nat} {p0:List Int} {p1:Int} {r:Int} (h:y9 F p0 p1=some r):aF Tryz.prog 194 [.L p0,.I p1] (Mem.of []) (.I r) (Mem.of []):=by
  unfold y9 at h
  refine aW Tryz.func194 R (nT Tryz.ntmps194 R)<|LH.ae R (aX R zQ)<|LH.seq<|LH.ae R (dC R<|sN<|bx (f:=LV.I) bd R<|aN R zQ)<|LH.block<|LH.bW (fun n e m=>∃ (n1:Int),Nq p0 p1 n n1=some r∧e=Env.of [(0,.L p0),(1,.I p1),(7,.I (p0.length:Int)),(8,.I n1)]∧m=Mem.of []) F ⟨0,h,R,R⟩ ?_
  clear h
  rintro n e m ⟨n1,h,rfl,rfl⟩
  rcases n with _ | n
  · exact nX h
  obtain ⟨aE,aC⟩:∃ f,f=Nq p0 p1 n:=⟨_,rfl⟩
  replace h:Gk p0 p1 aE n1=some r:=aC ▸ h
  unfold Gk at h
  refine LH.ae R (sN<|dK R R zQ)<|LH.seq (LH.cd h R (fun gK h=>?_) fun gK h=>?_)
  ·refine LH.skip<|ag<|LH.seq<|LH.block<|LH.ae R (aN R<|aX R zQ) ?_
   obtain ⟨x3,fo,h⟩:=aa h
   refine LH.ae R (aN R<|dC R<|aN R<|sN<|dJ (f:=LV.I) bd aw aL R R gB fo R<|sN<|aS R aw br<|sN<|gv R R zQ) (LH.cd h R (fun qE h=>?_) fun qE h=>?_)
   ·refine LH.ae R (aN R<|aX R zQ)<|LH.ret<|aU<|aA<|cc<|aU<|aA ?_
    obtain rfl:=oI h
    exact ba<|aT Tryz.results194
   refine LH.skip<|aB<|ag<|LH.aJ R (sN<|bw R R<|aN R zQ) ?_
   exact aM ⟨(i64 (n1+1)),aC ▸ h,R,R⟩<|Wk.eq R R R R
  refine LH.exit<|bB<|bc<|aZ<|ag<|LH.ae R (aX R zQ)<|LH.ret ?_
  obtain rfl:=oI h
  exact ba<|aT Tryz.results194
theorem M8 {F:Nat} {p0:List Int} {p1:Int} {r:Bool} (h:AS F p0 p1=some r):aF Tryz.prog 149 [.L p0,.I p1] (Mem.of []) (.bool r) (Mem.of []):=by
  unfold AS at h
  refine aW Tryz.func149 R (nT Tryz.ntmps149 R)<|LH.ae R (bK R zQ) ?_
  obtain ⟨r1,dI,h⟩:=aa h
  refine LH.ae R (dC R<|aN R<|sN<|dh TT (Yk dI)<|sN<|ot R R<|bK R zQ)<|LH.ret ?_
  obtain rfl:=oI h
  exact ba<|aT Tryz.results149
theorem Rv {F:Nat} {p0:ah} {p1:ah} {r:Bool} (h:xe F p0 p1=some r):aF Tryz.prog 86 [ah.lv p0,ah.lv p1] (Mem.of []) (.bool r) (Mem.of []):=by
  unfold xe at h
  refine aW Tryz.func86 R (nT Tryz.ntmps86 R)<|LH.ae R (sB<|da R R R R<|sB<|da R R R R<|bK R zQ)<|LH.seq ?_
  obtain ⟨w2,hv,h⟩:=aa h
  refine LH.dF [2,3] 19 w2 [] R ?_ ?_
  ·refine sN<|a7 R bm dn bk R R ?_
   obtain ⟨r3,hr3,hv⟩:=aa hv
   refine sN<|dh tM (tS hr3)<|sN<|iR R R<|bS R ?_
   by_cases bP:(r3 != 0)=true
   ·obtain rfl:=oI (bO hv bP)
    rw [bP]; exact zA
   ·replace bP:=bF bP
    replace hv:=bN hv bP
    refine aK bP<|a7 R bm dn bk R R ?_
    obtain ⟨r5,qK,hv⟩:=aa hv
    refine aK bP<|dh tM (tS qK)<|aK bP<|iR R R<|sN<|bY bP R<|bS R ?_
    by_cases bn:(r5 != 0)=true
    ·obtain rfl:=oI (bO hv bn)
     rw [bn]; exact zA
    ·replace bn:=bF bn
     replace hv:=bN hv bn
     refine aK bn<|av ei aw aL R R R<|aK bn<|aS R aw br<|aK bn<|av ei aw aL R R R<|aK bn<|aS R aw br<|aK bn<|gv R R<|sN<|bY bn R ?_
     obtain rfl:=oI hv
     exact zS
  clear hv
  refine LH.cd h R (fun xS h=>?_) fun xS h=>?_
  ·refine LH.ae R (bK R zQ)<|LH.ret<|aA ?_
   obtain rfl:=oI h
   exact ba<|aT Tryz.results86
  refine LH.skip<|ag ?_
  obtain ⟨w9,hv,h⟩:=aa h
  refine LH.dF [] 4 w9 [] R ?_ ?_
  ·refine sN<|av iv bj cC R R R<|sN<|aS R bj dr<|sN<|av ei aw aL R R R<|sN<|aS R aw br ?_
   obtain ⟨fR,s7,hv⟩:=aa hv
   refine sN<|dh F1 (M8 s7)<|bS R ?_
   by_cases cP:fR=true
   ·replace hv:=bO hv cP
    refine bl cP<|bl cP<|bl cP<|bl cP<|bl cP<|sN<|df cP R<|bK R ?_
    obtain rfl:=oI hv
    exact zS
   ·replace cP:=bF cP
    replace hv:=bN hv cP
    refine aK cP<|av iv bj cC R R R<|aK cP<|aS R bj dr<|aK cP<|av ei aw aL R R R<|aK cP<|aS R aw br ?_
    obtain ⟨jU,vS,hv⟩:=aa hv
    refine aK cP<|dh F1 (M8 vS)<|sN<|bY cP R<|bK R ?_
    obtain rfl:=oI hv
    exact zS
  clear hv
  refine LH.ret ?_
  obtain rfl:=oI h
  exact ba<|aT Tryz.results86
theorem Ye {F:Nat} {p0:List ar} {p1:List ah} {r:List ar} (h:JC F p0 p1=some r):aF Tryz.prog 126 [.ptr 511 0,.lst 5 (p1.map ah.lv)] (Mem.of [(511,.box [.arr 512 p0.length]),(512,.arr 230 3 (p0.map ar.lv))]) (.tup []) (Mem.of [(511,.box [.arr 512 r.length]),(512,.arr 230 3 (r.map ar.lv))]):=by
  unfold JC at h
  refine aW Tryz.func126 R (nT Tryz.ntmps126 R)<|LH.ae R (dC R<|sN<|bx (f:=ah.lv) fA R<|aN R zQ)<|LH.block<|LH.bW (fun n e m=>∃ (n1:Int) (l2:List ar),AR F p1 n n1 l2=some r∧e=Env.of [(0,.ptr 511 0),(1,.lst 5 (p1.map ah.lv)),(8,.I (p1.length:Int)),(9,.I n1)]∧m=Mem.of [(511,.box [.arr 512 l2.length]),(512,.arr 230 3 (l2.map ar.lv))]) F ⟨0,p0,h,R,R⟩ ?_
  clear h
  rintro n e m ⟨n1,l2,h,rfl,rfl⟩
  rcases n with _ | n
  · exact nX h
  obtain ⟨aE,aC⟩:∃ f,f=AR F p1 n:=⟨_,rfl⟩
  replace h:Ng F p1 aE n1 l2=some r:=aC ▸ h
  unfold Ng at h
  refine LH.ae R (sN<|dK R R zQ)<|LH.seq (LH.cd h R (fun mn h=>?_) fun mn h=>?_)
  ·refine LH.skip<|ag<|LH.seq<|LH.block<|LH.ae R (aN R<|aX R zQ)<|LH.ae R (aN R<|sN<|bw R R<|aX R zQ)<|LH.block<|LH.bW (fun n e m=>∃ (n4:Int) (l5:List ar),Gi aE F p1 n1 n n4 l5=some r∧e=Env.of [(0,.ptr 511 0),(1,.lst 5 (p1.map ah.lv)),(4,.I n1),(5,.I n4),(8,.I (p1.length:Int)),(9,.I n1)]∧m=Mem.of [(511,.box [.arr 512 l5.length]),(512,.arr 230 3 (l5.map ar.lv))]) F ⟨(i64 (n1+1)),l2,h,R,R⟩ ?_
   clear h
   rintro n e m ⟨n4,l5,h,rfl,rfl⟩
   rcases n with _ | n
   · exact nX h
   obtain ⟨dU,dR⟩:∃ f,f=Gi aE F p1 n1 n:=⟨_,rfl⟩
   replace h:Nh aE F p1 n1 dU n4 l5=some r:=dR ▸ h
   unfold Nh at h
   refine LH.seq<|LH.ae R (aN R<|dC R<|sN<|bx (f:=ah.lv) fA R<|sN<|dK R R zQ) (LH.cd h R (fun lz h=>?_) fun lz h=>?_)
   ·refine LH.skip<|ag<|LH.seq<|LH.block<|LH.seq ?_
    obtain ⟨w8,hv,h⟩:=aa h
    refine LH.eY mixed [] [0,0,0,0,0,0,0,0,0,0,0,0,0,0,0,0,0,0,0,0,0,0,0] [(0,.ptr 511 0),(1,.lst 5 (p1.map ah.lv)),(4,.I n1),(5,.I n4),(8,.I (p1.length:Int)),(9,.I n1),(42,.bool w8)] [(511,.box [.arr 512 l5.length]),(512,.arr 230 3 (l5.map ar.lv))] R R (by kernel_rfl) ?_ ?_
    ·refine nM R<|gu R ?_
     obtain ⟨x9,rM,hv⟩:=aa hv
     refine aI<|dJ (f:=ah.lv) fA bm bk R R ah.ok rM R ⟨R,aI<|av ei aw aL R R R ⟨R,aI<|aS R aw br ⟨R,nM R<|gu R ?_⟩⟩⟩
     obtain ⟨mI,oJ,hv⟩:=aa hv
     refine aI<|dJ (f:=ah.lv) fA bm bk R R ah.ok oJ R ⟨R,aI<|av ei aw aL R R R ⟨R,aI<|aS R aw br ⟨R,aI<|iR R R ⟨R,qg R ?_⟩⟩⟩⟩
     by_cases cP:(x9.ID != mI.ID)=true
     ·replace hv:=bO hv cP
      refine mT R (cB cP)<|nM R<|mT R (cB cP)<|gu R ?_
      obtain ⟨kb,ux,hv⟩:=aa hv
      refine mT R (cB cP)<|aI<|dJ (f:=ah.lv) fA bm bk R R ah.ok ux R ⟨R,mT R (cB cP)<|aI<|a7 R bm dn bk R R ⟨R,mT R (cB cP)<|nM R<|mT R (cB cP)<|gu R ?_⟩⟩
      obtain ⟨jc,qf,hv⟩:=aa hv
      refine mT R (cB cP)<|aI<|dJ (f:=ah.lv) fA bm bk R R ah.ok qf R ⟨R,mT R (cB cP)<|aI<|a7 R bm dn bk R R ⟨R,?_⟩⟩
      obtain ⟨fJ,s8,hv⟩:=aa hv
      refine mT R (cB cP)<|aI<|dh QT (Rv s8) ⟨R,mT R (cB cP)<|aI<|dB R ⟨R,aI<|df cP R ⟨R,?_⟩⟩⟩
      obtain rfl:=oI hv
      exact zM
     ·replace cP:=bF cP
      replace hv:=bN hv cP
      refine cJ cP<|cJ cP<|cJ cP<|cJ cP<|cJ cP<|cJ cP<|cJ cP<|cJ cP<|cJ cP<|cJ cP<|aI<|bY cP R ⟨R,?_⟩
      obtain rfl:=oI hv
      exact zM
    clear hv
    refine LH.cd h R (fun qd h=>?_) fun qd h=>?_
    ·refine LH.exit<|bB<|aZ<|ag<|LH.aJ R (aN R<|sN<|bw R R<|aX R zQ) ?_
     exact aM ⟨(i64 (n4+1)),l5,dR ▸ h,R,R⟩<|Wk.eq R R R R
    refine LH.skip<|ag ?_
    obtain ⟨NZ,acz,h⟩:=aa h
    refine LH.ae R (dC R<|sN<|bx (f:=ah.lv) fA R<|sN<|QX (f:=LV.I) (z:=0) (id:=145) R bd Oq nB aL R R R acz R<|sE R zQ) ?_
    obtain ⟨jn,oK,h⟩:=aa h
    obtain ⟨x18,O4,h⟩:=aa h
    refine LH.cM R (lh R<|aN R<|lh R<|aN R<|sN<|eI (f:=LV.I) bd aw aL R R R oK<|s_<|kC (f:=LV.I) (z':=1) R R R R aw aL R (cU oK).2 R<|sN<|eI (f:=LV.I) bd aw aL (congrArg (LV.arr 145) (by simp)) R R O4<|s_<|kC (f:=LV.I) (z':=1) R R R R aw aL R (cU O4).2 R<|s0<|Wk.trans (Wk.to (el:=[(0,.ptr 511 0),(1,.lst 5 (p1.map ah.lv)),(4,.I n1),(5,.I n4),(6,.arr 145 (List.length<|(NZ.set n1.toNat 1).set n4.toNat 1)),(8,.I (p1.length:Int)),(9,.I n1)]) (ml:=[(145,.arr 3 1 (List.map LV.I<|(NZ.set n1.toNat 1).set n4.toNat 1)),(511,.box [.arr 512 l5.length]),(512,.arr 230 3 (l5.map ar.lv))]) (eC R<|eC R<|eC R<|eC R<|eC (congrArg (LV.arr 145) (by simp))<|eC R<|eC R eN) ⟨R,R,R,trivial⟩ R<|cF R)<|Wk.mZ (f:=LV.I) (ig:=[(0,.ptr 511 0),(1,.lst 5 (p1.map ah.lv)),(4,.I n1),(5,.I n4),(6,.L ((NZ.set n1.toNat 1).set n4.toNat 1)),(8,.I (p1.length:Int)),(9,.I n1)]) 145 3 1 ((NZ.set n1.toNat 1).set n4.toNat 1) R R (cv R)<|fK R<|fK R<|fK R<|fK R<|fZ<|fK R<|fK R fN) ?_
    obtain ⟨Bt,LM,h⟩:=aa h
    refine LH.aJ R (fW R<|dC R<|sN<|hD (vs:=[(0,.L ((NZ.set n1.toNat 1).set n4.toNat 1)),(1,.I 0),(2,.I 1)]) ES ly R (lf gn cC bj R R R<|lf gS aL aw R R R<|lf gT aL aw R R R gZ)<|sN<|ic (f:=ar.lv) (ys:=[(ar.mk ((NZ.set n1.toNat 1).set n4.toNat 1) 0 1)]) hY ny dy R R R ar.ok<|sX (((eo (args:=[.ptr 511 0,.lst 3 (List.map ar.lv [(ar.mk ((NZ.set n1.toNat 1).set n4.toNat 1) 0 1)])]) (ml:=[(511,.box [.arr 512 l5.length]),(512,.arr 230 3 (l5.map ar.lv))]) (eD:=[(511,.box [.arr 512 Bt.length]),(512,.arr 230 3 (Bt.map ar.lv))]) R s9 R (bZ<|bZ fF) (JF LM) (mC R<|mC R mN) (bT R<|bT R dO) R)).ok) zQ)<|aB<|ag<|LH.aJ R (aN R<|sN<|bw R R<|aX R zQ) ?_
    exact aM ⟨(i64 (n4+1)),Bt,dR ▸ h,R,R⟩<|Wk.eq R R R R
   refine LH.exit<|bB<|bc<|aZ<|aB<|ag<|LH.aJ R (sN<|bw R R<|aN R zQ) ?_
   exact aM ⟨(i64 (n1+1)),l5,aC ▸ h,R,R⟩<|Wk.eq R R R R
  refine LH.exit<|bB<|bc<|aZ ?_
  obtain rfl:=oI h
  exact xk (aT Tryz.results126)<|dN lY
theorem Yj {F:Nat} {p0:List bD} {p1:bD} {r:Int} (h:HV F p0 p1=some r):aF Tryz.prog 182 [.lst 2 (p0.map bD.lv),.agg [.I p1.ID,.I p1.Version]] (Mem.of []) (.I r) (Mem.of []):=by
  unfold HV at h
  refine aW Tryz.func182 R (nT Tryz.ntmps182 R)<|LH.ae R (sB<|da R R R R<|aX R zQ)<|LH.seq<|LH.ae R (dC R<|sN<|bx (f:=bD.lv) uG R<|aN R zQ)<|LH.block<|LH.bW (fun n e m=>∃ (n1:Int),DF p0 p1 n n1=some r∧e=Env.of [(0,.lst 2 (p0.map bD.lv)),(3,.sptr [.I p1.ID,.I p1.Version]),(7,.I (p0.length:Int)),(8,.I n1)]∧m=Mem.of []) F ⟨0,h,R,R⟩ ?_
  clear h
  rintro n e m ⟨n1,h,rfl,rfl⟩
  rcases n with _ | n
  · exact nX h
  obtain ⟨aE,aC⟩:∃ f,f=DF p0 p1 n:=⟨_,rfl⟩
  replace h:Np p0 p1 aE n1=some r:=aC ▸ h
  unfold Np at h
  refine LH.ae R (sN<|dK R R zQ)<|LH.seq (LH.cd h R (fun gK h=>?_) fun gK h=>?_)
  ·refine LH.skip<|ag<|LH.seq<|LH.block<|LH.ae R (aN R<|aX R zQ) ?_
   obtain ⟨x3,fo,h⟩:=aa h
   refine LH.lN mixed [] [0,0,0,0,0,0] R R (by kernel_rfl) (aI<|a7 R fj sj eM R R ⟨R,nM R<|gu R<|aI<|dJ (f:=bD.lv) uG fj eM R R bD.ok fo R ⟨R,aI<|a7 R fj sj eM R R ⟨R,aI<|Uf R R (Qi p1 x3) ⟨R,zV⟩⟩⟩⟩) (LH.cd h R (fun qE h=>?_) fun qE h=>?_)
   ·refine LH.ae R (aN R<|aX R zQ)<|LH.ret<|aU<|aA<|cc<|aU<|aA ?_
    obtain rfl:=oI h
    exact ba<|aT Tryz.results182
   refine LH.skip<|aB<|ag<|LH.aJ R (sN<|bw R R<|aN R zQ) ?_
   exact aM ⟨(i64 (n1+1)),aC ▸ h,R,R⟩<|Wk.eq R R R R
  refine LH.exit<|bB<|bc<|aZ<|ag<|LH.ae R (aX R zQ)<|LH.ret ?_
  obtain rfl:=oI h
  exact ba<|aT Tryz.results182
theorem Yc {F:Nat} {p0:List bD} {p1:bD} {r:Bool} (h:CM F p0 p1=some r):aF Tryz.prog 128 [.lst 2 (p0.map bD.lv),.agg [.I p1.ID,.I p1.Version]] (Mem.of []) (.bool r) (Mem.of []):=by
  unfold CM at h
  refine aW Tryz.func128 R (nT Tryz.ntmps128 R)<|LH.ae R (sB<|da R R R R<|bK R zQ) ?_
  obtain ⟨r1,dI,h⟩:=aa h
  refine LH.ae R (dC R<|sN<|a7 R fj sj eM R R<|sN<|dh TP (Yj dI)<|sN<|ot R R<|bK R zQ)<|LH.ret ?_
  obtain rfl:=oI h
  exact ba<|aT Tryz.results128
theorem YC {F:Nat} {p0:ah} {c0:bA} {r:Int} (h:H9 F p0 c0=some r):aF Tryz.prog 127 [ah.lv p0,.sptr [.I c0.Code,.lst 2 (c0.Items.map bD.lv)]] (Mem.of []) (.I r) (Mem.of []):=by
  unfold H9 at h
  refine aW Tryz.func127 R (nT Tryz.ntmps127 R)<|LH.ae R (sB<|da R R R R<|aX R zQ) ?_
  obtain ⟨r1,dI,h⟩:=aa h
  obtain ⟨r2,hr2,h⟩:=aa h
  refine LH.ae R (sN<|av G8 JV P1 R R R<|sN<|aS R JV Zr<|sN<|av ei aw aL R R R<|sN<|aS R aw br<|sN<|av gR aw aL R R R<|sN<|aS R aw br<|sN<|hD (vs:=[(0,.I p0.ID),(1,.I p0.Version)]) z6 z7 R (lf jE aL aw R R R<|lf fq aL aw R R R gZ)<|sN<|dh Ty (Yc dI)<|sN<|dh L9 (Ro hr2)<|aX R zQ)<|LH.ret ?_
  obtain rfl:=oI h
  exact ba<|aT Tryz.results127
end Go.Proofs.YtiinmaihgmfniaaGreat
