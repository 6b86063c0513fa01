import Derived.Test.YtiinmaihgmfniaaGreatZW5
set_option linter.unusedVariables false
set_option linter.unusedSimpArgs false
set_option maxRecDepth 100000
set_option maxHeartbeats 1000000
namespace Go.Proofs.YtiinmaihgmfniaaGreat
open Go.L Go.Sh
set_option maxHeartbeats 4000000 in
theorem Yd {F:Nat} {p0:Int} {c0:List aG} {c1:cZ} {c2:List Int} {c3:aG} {c4:Bool} {c5:Int} {r:Int × List aG × List Int} (h:DU F p0 c0 c1 c2 c3 c4 c5=some r):aF Tryz.prog 134 [.I p0,.ptr 441 0,.sptr [.L c1.aj,.lst 3 (c1.Rows.map ar.lv)],.ptr 442 0,.sptr (aG.lv c3).cells,.sptr [.bool c4],.sptr [.I c5],.ptr 446 0] (Mem.of [(441,.box [.arr 451 c0.length]),(442,.box [.arr 452 c2.length]),(446,.box [.fn 134 [.ptr 441 0,.sptr [.L c1.aj,.lst 3 (c1.Rows.map ar.lv)],.ptr 442 0,.sptr (aG.lv c3).cells,.sptr [.bool c4],.sptr [.I c5],.ptr 446 0]]),(451,.arr 239 7 (c0.map aG.lv)),(452,.arr 3 1 (c2.map LV.I))]) (.I r.1) (Mem.of [(441,.box [.arr 451 r.2.1.length]),(442,.box [.arr 452 r.2.2.length]),(446,.box [.fn 134 [.ptr 441 0,.sptr [.L c1.aj,.lst 3 (c1.Rows.map ar.lv)],.ptr 442 0,.sptr (aG.lv c3).cells,.sptr [.bool c4],.sptr [.I c5],.ptr 446 0]]),(451,.arr 239 7 (r.2.1.map aG.lv)),(452,.arr 3 1 (r.2.2.map LV.I))]):=by
  induction F generalizing p0 c0 c1 c2 c3 c4 c5 r with
  | zero=>exact nX h
  | succ F ih =>
    unfold DU at h
    obtain ⟨self,LW⟩:∃ f,f=DU F:=⟨_,rfl⟩
    rw [← LW] at h ih
    refine aW Tryz.func134 R (nT Tryz.ntmps134 R)<|LH.ae R (aX R zQ)<|LH.ae R (sN<|de R R R R nv sn<|sN<|yp (f:=aG.lv) oT R R<|aX R zQ)<|LH.seq ?_
    obtain ⟨r1,dI,h⟩:=aa h
    refine LH.ae R (sN<|a7 R e9 gG fa R R<|sN<|de R R R R bj dr<|cH.wk (bQ [0,1,2,3,4,5,6,7,10,18,19] [441,442,446,451,452])<|sN<|mw (args:=[.agg [.L c1.aj,.lst 3 (c1.Rows.map ar.lv)],.arr 452 c2.length]) (ml:=[(452,.arr 3 1 (c2.map LV.I))]) (eD:=[(452,.arr 3 1 (c2.map LV.I))]) R TA R (bZ<|bZ fF) (aF.MA 452 3 1 (xs:=List.map LV.I c2) (YQ dI) (.keep R (.row (by simp) .nil)) R R R R R Vp) ⟨R,trivial⟩ (bT R dO) R<|aX R zQ)<|LH.ae R (aN R<|sN<|ot R R zQ) (LH.cd h R (fun gK h=>?_) fun gK h=>?_)
    ·obtain ⟨v3,S6,h⟩:=aa h
     refine LH.ae R (sN<|de R R R R nv sn<|aN R<|sN<|hD (vs:=[(0,.I 2),(4,.I r1)]) NU z8 R (lf od aL aw R R R<|lf jF aL aw R R R gZ)<|sN<|ic (f:=aG.lv) (ys:=[(aG.mk 2 0 0 0 r1 0 0)]) oT zZ gW R R R aG.ok<|sX (wu (f:=aG.lv) oT zZ gW R R R S6)<|s_<|cN R R R nv JX R R R zQ)<|LH.ae R (aN R<|aX R zQ)<|LH.ret<|aA ?_
     obtain rfl:=oI h
     exact ba<|aT Tryz.results134
    refine LH.skip<|ag ?_
    obtain ⟨r4,FO,h⟩:=aa h
    refine LH.ae R (sN<|a7 R e9 gG fa R R<|sN<|de R R R R bj dr<|sN<|a7 R kr sk gW R R<|cH.wk (bQ [0,1,3,4,5,6,7,10,30,31,32] [441,442,446,451,452])<|sN<|mw (args:=[.agg [.L c1.aj,.lst 3 (c1.Rows.map ar.lv)],.arr 452 c2.length,aG.lv c3]) (ml:=[(452,.arr 3 1 (c2.map LV.I))]) (eD:=[(452,.arr 3 1 (c2.map LV.I))]) R TB R (bZ<|bZ<|bZ fF) (aF.MA 452 3 1 (xs:=List.map LV.I c2) (YD FO) (.keep R (.row (by simp) (.keep R .nil))) R R R R R Vp) ⟨R,trivial⟩ (bT R dO) R<|sG R<|sN<|gj R R<|sN<|gj R R<|aX R<|bK R zQ)<|LH.seq<|LH.dF [0,1,3,4,7,10] 47 ((p0 == (c2.length:Int)) || (c4 && (decide (r4.1 ≥ c5)))) [441,442,446,451,452] R ?_ ?_
    ·refine aN R<|sN<|de R R R R bj dr<|sN<|yp (f:=LV.I) bd R R<|sN<|gv R R<|bS R ?_
     by_cases bn:(p0 == (c2.length:Int))=true
     ·exact bl bn<|bl bn<|sU R R<|sU R R<|sU R R<|bl bn<|sN<|df bn R<|s0<|Wk.to (eC R<|eC R<|eC R<|eC R<|eC R<|eC R<|eC (cB<|wz bn) eN) ⟨R,R,R,R,R,trivial⟩ R<|cF R
     ·replace bn:=bF bn
      refine aK bn<|aS R jG yA<|aK bn<|oM (v:=(.bool _)) R ?_
      by_cases cg:c4=true
      ·exact aK cg<|oM (v:=(.int _ _)) R<|aK cg<|aS R aw br<|aK cg<|ot R R<|aK bn<|df cg R<|sN<|bY bn R<|s0<|Wk.to (eC R<|eC R<|eC R<|eC R<|eC R<|eC R<|eC (cB<|Eq.trans (eU cg)<|kR bn) eN) ⟨R,R,R,R,R,trivial⟩ R<|cF R
      ·replace cg:=bF cg
       exact bl cg<|bl cg<|bl cg<|aK bn<|bY cg R<|sN<|bY bn R<|s0<|Wk.to (eC R<|eC R<|eC R<|eC R<|eC R<|eC R<|eC (cB<|Eq.trans (mf cg)<|kR bn) eN) ⟨R,R,R,R,R,trivial⟩ R<|cF R
    refine LH.cd h R (fun oF h=>?_) fun oF h=>?_
    ·obtain ⟨v9,hv9,h⟩:=aa h
     refine LH.ae R (sN<|de R R R R nv sn<|sN<|a7 R kr sk gW R R<|sN<|ic (f:=aG.lv) (ys:=[c3]) oT zZ gW R R R aG.ok<|sX (wu (f:=aG.lv) oT zZ gW R R R hv9)<|s_<|cN R R R nv JX R R R zQ)<|LH.ae R (aN R<|aX R zQ)<|LH.ret<|aA ?_
     obtain rfl:=oI h
     exact ba<|aT Tryz.results134
    refine LH.skip<|ag ?_
    obtain ⟨v10,LX,h⟩:=aa h
    refine LH.ae R (sN<|de R R R R nv sn<|aN R<|sN<|hD (vs:=[(0,.I 1),(1,.I p0)]) NU z8 R (lf od aL aw R R R<|lf p6 aL aw R R R gZ)<|sN<|ic (f:=aG.lv) (ys:=[(aG.mk 1 p0 0 0 0 0 0)]) oT zZ gW R R R aG.ok<|sX (wu (f:=aG.lv) oT zZ gW R R R LX)<|s_<|cN R R R nv JX R R R zQ) ?_
    obtain ⟨qa,ph,h⟩:=aa h
    refine LH.cK [(0,.I p0),(1,.ptr 441 0),(3,.ptr 442 0),(7,.ptr 446 0),(10,.I (c0.length:Int))] [(441,.box [.arr 451 v10.length]),(442,.box [.arr 452 (List.length<|c2.set p0.toNat 0)]),(446,.box [.fn 134 [.ptr 441 0,.sptr [.L c1.aj,.lst 3 (c1.Rows.map ar.lv)],.ptr 442 0,.sptr (aG.lv c3).cells,.sptr [.bool c4],.sptr [.I c5],.ptr 446 0]]),(451,.arr 239 7 (v10.map aG.lv)),(452,.arr 3 1 (List.map LV.I<|c2.set p0.toNat 0))] R ?_ ?_
    ·refine sN<|de R R R R bj dr<|aN R<|sN<|eI (f:=LV.I) bd aw aL R R R ph<|s_<|kC (f:=LV.I) (z':=0) R R R R aw aL R (cU ph).2 R ?_
     exact s0<|Wk.to (eQ ⟨R,R,R,R,R,trivial⟩) (mC R<|mC ((show _=some (LE.box [.arr 452 c2.length]) from R).trans (by simp))<|mC R<|mC R<|mC R mN) R<|cF R
    obtain ⟨jU,vS,h⟩:=aa h
    refine LH.ae R (sN<|de R R R R PX UL<|aN R<|sN<|bw R R<|sX (((eo (args:=[.I (i64 (p0+1)),.ptr 441 0,.sptr [.L c1.aj,.lst 3 (c1.Rows.map ar.lv)],.ptr 442 0,.sptr (aG.lv c3).cells,.sptr [.bool c4],.sptr [.I c5],.ptr 446 0]) (ml:=[(441,.box [.arr 451 v10.length]),(442,.box [.arr 452 (List.length<|c2.set p0.toNat 0)]),(446,.box [.fn 134 [.ptr 441 0,.sptr [.L c1.aj,.lst 3 (c1.Rows.map ar.lv)],.ptr 442 0,.sptr (aG.lv c3).cells,.sptr [.bool c4],.sptr [.I c5],.ptr 446 0]]),(451,.arr 239 7 (v10.map aG.lv)),(452,.arr 3 1 (List.map LV.I<|c2.set p0.toNat 0))]) (eD:=[(441,.box [.arr 451 jU.2.1.length]),(442,.box [.arr 452 jU.2.2.length]),(446,.box [.fn 134 [.ptr 441 0,.sptr [.L c1.aj,.lst 3 (c1.Rows.map ar.lv)],.ptr 442 0,.sptr (aG.lv c3).cells,.sptr [.bool c4],.sptr [.I c5],.ptr 446 0]]),(451,.arr 239 7 (jU.2.1.map aG.lv)),(452,.arr 3 1 (jU.2.2.map LV.I))]) R FZ R (bZ<|bZ<|bZ<|bZ<|bZ<|bZ<|bZ<|bZ fF) (ih vS) (mC R<|mC R<|mC R<|mC R<|mC R mN) (bT R<|bT R<|bT R<|bT R<|bT R dO) R)).ok)<|aX R zQ) ?_
    obtain ⟨jc,qf,h⟩:=aa h
    refine LH.cK [(0,.I p0),(1,.ptr 441 0),(3,.ptr 442 0),(7,.ptr 446 0),(10,.I (c0.length:Int)),(14,.I jU.1)] [(441,.box [.arr 451 jU.2.1.length]),(442,.box [.arr 452 (List.length<|jU.2.2.set p0.toNat 1)]),(446,.box [.fn 134 [.ptr 441 0,.sptr [.L c1.aj,.lst 3 (c1.Rows.map ar.lv)],.ptr 442 0,.sptr (aG.lv c3).cells,.sptr [.bool c4],.sptr [.I c5],.ptr 446 0]]),(451,.arr 239 7 (jU.2.1.map aG.lv)),(452,.arr 3 1 (List.map LV.I<|jU.2.2.set p0.toNat 1))] R ?_ ?_
    ·refine sN<|de R R R R bj dr<|aN R<|sN<|eI (f:=LV.I) bd aw aL R R R qf<|s_<|kC (f:=LV.I) (z':=1) R R R R aw aL R (cU qf).2 R ?_
     exact s0<|Wk.to (eQ ⟨R,R,R,R,R,R,trivial⟩) (mC R<|mC ((show _=some (LE.box [.arr 452 jU.2.2.length]) from R).trans (by simp))<|mC R<|mC R<|mC R mN) R<|cF R
    obtain ⟨fJ,s8,h⟩:=aa h
    refine LH.ae R (sN<|de R R R R PX UL<|aN R<|sN<|bw R R<|sX (((eo (args:=[.I (i64 (p0+1)),.ptr 441 0,.sptr [.L c1.aj,.lst 3 (c1.Rows.map ar.lv)],.ptr 442 0,.sptr (aG.lv c3).cells,.sptr [.bool c4],.sptr [.I c5],.ptr 446 0]) (ml:=[(441,.box [.arr 451 jU.2.1.length]),(442,.box [.arr 452 (List.length<|jU.2.2.set p0.toNat 1)]),(446,.box [.fn 134 [.ptr 441 0,.sptr [.L c1.aj,.lst 3 (c1.Rows.map ar.lv)],.ptr 442 0,.sptr (aG.lv c3).cells,.sptr [.bool c4],.sptr [.I c5],.ptr 446 0]]),(451,.arr 239 7 (jU.2.1.map aG.lv)),(452,.arr 3 1 (List.map LV.I<|jU.2.2.set p0.toNat 1))]) (eD:=[(441,.box [.arr 451 fJ.2.1.length]),(442,.box [.arr 452 fJ.2.2.length]),(446,.box [.fn 134 [.ptr 441 0,.sptr [.L c1.aj,.lst 3 (c1.Rows.map ar.lv)],.ptr 442 0,.sptr (aG.lv c3).cells,.sptr [.bool c4],.sptr [.I c5],.ptr 446 0]]),(451,.arr 239 7 (fJ.2.1.map aG.lv)),(452,.arr 3 1 (fJ.2.2.map LV.I))]) R FZ R (bZ<|bZ<|bZ<|bZ<|bZ<|bZ<|bZ<|bZ fF) (ih s8) (mC R<|mC R<|mC R<|mC R<|mC R mN) (bT R<|bT R<|bT R<|bT R<|bT R dO) R)).ok)<|aX R zQ) ?_
    obtain ⟨Bc,AF,h⟩:=aa h
    refine LH.cK [(1,.ptr 441 0),(10,.I (c0.length:Int)),(14,.I jU.1),(15,.I fJ.1)] [(441,.box [.arr 451 fJ.2.1.length]),(442,.box [.arr 452 (List.length<|fJ.2.2.set p0.toNat (-1))]),(446,.box [.fn 134 [.ptr 441 0,.sptr [.L c1.aj,.lst 3 (c1.Rows.map ar.lv)],.ptr 442 0,.sptr (aG.lv c3).cells,.sptr [.bool c4],.sptr [.I c5],.ptr 446 0]]),(451,.arr 239 7 (fJ.2.1.map aG.lv)),(452,.arr 3 1 (List.map LV.I<|fJ.2.2.set p0.toNat (-1)))] R ?_ ?_
    ·refine sN<|de R R R R bj dr<|aN R<|sN<|eI (f:=LV.I) bd aw aL R R R AF<|s_<|kC (f:=LV.I) (z':=(-1)) R R R R aw aL R (cU AF).2 R ?_
     exact s0<|Wk.to (eQ ⟨R,R,R,R,trivial⟩) (mC R<|mC ((show _=some (LE.box [.arr 452 fJ.2.2.length]) from R).trans (by simp))<|mC R<|mC R<|mC R mN) R<|cF R
    obtain ⟨oe,FV,h⟩:=aa h
    obtain ⟨jn,oK,h⟩:=aa h
    refine LH.eY mixed [] [1441,0,1441,0,0,0,1451,1,100451,1451,1,100451] [(10,.I (c0.length:Int))] [(441,.box [.arr 451 (List.length<|(fJ.2.1.set ((c0.length:Int).toNat)<|aG.mk oe.Kind oe.Var jU.1 oe.One oe.Row oe.qx oe.Den).set ((c0.length:Int).toNat)<|aG.mk jn.Kind jn.Var jn.Zero fJ.1 jn.Row jn.qx jn.Den)]),(442,.box [.arr 452 (List.length<|fJ.2.2.set p0.toNat (-1))]),(446,.box [.fn 134 [.ptr 441 0,.sptr [.L c1.aj,.lst 3 (c1.Rows.map ar.lv)],.ptr 442 0,.sptr (aG.lv c3).cells,.sptr [.bool c4],.sptr [.I c5],.ptr 446 0]]),(451,.arr 239 7 (List.map aG.lv<|(fJ.2.1.set ((c0.length:Int).toNat)<|aG.mk oe.Kind oe.Var jU.1 oe.One oe.Row oe.qx oe.Den).set ((c0.length:Int).toNat)<|aG.mk jn.Kind jn.Var jn.Zero fJ.1 jn.Row jn.qx jn.Den)),(452,.arr 3 1 (List.map LV.I<|fJ.2.2.set p0.toNat (-1)))] R R (by kernel_rfl) ?_ ?_
    ·refine mD R R R (fun _ b _ d=>de R b R R nv sn d)<|gu R<|mD R R R (fun _ b _ d=>de R b R R nv sn d)<|gu R<|gu R<|gu R<|mD R R R (fun _ b _ d=>eI (f:=aG.lv) oT kr gW R b R FV d)<|Kg<|Jp (f:=aG.lv) sw aw aL R R R ⟨R,mS R R R (fun _ b _ d=>kC (f:=aG.lv) (z':=(aG.mk oe.Kind oe.Var jU.1 oe.One oe.Row oe.qx oe.Den)) R R R R aw aL b (cU FV).2 R d)<|mD R R R (fun _ b _ d=>eI (f:=aG.lv) oT kr gW (congrArg (LV.arr 451) (by simp)) b R oK d)<|Kg<|Jp (f:=aG.lv) sx aw aL R R R ⟨R,mS R R R (fun _ b _ d=>kC (f:=aG.lv) (z':=(aG.mk jn.Kind jn.Var jn.Zero fJ.1 jn.Row jn.qx jn.Den)) R R R R aw aL b (cU oK).2 R d) ?_⟩⟩
     exact m0<|Wk.to (eQ ⟨R,trivial⟩) (mC ((show _=some (LE.box [.arr 451 fJ.2.1.length]) from R).trans (by simp))<|mC R<|mC R<|mC R<|mC R mN) R<|cF R
    refine LH.ae R (aN R<|aX R zQ)<|LH.ret ?_
    obtain rfl:=oI h
    exact ba<|aT Tryz.results134
theorem Yh {F:Nat} {p0:cZ} {p1:Bool} {p2:Int} {r:List aG} (h:C5 F p0 p1 p2=some r):aF Tryz.prog 71 [.agg [.L p0.aj,.lst 3 (p0.Rows.map ar.lv)],.bool p1,.I p2] (Mem.of []) (.lst 7 (r.map aG.lv)) (Mem.of []):=by
  unfold C5 at h
  refine aW Tryz.func71 R (nT Tryz.ntmps71 R)<|LH.ae R (sB<|da R R R R<|sB<|da R R R R<|sB<|da R R R R<|kE R zQ) ?_
  obtain ⟨l1,hl1,h⟩:=aa h
  refine LH.ae R (sN<|ic (f:=LV.I) (ys:=[(-1)]) bd nB aL R R R gB<|sN<|av fB bj cC R R R<|sN<|aS R bj dr<|sN<|bx (f:=LV.I) bd R<|sN<|mw (args:=[.L [(-1)],.I (p0.aj.length:Int)]) (ml:=[]) (eD:=[(452,.arr 3 1 (l1.map LV.I))]) R QO R (bZ<|bZ fF) (Nu 452 hl1) mN (MM R dO) R<|sX (j8 342 R P2 R R)<|s_<|cN R R R bj cC R R R zQ)<|LH.cM R (sN<|hD (vs:=[(0,.I 3),(4,.I (-1)),(5,.I 0),(6,.I 1)]) NU z8 R (lf od aL aw R R R<|lf jF aL aw R R R<|lf lU aL aw R R R<|lf p7 aL aw R R R gZ)<|sN<|ib (id:=108) R z8 R R<|s_<|cN R R R kr gW R R R<|s0<|zB [3,4,5,7,8] [108,442,452] 108 R)<|LH.cM R (sX (j8 341 R adL R R)<|s0<|Wk.trans (bQ [3,4,5,7,8,9] [441,442,452])<|Wk.kp 451 239 7 441 0 R R R R R<|cv R)<|LH.ae R (sX (j8 346 R adJ R R) zQ)<|LH.ae R (sN<|Br (vs:=[.ptr 441 0,.sptr [.L p0.aj,.lst 3 (p0.Rows.map ar.lv)],.ptr 442 0,.sptr [.I 3,.I 0,.I 0,.I 0,.I (-1),.I 0,.I 1],.sptr [.bool p1],.sptr [.I p2],.ptr 446 0]) R<|s_<|cN R R R PX adE R R R zQ) ?_
  obtain ⟨r2,hr2,h⟩:=aa h
  refine LH.cM R (sN<|de R R R R PX UL<|sX (((eo (args:=[.I 0,.ptr 441 0,.sptr [.L p0.aj,.lst 3 (p0.Rows.map ar.lv)],.ptr 442 0,.sptr [.I 3,.I 0,.I 0,.I 0,.I (-1),.I 0,.I 1],.sptr [.bool p1],.sptr [.I p2],.ptr 446 0]) (ml:=[(441,.box [.arr 451 (List.length ([]:List aG))]),(442,.box [.arr 452 l1.length]),(446,.box [.fn 134 [.ptr 441 0,.sptr [.L p0.aj,.lst 3 (p0.Rows.map ar.lv)],.ptr 442 0,.sptr [.I 3,.I 0,.I 0,.I 0,.I (-1),.I 0,.I 1],.sptr [.bool p1],.sptr [.I p2],.ptr 446 0]]),(451,.arr 239 7 (List.map aG.lv ([]:List aG))),(452,.arr 3 1 (l1.map LV.I))]) (eD:=[(441,.box [.arr 451 r2.2.1.length]),(442,.box [.arr 452 r2.2.2.length]),(446,.box [.fn 134 [.ptr 441 0,.sptr [.L p0.aj,.lst 3 (p0.Rows.map ar.lv)],.ptr 442 0,.sptr [.I 3,.I 0,.I 0,.I 0,.I (-1),.I 0,.I 1],.sptr [.bool p1],.sptr [.I p2],.ptr 446 0]]),(451,.arr 239 7 (r2.2.1.map aG.lv)),(452,.arr 3 1 (r2.2.2.map LV.I))]) R FZ R (bZ<|bZ<|bZ<|bZ<|bZ<|bZ<|bZ<|bZ fF) (Yd hr2) (mC R<|mC R<|mC R<|mC R<|mC R mN) (bT R<|bT R<|bT R<|bT R<|bT R dO) R)).ok)<|s0<|Wk.trans (bQ [9] [441,451])<|Wk.trans (Wk.trans (Wk.cL (f:=aG.lv) 451 239 7 r2.2.1 441 R R R (dW dV) R R<|cv R)<|bQ [9] [441])<|Wk.dz 441 [.lst 7 (r2.2.1.map aG.lv)] R R R<|cv R)<|LH.ae R (sN<|aS R nv sn<|qV R zQ)<|LH.ret ?_
  obtain rfl:=oI h
  exact ba<|aT Tryz.results71
theorem YN {F:Nat} {p0:cZ} {r:bb × Int} (h:D1 F p0=some r):aF Tryz.prog 25 [.agg [.L p0.aj,.lst 3 (p0.Rows.map ar.lv)]] (Mem.of []) (.tup [bb.lv r.1,.I r.2]) (Mem.of []):=by
  unfold D1 at h
  refine aW Tryz.func25 R (nT Tryz.ntmps25 R)<|LH.ae R (sB<|da R R R R<|sN<|ib (id:=102) R P4 R R<|aX R zQ)<|LH.seq ?_
  obtain ⟨r1,dI,h⟩:=aa h
  refine LH.ae R (sN<|a7 R e9 gG fa R R<|sN<|dh rP (AT dI)<|sN<|dB R zQ) (LH.cd h R (fun gK h=>?_) fun gK h=>?_)
  ·refine LH.cM R (sN<|hD (vs:=[]) adH P4 R gZ<|s_<|cN R R R yC uJ R R R<|aX R<|s0<|zB [2,3] [102] 102 R)<|LH.ret<|aA ?_
   obtain rfl:=oI h
   exact bL (aT Tryz.results25)<|eE R yC NP uJ R R<|dx R<|dN lY
  refine LH.skip<|ag<|LH.ae R (sX (j8 323 R P4 R R) zQ) ?_
  obtain ⟨r3,hr3,h⟩:=aa h
  refine LH.cK [(1,.sptr [.L p0.aj,.lst 3 (p0.Rows.map ar.lv)]),(2,.ptr 102 0),(4,.ptr 423 0)] [(102,.box [.bool false,.nil,.I 0,.nil]),(423,.box (bb.lv r3).cells)] R (sN<|a7 R e9 gG fa R R<|sN<|Br (vs:=[.ptr 423 0]) R<|cH.wk ((Wk.trans (bQ [1,2,4,9,10] [102,423])<|Wk.trans (Wk.kp 13231 3 1 423 1 R R R R R<|cv R)<|Wk.trans (bQ [1,2,4,9,10] [102,423,13231])<|Wk.trans (Wk.trans (Wk.cL (f:=LV.I) 13231 3 1 ([]:List Int) 423 R R R (ay R<|dW<|ay R<|ay R dV) R R<|cv R)<|bQ [1,2,4,9,10] [102,423])<|Wk.trans (bQ [1,2,4,9,10] [102,423])<|Wk.trans (Wk.kp 13233 239 7 423 3 R R R R R<|cv R)<|Wk.trans (bQ [1,2,4,9,10] [102,423,13233])<|Wk.trans (Wk.trans (Wk.cL (f:=aG.lv) 13233 239 7 ([]:List aG) 423 R R R (ay R<|ay R<|ay R<|dW dV) R R<|cv R)<|bQ [1,2,4,9,10] [102,423])<|bQ [1,2,4,9,10] [102,423]))<|sX (((eo (args:=[.agg [.L p0.aj,.lst 3 (p0.Rows.map ar.lv)],.fn 70 [.ptr 423 0]]) (ml:=[(423,.box [.bool false,.L ([]:List Int),.I 0,.lst 7 (List.map aG.lv ([]:List aG))])]) (eD:=[(423,.box (bb.lv r3).cells)]) R Xz R (bZ<|bZ fF) (YW hr3) (mC R mN) (bT R dO) R)).ok) zS) ?_
  obtain ⟨r4,FO,h⟩:=aa h
  refine LH.cM R (sN<|a7 R e9 gG fa R R<|sN<|eF pB jG oU R R<|sN<|de R R R R jG yA<|sN<|eF tx aw aL R R<|sN<|de R R R R aw br<|sN<|dh XB (Yh FO)<|sN<|eF NQ nv JX R R<|s_<|cN R R R nv JX R R R<|s0<|zB [2,4] [102,423] 423 R)<|LH.cM R (sN<|a7 R yC NP uJ R R<|s_<|cN R R R yC uJ R R R<|aX R<|s0<|zB [2,3] [102] 102 R)<|LH.ret ?_
  obtain rfl:=oI h
  exact bL (aT Tryz.results25)<|eE R yC NP uJ R R<|dx R<|dN lY
theorem Ys {F:Nat} {p0:cZ} {p1:List Int} {p2:Int} {r:List bb × Int} (h:DM F p0 p1 p2=some r):aF Tryz.prog 33 [.agg [.L p0.aj,.lst 3 (p0.Rows.map ar.lv)],.L p1,.I p2] (Mem.of []) (.tup [.lst 4 (r.1.map bb.lv),.I r.2]) (Mem.of []):=by
  unfold DM at h
  refine aW Tryz.func33 R (nT Tryz.ntmps33 R)<|LH.ae R (sB<|da R R R R<|kE R<|aX R zQ)<|LH.seq ?_
  obtain ⟨r1,dI,h⟩:=aa h
  refine LH.ae R (sN<|a7 R e9 gG fa R R<|sN<|dh rP (AT dI)<|sN<|dB R zQ) (LH.cd h R (fun gK h=>?_) fun gK h=>?_)
  ·refine LH.ae R (kE R<|aX R zQ)<|LH.ret<|aA ?_
   obtain rfl:=oI h
   exact bL (aT Tryz.results33)<|dx R<|dx R<|dN lY
  refine LH.skip<|ag<|LH.seq ?_
  obtain ⟨w4,hv,h⟩:=aa h
  refine LH.dF [1,2,3] 29 w4 [] R ?_ ?_
  ·refine dC R<|sN<|av fB bj cC R R R<|sN<|aS R bj dr<|sN<|bx (f:=LV.I) bd R ?_
   obtain ⟨r5,qK,hv⟩:=aa hv
   refine sN<|dh HF (HU qK)<|sN<|dB R<|bS R ?_
   by_cases bn:(!r5)=true
   ·obtain rfl:=oI (bO hv bn)
    rw [bn]; exact zA
   ·replace bn:=bF bn
    replace hv:=bN hv bn
    refine aK bn<|oM (v:=(.int _ _)) R<|aK bn<|dK R R<|sN<|bY bn R<|bS R ?_
    by_cases cg:(decide (p2<1))=true
    ·obtain rfl:=oI (bO hv cg)
     rw [cg]; exact zA
    ·replace cg:=bF cg
     replace hv:=bN hv cg
     refine aK cg<|oM (v:=(.int _ _)) R<|aK cg<|hJ R R<|sN<|bY cg R ?_
     obtain rfl:=oI hv
     exact zS
  clear hv
  refine LH.cd h R (fun oF h=>?_) fun oF h=>?_
  ·refine LH.ae R (kE R<|aX R zQ)<|LH.ret<|aA ?_
   obtain rfl:=oI h
   exact bL (aT Tryz.results33)<|dx R<|dx R<|dN lY
  refine LH.skip<|ag<|LH.ae R (kE R zQ)<|LH.ae R (kE R zQ)<|LH.seq<|LH.ae R (aN R<|aN R zQ)<|LH.block<|LH.wk ((Wk.trans (bQ [1,3,8,9,30,31] [])<|Wk.trans (Wk.wA (ig:=[(1,.L p1),(3,.sptr [.L p0.aj,.lst 3 (p0.Rows.map ar.lv)]),(8,.nil),(9,.arr 161 (List.length ([]:List Int))),(30,.I p2),(31,.I 0)]) 161 3 1 R R<|wK<|wK<|wK<|wO<|wK<|wK wN)<|bQ [1,3,8,9,30,31] [161]))<|LH.wk ((Wk.trans (bQ [1,3,8,9,30,31] [161])<|Wk.trans (Wk.wA (ig:=[(1,.L p1),(3,.sptr [.L p0.aj,.lst 3 (p0.Rows.map ar.lv)]),(8,.arr 157 (List.length ([]:List bb))),(9,.arr 161 (List.length ([]:List Int))),(30,.I p2),(31,.I 0)]) 157 94 4 R R<|wK<|wK<|wO<|wK<|wK<|wK wN)<|bQ [1,3,8,9,30,31] [157,161]))<|LH.bW (fun n e m=>∃ (n9:Int) (iN:List bb) (fe:List Int),Gw F p0 p1 p2 n n9 iN fe=some r∧e=Env.of [(1,.L p1),(3,.sptr [.L p0.aj,.lst 3 (p0.Rows.map ar.lv)]),(8,.arr 157 iN.length),(9,.arr 161 fe.length),(30,.I p2),(31,.I n9)]∧m=Mem.of [(157,.arr 94 4 (iN.map bb.lv)),(161,.arr 3 1 (fe.map LV.I))]) F ⟨0,([]:List bb),([]:List Int),h,R,R⟩ ?_
  clear h
  rintro n e m ⟨n9,iN,fe,h,rfl,rfl⟩
  rcases n with _ | n
  · exact nX h
  obtain ⟨aE,aC⟩:∃ f,f=Gw F p0 p1 p2 n:=⟨_,rfl⟩
  replace h:CU F p0 p1 p2 aE n9 iN fe=some r:=aC ▸ h
  unfold CU at h
  refine LH.ae R (sN<|dK R R zQ)<|LH.seq (LH.cd h R (fun jt h=>?_) fun jt h=>?_)
  ·refine LH.skip<|ag<|LH.seq<|LH.block ?_
   obtain ⟨sD,vT,h⟩:=aa h
   refine LH.cM R (sN<|a7 R e9 gG fa R R<|dC R<|lh R<|cH.wk (bQ [1,3,8,9,30,31,34,35,36] [157,161])<|sX (((eo (args:=[.agg [.L p0.aj,.lst 3 (p0.Rows.map ar.lv)],.L p1,.arr 161 fe.length]) (ml:=[(161,.arr 3 1 (fe.map LV.I))]) (eD:=[(161,.arr 3 1 (fe.map LV.I))]) R XG R (bZ<|bZ<|bZ fF) (Yt vT) (mC R mN) (bT R dO) R)).ok)<|sG R<|sN<|gj R R<|sN<|gj R R<|sN<|ib (id:=110) R tA R R<|s_<|cN R R R e9 fa R R R<|aX R<|s0<|zB [1,3,8,9,10,11,30,31] [110,157,161] 110 R)<|LH.seq<|LH.ae R (aN R<|sN<|iR R R zQ) (LH.cd h R (fun sV h=>?_) fun sV h=>?_)
   ·refine LH.ae R (aN R<|kE R<|aX R zQ)<|LH.ret<|aA<|aU<|aA<|cc<|aU<|aA ?_
    obtain rfl:=oI h
    exact bL (aT Tryz.results33)<|dx R<|dx R<|dN lY
   refine LH.skip<|ag ?_
   obtain ⟨ri,Az,h⟩:=aa h
   refine LH.cM R (sN<|a7 R e9 gG fa R R<|sN<|dh Xn (YN Az)<|sG R<|sN<|gj R R<|sN<|gj R R<|sN<|ib (id:=112) R P4 R R<|s_<|cN R R R yC uJ R R R<|aX R<|s0<|Wk.trans (bQ [1,3,8,9,11,12,30,31] [112,157,161])<|Wk.dz 112 (bb.lv ri.1).cells R R R<|cv R)<|LH.seq<|LH.ae R (aN R<|sN<|iR R R zQ) (LH.cd h R (fun o8 h=>?_) fun o8 h=>?_)
   ·refine LH.ae R (aN R<|kE R<|aX R zQ)<|LH.ret<|aA<|aU<|aA<|cc<|aU<|aA ?_
    obtain rfl:=oI h
    exact bL (aT Tryz.results33)<|dx R<|dx R<|dN lY
   refine LH.skip<|ag<|LH.seq<|LH.ae R (sN<|av pB jG oU R R R<|sN<|aS R jG yA<|sN<|dB R zQ) (LH.cd h R (fun Fz h=>?_) fun Fz h=>?_)
   ·refine LH.ae R (kE R<|aX R zQ)<|LH.ret<|aA<|aU<|aA<|cc<|aU<|aA ?_
    obtain rfl:=oI h
    exact bL (aT Tryz.results33)<|dx R<|dx R<|dN lY
   refine LH.skip<|ag ?_
   obtain ⟨P7,S4,h⟩:=aa h
   refine LH.ae R (lh R<|sN<|a7 R yC NP uJ R R<|sN<|ic (f:=bb.lv) (ys:=[ri.1]) xu ZA uJ R R R bb.ok<|sN<|oN (f:=bb.lv) xu ZA uJ R R (cv R) R S4<|sE R zQ) ?_
   obtain ⟨RR,S5,h⟩:=aa h
   refine LH.ae R (lh R<|sN<|av tw bj cC R R R<|sN<|aS R bj dr<|sN<|oN (f:=LV.I) bd nB aL R R (cv R) R S5<|sE R zQ) ?_
   obtain ⟨Z7,Ws,h⟩:=aa h
   refine LH.cK [(1,.L p1),(3,.sptr [.L p0.aj,.lst 3 (p0.Rows.map ar.lv)]),(8,.arr 157 P7.length),(9,.arr 161 Z7.length),(30,.I p2),(31,.I n9)] [(157,.arr 94 4 (P7.map bb.lv)),(161,.arr 3 1 (Z7.map LV.I))] R (lh R<|sN<|gq Xv (NI Tryz.Ph R 161 3 Ws)<|s0<|Wk.to (eC R<|eC R<|eC R<|eC (congrArg (LV.arr 161)<|zO Ws)<|eC R<|eC R eN) ⟨R,R,trivial⟩ R<|cF R) ?_
   obtain ⟨v21,L1,h⟩:=aa h
   refine LH.aJ R (lh R<|cH.wk (bQ [1,3,8,30,31,64] [157,161])<|Ik (F9 Tryz.Jl R XH R R (cv R) (HB.of R) L1)<|sE R zQ)<|aB<|ag<|LH.aJ R (sN<|bw R R<|aN R zQ) ?_
   exact aM ⟨(i64 (n9+1)),P7,v21,aC ▸ h,R,R⟩<|Wk.eq R R R R
  refine LH.exit<|bB<|bc<|aZ<|ag<|LH.wk ((Wk.trans (bQ [8] [157])<|Wk.trans (Wk.mZ (f:=bb.lv) (ig:=[(8,.lst 4 (iN.map bb.lv))]) 157 94 4 iN R R (cv R)<|fZ fN)<|bQ [8] []))<|LH.ae R (dC R<|qV R<|aX R zQ)<|LH.ret ?_
  obtain rfl:=oI h
  exact bL (aT Tryz.results33)<|dx R<|dx R<|dN lY
theorem Na {F:Nat} {p0:jd} {r:Bool} (h:tP F p0=some r):aF Tryz.prog 37 [jd.lv p0] (Mem.of []) (.bool r) (Mem.of []):=by
  unfold tP at h
  refine aW Tryz.func37 R (nT Tryz.ntmps37 R)<|LH.ae R (sB<|da R R R R<|bK R zQ)<|LH.seq<|LH.dF [1] 22 ((decide (p0.Code<0)) || ((decide (p0.Code > 31)) || ((decide (p0.Variant<0)) || (decide (p0.Variant ≥ 4))))) [] R ?_ ?_
  ·refine sN<|av uX aw aL R R R<|sN<|aS R aw br<|sN<|dK R R<|bS R ?_
   by_cases hb2:(decide (p0.Code<0))=true
   ·exact bl hb2<|bl hb2<|bl hb2<|sN<|df hb2 R<|bS R<|sK<|sN<|df R R<|bS R<|sK<|sN<|df R R<|s0<|Wk.to (eC R<|eC (cB<|wz hb2) eN) mN R<|cF R
   ·replace hb2:=bF hb2
    refine aK hb2<|av uX aw aL R R R<|aK hb2<|aS R aw br<|aK hb2<|hJ R R<|sN<|bY hb2 R<|bS R ?_
    by_cases hb3:(decide (p0.Code > 31))=true
    ·exact bl hb3<|bl hb3<|bl hb3<|sN<|df hb3 R<|bS R<|sK<|sN<|df R R<|s0<|Wk.to (eC R<|eC (cB<|Eq.trans (wz hb3)<|kR hb2) eN) mN R<|cF R
    ·replace hb3:=bF hb3
     refine aK hb3<|av uY aw aL R R R<|aK hb3<|aS R aw br<|aK hb3<|dK R R<|sN<|bY hb3 R<|bS R ?_
     by_cases bP:(decide (p0.Variant<0))=true
     ·exact bl bP<|bl bP<|bl bP<|sN<|df bP R<|s0<|Wk.to (eC R<|eC (cB<|Eq.trans (Eq.trans (wz bP)<|kR hb3)<|kR hb2) eN) mN R<|cF R
     ·replace bP:=bF bP
      exact aK bP<|av uY aw aL R R R<|aK bP<|aS R aw br<|aK bP<|ot R R<|sN<|bY bP R<|s0<|Wk.to (eC R<|eC (cB<|Eq.trans (Eq.trans (kR bP)<|kR hb3)<|kR hb2) eN) mN R<|cF R
  refine LH.cd h R (fun oV h=>?_) fun oV h=>?_
  ·refine LH.ae R (bK R zQ)<|LH.ret<|aA ?_
   obtain rfl:=oI h
   exact ba<|aT Tryz.results37
  refine LH.skip<|ag<|LH.seq<|LH.dF [1] 32 ((decide ((p0.aH.length:Int)<1)) || (decide ((p0.aH.length:Int) > 24))) [] R ?_ ?_
  ·refine sN<|av iw b8 dG R R R<|sN<|aS R b8 fh<|sN<|bx (f:=aq.lv) ey R<|sN<|dK R R<|bS R ?_
   generalize (decide ((p0.aH.length:Int)<1))=cg; cases cg
   ·exact sT R R<|av iw b8 dG R R R<|sT R R<|aS R b8 fh<|sT R R<|bx (f:=aq.lv) ey R<|sT R R<|hJ R R<|sN<|bY R R zS
   ·exact sK<|sN<|df R R zS
  refine LH.cd h R (fun oF h=>?_) fun oF h=>?_
  ·refine LH.ae R (bK R zQ)<|LH.ret<|aA ?_
   obtain rfl:=oI h
   exact ba<|aT Tryz.results37
  refine LH.skip<|ag<|LH.seq<|LH.ae R (sN<|av iw b8 dG R R R<|sN<|aS R b8 fh<|sN<|bx (f:=aq.lv) ey R<|aN R zQ)<|LH.block<|LH.bW (fun n e m=>∃ (n9:Int),GK F p0 n n9=some r∧e=Env.of [(1,.sptr (jd.lv p0).cells),(34,.lst 6 (p0.aH.map aq.lv)),(35,.I (p0.aH.length:Int)),(36,.I n9)]∧m=Mem.of []) F ⟨0,h,R,R⟩ ?_
  clear h
  rintro n e m ⟨n9,h,rfl,rfl⟩
  rcases n with _ | n
  · exact nX h
  obtain ⟨aE,aC⟩:∃ f,f=GK F p0 n:=⟨_,rfl⟩
  replace h:Dc F p0 aE n9=some r:=aC ▸ h
  unfold Dc at h
  refine LH.ae R (sN<|dK R R zQ)<|LH.seq (LH.cd h R (fun jf h=>?_) fun jf h=>?_)
  ·refine LH.skip<|ag<|LH.seq<|LH.block ?_
   obtain ⟨qa,ph,h⟩:=aa h
   refine LH.cM R (sN<|dJ (f:=aq.lv) ey cR cm R R aq.ok ph R<|sN<|a7 R cR fi cm R R<|sN<|ib (id:=104) R ud R R<|s_<|cN R R R cR cm R R R<|s0<|Wk.trans (bQ [1,4,34,35,36] [104])<|Wk.dz 104 (aq.lv qa).cells R R R<|cv R) ?_
   obtain ⟨jU,vS,h⟩:=aa h
   refine LH.ae R (sN<|a7 R cR fi cm R R<|sN<|dh QS (Rl vS)<|sN<|dB R zQ) (LH.cd h R (fun mj h=>?_) fun mj h=>?_)
   ·refine LH.ae R (bK R zQ)<|LH.ret<|aU<|aA<|cc<|aU<|aA ?_
    obtain rfl:=oI h
    exact ba<|aT Tryz.results37
   refine LH.skip<|aB<|ag<|LH.aJ R (sN<|bw R R<|aN R zQ) ?_
   exact aM ⟨(i64 (n9+1)),aC ▸ h,R,R⟩<|Wk.eq R R R R
  refine LH.exit<|bB<|bc<|aZ<|ag ?_
  obtain ⟨fJ,s8,h⟩:=aa h
  refine LH.ae R (sN<|av iw b8 dG R R R<|sN<|aS R b8 fh<|sN<|dh My (Nc s8)<|sN<|Kh R R<|bK R zQ)<|LH.ret ?_
  obtain rfl:=oI h
  exact ba<|aT Tryz.results37
theorem Rm {F:Nat} {p0:List ah} {p1:List Int} {p2:Int} {p3:Int} {r:jd × Int} (h:tR F p0 p1 p2 p3=some r):aF Tryz.prog 36 [.lst 5 (p0.map ah.lv),.L p1,.I p2,.I p3] (Mem.of []) (.tup [jd.lv r.1,.I r.2]) (Mem.of []):=by
  unfold tR at h
  refine aW Tryz.func36 R (nT Tryz.ntmps36 R)<|LH.ae R (sN<|ib (id:=108) R uc R R<|aX R zQ)<|LH.seq ?_
  obtain ⟨r1,dI,h⟩:=aa h
  refine LH.ae R (dC R<|dC R<|sN<|bx (f:=ah.lv) fA R<|sN<|dh HF (HU dI)<|sN<|dB R zQ) (LH.cd h R (fun gK h=>?_) fun gK h=>?_)
  ·refine LH.cM R (sN<|hD (vs:=[]) Iu uc R gZ<|s_<|cN R R R im iq R R R<|aX R<|s0<|zB [8,9] [108] 108 R)<|LH.ret<|aA ?_
   obtain rfl:=oI h
   exact bL (aT Tryz.results36)<|eE R im lP iq R R<|dx R<|dN lY
  refine LH.skip<|ag<|LH.ae R (aN R<|aN R<|sN<|hD (vs:=[(0,.I p2),(1,.I p3)]) Iu uc R (lf uX aL aw R R R<|lf uY aL aw R R R gZ)<|sN<|ib (id:=110) R uc R R<|s_<|cN R R R im iq R R R zQ)<|LH.seq<|LH.ae R (dC R<|sN<|bx (f:=LV.I) bd R<|aN R zQ)<|LH.block<|LH.wk ((Wk.trans (bQ [0,8,10,22,23,24] [108,110])<|Wk.trans (Wk.kp 142 185 6 110 2 R R R R R<|cv R)<|bQ [0,8,10,22,23,24] [108,110,142]))<|LH.bW (fun n e m=>∃ (n3:Int) (l4:List aq),wR F p0 p1 p2 p3 n n3 l4=some r∧e=Env.of [(0,.lst 5 (p0.map ah.lv)),(8,.ptr 108 0),(10,.ptr 110 0),(22,.L p1),(23,.I (p1.length:Int)),(24,.I n3)]∧m=Mem.of [(108,.box [.I 0,.I 0,.nil]),(110,.box [.I p2,.I p3,.arr 142 l4.length]),(142,.arr 185 6 (l4.map aq.lv))]) F ⟨0,([]:List aq),h,R,R⟩ ?_
  clear h
  rintro n e m ⟨n3,l4,h,rfl,rfl⟩
  rcases n with _ | n
  · exact nX h
  obtain ⟨aE,aC⟩:∃ f,f=wR F p0 p1 p2 p3 n:=⟨_,rfl⟩
  replace h:Dt F p0 p1 p2 p3 aE n3 l4=some r:=aC ▸ h
  unfold Dt at h
  refine LH.ae R (sN<|dK R R zQ)<|LH.seq (LH.cd h R (fun oV h=>?_) fun oV h=>?_)
  ·refine LH.skip<|ag<|LH.seq<|LH.block ?_
   obtain ⟨x6,yO,h⟩:=aa h
   refine LH.ae R (sN<|dJ (f:=LV.I) bd aw aL R R gB yO R<|sN<|aS R aw br<|aX R zQ)<|LH.seq ?_
   obtain ⟨x7,yP,h⟩:=aa h
   obtain ⟨r8,SS,h⟩:=aa h
   refine LH.ae R (dC R<|aN R<|sN<|dJ (f:=ah.lv) fA bm bk R R ah.ok yP R<|sN<|a7 R bm dn bk R R<|sN<|dh tM (tS SS)<|sN<|iR R R zQ) (LH.cd h R (fun I2 h=>?_) fun I2 h=>?_)
   ·refine LH.cM R (sN<|hD (vs:=[]) Iu uc R gZ<|s_<|cN R R R im iq R R R<|aX R<|s0<|zB [8,9] [108] 108 R)<|LH.ret<|aA<|aU<|aA<|cc<|aU<|aA ?_
    obtain rfl:=oI h
    exact bL (aT Tryz.results36)<|eE R im lP iq R R<|dx R<|dN lY
   refine LH.skip<|ag ?_
   obtain ⟨mI,oJ,h⟩:=aa h
   obtain ⟨v11,acy,h⟩:=aa h
   refine LH.mu mixed [] [0,1110,0,0,0,0,0,2,0,100110] R R (by kernel_rfl) (aI<|eF iw b8 dG R R ⟨R,mD R R R (fun _ b _ d=>de R b R R b8 fh d)<|nM R<|gu R<|aI<|dJ (f:=ah.lv) fA bm bk R R ah.ok oJ R ⟨R,aI<|av dP b8 dG R R R ⟨R,aI<|aS R b8 fh ⟨R,E2<|oN (f:=aq.lv) ey tZ cm R R (cv R) R acy<|aI<|eF iw b8 dG R R ⟨R,mS R R R (fun _ b _ d=>cN R R R b8 dG b R R d) zV⟩⟩⟩⟩⟩)<|aB<|ag<|LH.aJ R (sN<|bw R R<|aN R zQ) ?_
   exact aM ⟨(i64 (n3+1)),v11,aC ▸ h,R,R⟩<|Wk.eq R R R R
  refine LH.exit<|bB<|bc<|aZ<|ag<|LH.wk ((Wk.trans (bQ [8,10] [108,110,142])<|Wk.trans (Wk.trans (Wk.cL (f:=aq.lv) 142 185 6 l4 110 R R R (ay R<|ay R<|dW dV) R R<|cv R)<|bQ [8,10] [108,110])<|Wk.trans (Wk.dz 110 [.I p2,.I p3,.lst 6 (l4.map aq.lv)] R R R<|cv R)<|bQ [8,10] [108]))<|LH.seq ?_
  obtain ⟨jU,vS,h⟩:=aa h
  refine LH.ae R (sN<|a7 R im lP iq R R<|sN<|dh Mx (Na vS)<|sN<|dB R zQ) (LH.cd h R (fun mj h=>?_) fun mj h=>?_)
  ·refine LH.cM R (sN<|hD (vs:=[]) Iu uc R gZ<|s_<|cN R R R im iq R R R<|aX R<|s0<|zB [8,9] [108] 108 R)<|LH.ret<|aA ?_
   obtain rfl:=oI h
   exact bL (aT Tryz.results36)<|eE R im lP iq R R<|dx R<|dN lY
  refine LH.skip<|ag<|LH.cM R (sN<|a7 R im lP iq R R<|s_<|cN R R R im iq R R R<|aX R<|s0<|zB [8,9] [108] 108 R)<|LH.ret ?_
  obtain rfl:=oI h
  exact bL (aT Tryz.results36)<|eE R im lP iq R R<|dx R<|dN lY
theorem YK {F:Nat} {p0:jd} {r:Int} (h:Ia F p0=some r):aF Tryz.prog 79 [jd.lv p0] (Mem.of []) (.I r) (Mem.of []):=by
  unfold Ia at h
  refine aW Tryz.func79 R (nT Tryz.ntmps79 R)<|LH.ae R (sB<|da R R R R<|aX R zQ)<|LH.seq ?_
  obtain ⟨r1,dI,h⟩:=aa h
  refine LH.ae R (sN<|a7 R im lP iq R R<|sN<|dh Mx (Na dI)<|sN<|dB R zQ) (LH.cd h R (fun gK h=>?_) fun gK h=>?_)
  ·refine LH.ae R (aX R zQ)<|LH.ret<|aA ?_
   obtain rfl:=oI h
   exact ba<|aT Tryz.results79
  refine LH.skip<|ag ?_
  obtain ⟨r3,hr3,h⟩:=aa h
  refine LH.ae R (sN<|av iw b8 dG R R R<|sN<|aS R b8 fh<|sN<|dh My (Nc hr3)<|aX R zQ)<|LH.ret ?_
  obtain rfl:=oI h
  exact ba<|aT Tryz.results79
theorem Rs {F:Nat} {r:Bool} (h:qq F=some r):aF Tryz.prog 30 [] (Mem.of []) (.bool r) (Mem.of []):=by
  unfold qq at h
  refine aW Tryz.func30 R (nT Tryz.ntmps30 R)<|LH.ae R (bK R zQ)<|LH.cM R (sN<|hD (vs:=[(0,.I 1),(1,.I 3)]) RM ud R (lf su aL aw R R R<|lf kI aL aw R R R gZ)<|sN<|ic (f:=aq.lv) (ys:=[(aq.mk 1 3 0 0 0 0)]) ey tZ cm R R R aq.ok<|sN<|hD (vs:=[(0,.I 4),(1,.I 1),(2,.str (ByteArray.mk #[113])),(3,.lst 6 (List.map aq.lv [(aq.mk 1 3 0 0 0 0)]))]) It lX R (lf ei aL aw R R R<|lf gR aL aw R R R<|lf lR NS E6 R R R<|lf dP dG b8 R R R gZ)<|sN<|ib (id:=101) R lX R R<|s_<|cN R R R bm bk R R R<|s0<|zB [1] [101] 101 R) ?_
  obtain ⟨r1,dI,h⟩:=aa h
  refine LH.cK [(2,.sptr [.lst 5 (r1.1.ab.map a8.lv)]),(4,.I r1.2.2)] [] R ?_ ?_
  ·exact sN<|a7 R bm dn bk R R<|sN<|hD (vs:=[(1,.I 1),(2,.agg [.I 4,.I 1,.str (ByteArray.mk #[113]),.lst 6 (List.map aq.lv [(aq.mk 1 3 0 0 0 0)]),.nil])]) NT xF R (lf fv aL aw R R R<|lf fw bk bm R R R gZ)<|sN<|hD (vs:=[(0,.I 1),(2,.I 1)]) UO EU R (lf mz aL aw R R R<|lf gH aL aw R R R gZ)<|sN<|hD (vs:=[(0,.I 4),(1,.I 1)]) z6 z7 R (lf jE aL aw R R R<|lf fq aL aw R R R gZ)<|sN<|hD (vs:=[(0,.agg [.I 1,.I 0,.I 1]),(1,.I 3),(3,.agg [.I 4,.I 1])]) NT xF R (lf ej du dw R R R<|lf fv aL aw R R R<|lf gm eM fj R R R gZ)<|sX (MS (f:=bu.lv) (ys:=[(bu.mk (bJ.mk 0 0 0) 1 (ah.mk 4 1 (ByteArray.mk #[113]) [(aq.mk 1 3 0 0 0 0)] []) (bD.mk 0 0) 0),(bu.mk (bJ.mk 1 0 1) 3 (ah.mk 0 0 (ByteArray.mk #[]) [] []) (bD.mk 4 1) 0)]) my zY eT R R R (XY R R R<|XY R R R okN) (UE (Sub.agg<|bZ<|bZ<|bZ<|bZ<|bZ<|bZ<|bZ<|bZ<|Oo<|bZ<|bZ<|bZ fF)<|UE (Sub.agg<|bZ<|bZ<|bZ<|bZ<|bZ<|bZ<|bZ<|Oo<|Oo<|bZ<|bZ<|bZ fF) fF) bu.ok)<|sN<|dh QP (Rw dI)<|sG R<|sN<|gj R R<|sN<|gj R R<|sN<|gj R R<|sN<|ib (id:=102) R Hb R R<|s_<|cN R R R lD lE R R R<|qV R<|aX R<|s0<|(Wk.trans (zB [2,4] [102] 102 R)<|Wk.eq R R R R)
  obtain ⟨r2,hr2,h⟩:=aa h
  refine LH.ae R (sN<|a7 R lD sm lE R R<|sN<|dh QL (Rn hr2)<|qV R zQ)<|LH.seq<|LH.dF [2,5] 32 ((r1.2.2 != 0) || ((r2.length:Int) != 1)) [] R ?_ ?_
  ·refine aN R<|sN<|iR R R<|bS R ?_
   generalize (r1.2.2 != 0)=bP; cases bP
   ·exact sT R R<|oM (v:=(.lst _ _)) R<|sT R R<|bx (f:=bD.lv) uG R<|sT R R<|iR R R<|sN<|bY R R zS
   ·exact sK<|sN<|df R R zS
  refine LH.cd h R (fun oV h=>?_) fun oV h=>?_
  ·refine LH.ae R (bK R zQ)<|LH.ret<|aA ?_
   obtain rfl:=oI h
   exact ba<|aT Tryz.results30
  refine LH.skip<|ag ?_
  obtain ⟨x6,yO,h⟩:=aa h
  obtain ⟨r7,yf,h⟩:=aa h
  refine LH.lN mixed [] [0,0,0,0,0,0,0,0,2,100106,0] R R (by kernel_rfl) (aI<|a7 R lD sm lE R R ⟨R,nM R<|aI<|dJ (f:=bD.lv) uG fj eM R R bD.ok yO R ⟨R,aI<|a7 R fj sj eM R R ⟨R,aI<|dh QQ (Rq yf) ⟨R,mMt R<|aI<|gj R R ⟨R,aI<|gj R R ⟨R,E2<|ib (id:=106) R lX R R<|mS R R R (fun _ b _ d=>cN R R R bm bk b R R d)<|mAb R<|m0<|Wk.trans (bQ [6,7] [106])<|Wk.dz 106 (ah.lv r7.1).cells R R R<|cv R⟩⟩⟩⟩⟩⟩) ?_
  obtain ⟨r8,SS,h⟩:=aa h
  refine LH.cM R (sN<|a7 R bm dn bk R R<|sN<|ic (f:=ah.lv) (ys:=[r7.1]) fA zX bk R R R ah.ok<|sN<|ic (f:=LV.I) (ys:=[0]) bd nB aL R R R gB<|sN<|dh QN (Rm SS)<|sG R<|sN<|gj R R<|sN<|gj R R<|sN<|ib (id:=108) R uc R R<|s_<|cN R R R im iq R R R<|aX R<|s0<|Wk.trans (bQ [7,8,9] [108])<|Wk.dz 108 (jd.lv r8.1).cells R R R<|cv R) ?_
  obtain ⟨UU,hv,h⟩:=aa h
  refine LH.dF [] 0 UU [] R ?_ ?_
  ·refine bS R<|bS R ?_
   by_cases cP:r7.2=true
   ·replace hv:=bO hv cP
    refine aK cP<|oM (v:=(.int _ _)) R<|aK cP<|gv R R<|sN<|df cP R<|bS R ?_
    by_cases cY:(r8.2 == 0)=true
    ·replace hv:=bO hv cY
     refine aK cY<|a7 R im lP iq R R ?_
     obtain ⟨sD,vT,hv⟩:=aa hv
     refine aK cY<|dh XF (YK vT)<|aK cY<|gv R R<|sN<|df cY R<|bS R ?_
     by_cases cI:(sD == 3)=true
     ·replace hv:=bO hv cI
      refine aK cI<|av uX aw aL R R R<|aK cI<|aS R aw br<|aK cI<|gv R R<|sN<|df cI R<|bS R ?_
      by_cases cw:(r8.1.Code == 2)=true
      ·replace hv:=bO hv cw
       refine aK cw<|av uY aw aL R R R<|aK cw<|aS R aw br<|aK cw<|gv R R<|sN<|df cw R<|bK R ?_
       obtain rfl:=oI hv
       exact zS
      ·replace cw:=bF cw
       replace hv:=bN hv cw
       refine bl cw<|bl cw<|bl cw<|sN<|bY cw R<|bK R ?_
       obtain rfl:=oI hv
       exact zS
     ·replace cI:=bF cI
      replace hv:=bN hv cI
      refine bl cI<|bl cI<|bl cI<|sN<|bY cI R<|bS R<|sK<|sN<|bY R R<|bK R ?_
      obtain rfl:=oI hv
      exact zS
    ·replace cY:=bF cY
     replace hv:=bN hv cY
     refine bl cY<|bl cY<|bl cY<|sN<|bY cY R<|bS R<|sK<|sN<|bY R R<|bS R<|sK<|sN<|bY R R<|bK R ?_
     obtain rfl:=oI hv
     exact zS
   ·replace cP:=bF cP
    replace hv:=bN hv cP
    refine bl cP<|bl cP<|sN<|bY cP R<|bS R<|sK<|sN<|bY R R<|bS R<|sK<|sN<|bY R R<|bS R<|sK<|sN<|bY R R<|bK R ?_
    obtain rfl:=oI hv
    exact zS
  clear hv
  refine LH.ret ?_
  obtain rfl:=oI h
  exact ba<|aT Tryz.results30
theorem Y2 {F:Nat} {p0:Int} {p1:List Int} {r:Bool} (h:zH F p0 p1=some r):aF Tryz.prog 35 [.I p0,.L p1] (Mem.of []) (.bool r) (Mem.of []):=by
  unfold zH at h
  refine aW Tryz.func35 R (nT Tryz.ntmps35 R)<|LH.ae R (bK R zQ)<|LH.seq<|LH.ae R (aX R zQ)<|LH.block<|LH.bW (fun n e m=>∃ (n1:Int),wZ p0 p1 n n1=some r∧e=Env.of [(0,.I p0),(1,.L p1),(5,.I n1)]∧m=Mem.of []) F ⟨0,h,R,R⟩ ?_
  clear h
  rintro n e m ⟨n1,h,rfl,rfl⟩
  rcases n with _ | n
  · exact nX h
  obtain ⟨aE,aC⟩:∃ f,f=wZ p0 p1 n:=⟨_,rfl⟩
  replace h:DN p0 p1 aE n1=some r:=aC ▸ h
  unfold DN at h
  refine LH.seq<|LH.ae R (aN R<|dC R<|sN<|bx (f:=LV.I) bd R<|sN<|dK R R zQ) (LH.cd h R (fun gK h=>?_) fun gK h=>?_)
  ·refine LH.skip<|ag<|LH.seq<|LH.block ?_
   obtain ⟨w4,hv,h⟩:=aa h
   refine LH.eY mixed [] [0,0,0,0,0,0,0,0,0,0,0,0,0,0,0,0,0,0,0,0,0,0,0,0,0,0,0,0,0] [(0,.I p0),(1,.L p1),(5,.I n1),(40,.bool w4)] [] R R (by kernel_rfl) ?_ ?_
   ·refine nM R<|gu R ?_
    obtain ⟨x5,nb,hv⟩:=aa hv
    refine aI<|dJ (f:=LV.I) bd aw aL R R gB nb R ⟨R,aI<|aS R aw br ⟨R,aI<|dK R R ⟨R,qg R ?_⟩⟩⟩
    by_cases bn:(decide (x5<0))=true
    ·replace hv:=bO hv bn
     refine cJ bn<|cJ bn<|cJ bn<|cJ bn<|cJ bn<|cJ bn<|aI<|df bn R ⟨R,qg R<|cJ R<|cJ R<|cJ R<|mU R R<|mU R R<|mU R R<|mU R R<|mU R R<|mU R R<|mU R R<|mU R R<|mU R R<|mU R R<|cJ R<|aI<|df R R ⟨R,?_⟩⟩
     obtain rfl:=oI hv
     exact zM
    ·replace bn:=bF bn
     replace hv:=bN hv bn
     refine mT R (cB bn)<|nM R<|mT R (cB bn)<|gu R ?_
     obtain ⟨x7,yP,hv⟩:=aa hv
     refine mT R (cB bn)<|aI<|dJ (f:=LV.I) bd aw aL R R gB yP R ⟨R,mT R (cB bn)<|aI<|aS R aw br ⟨R,mT R (cB bn)<|gu R<|mT R (cB bn)<|aI<|ot R R ⟨R,aI<|bY bn R ⟨R,qg R ?_⟩⟩⟩⟩
     by_cases cu:(decide (x7 ≥ p0))=true
     ·replace hv:=bO hv cu
      refine cJ cu<|cJ cu<|cJ cu<|mU R R<|mU R R<|mU R R<|mU R R<|mU R R<|mU R R<|mU R R<|mU R R<|mU R R<|mU R R<|cJ cu<|aI<|df cu R ⟨R,?_⟩
      obtain rfl:=oI hv
      exact zM
     ·replace cu:=bF cu
      replace hv:=bN hv cu
      refine mT R (cB cu)<|gu R<|mT R (cB cu)<|aI<|hJ R R ⟨R,mT R (cB cu)<|qg R ?_⟩
      by_cases c7:(decide (n1 > 0))=true
      ·replace hv:=bO hv c7
       refine mT R (cB c7)<|nM R<|mT R (cB c7)<|gu R<|mT R (cB c7)<|aI<|j7 R R ⟨R,?_⟩
       obtain ⟨mI,oJ,hv⟩:=aa hv
       refine mT R (cB c7)<|aI<|dJ (f:=LV.I) bd aw aL R R gB oJ R ⟨R,mT R (cB c7)<|aI<|aS R aw br ⟨R,mT R (cB c7)<|nM R<|mT R (cB c7)<|gu R ?_⟩⟩
       obtain ⟨qa,ph,hv⟩:=aa hv
       refine mT R (cB c7)<|aI<|dJ (f:=LV.I) bd aw aL R R gB ph R ⟨R,mT R (cB c7)<|aI<|aS R aw br ⟨R,mT R (cB c7)<|aI<|ot R R ⟨R,mT R (cB cu)<|aI<|df c7 R ⟨R,aI<|bY cu R ⟨R,?_⟩⟩⟩⟩⟩
       obtain rfl:=oI hv
       exact zM
      ·replace c7:=bF c7
       replace hv:=bN hv c7
       refine cJ c7<|cJ c7<|cJ c7<|cJ c7<|cJ c7<|cJ c7<|cJ c7<|cJ c7<|cJ c7<|cJ c7<|mT R (cB cu)<|aI<|bY c7 R ⟨R,aI<|bY cu R ⟨R,?_⟩⟩
       obtain rfl:=oI hv
       exact zM
   clear hv
   refine LH.cd h R (fun jt h=>?_) fun jt h=>?_
   ·refine LH.ae R (bK R zQ)<|LH.ret<|aU<|aA<|cc<|aU<|aA ?_
    obtain rfl:=oI h
    exact ba<|aT Tryz.results35
   refine LH.skip<|aB<|ag<|LH.aJ R (aN R<|sN<|bw R R<|aX R zQ) ?_
   exact aM ⟨(i64 (n1+1)),aC ▸ h,R,R⟩<|Wk.eq R R R R
  refine LH.exit<|bB<|bc<|aZ<|ag<|LH.ae R (bK R zQ)<|LH.ret ?_
  obtain rfl:=oI h
  exact ba<|aT Tryz.results35
theorem HZ {F:Nat} {p0:jd} {p1:Int} {p2:Int} {r:Int} (h:yu F p0 p1 p2=some r):aF Tryz.prog 85 [jd.lv p0,.I p1,.I p2] (Mem.of []) (.I r) (Mem.of []):=by
  unfold yu at h
  refine aW Tryz.func85 R (nT Tryz.ntmps85 R)<|LH.ae R (sB<|da R R R R<|aX R zQ)<|LH.ae R (aX R zQ)<|LH.seq<|LH.ae R (aX R zQ)<|LH.block<|LH.bW (fun n e m=>∃ (n1:Int) (n2:Int),GN p0 p1 p2 n n1 n2=some r∧e=Env.of [(1,.I p1),(2,.I p2),(3,.sptr (jd.lv p0).cells),(7,.I n1),(8,.I n2)]∧m=Mem.of []) F ⟨0,0,h,R,R⟩ ?_
  clear h
  rintro n e m ⟨n1,n2,h,rfl,rfl⟩
  rcases n with _ | n
  · exact nX h
  obtain ⟨aE,aC⟩:∃ f,f=GN p0 p1 p2 n:=⟨_,rfl⟩
  replace h:Df p0 p1 p2 aE n1 n2=some r:=aC ▸ h
  unfold Df at h
  refine LH.seq<|LH.ae R (aN R<|sN<|av iw b8 dG R R R<|sN<|aS R b8 fh<|sN<|bx (f:=aq.lv) ey R<|sN<|dK R R zQ) (LH.cd h R (fun mn h=>?_) fun mn h=>?_)
  ·refine LH.skip<|ag<|LH.seq<|LH.block ?_
   obtain ⟨w5,hv,h⟩:=aa h
   refine LH.dF [1,2,3,7,8] 41 w5 [] R ?_ ?_
   ·refine aN R<|sN<|dK R R<|bS R ?_
    by_cases bn:(decide (p1<0))=true
    ·replace hv:=bO hv bn
     refine bl bn<|bl bn<|bl bn<|bl bn<|bl bn<|bl bn<|bl bn<|bl bn<|sN<|df bn R<|bS R<|sT R R<|oM (v:=(.int _ _)) R<|sT R R<|dK R R<|sT R R<|oM (v:=(.bool _)) R ?_
     by_cases cg:(decide (p2<0))=true
     ·replace hv:=bO hv cg
      refine bl cg<|bl cg<|bl cg<|bl cg<|bl cg<|bl cg<|bl cg<|bl cg<|sT R R<|df cg R<|sN<|df R R ?_
      obtain rfl:=oI hv
      exact zS
     ·replace cg:=bF cg
      replace hv:=bN hv cg
      refine aK cg<|av iw b8 dG R R R<|aK cg<|aS R b8 fh<|aK cg<|oM (v:=(.int _ _)) R ?_
      obtain ⟨x8,Ck,hv⟩:=aa hv
      refine aK cg<|dJ (f:=aq.lv) ey cR cm R R aq.ok Ck R<|aK cg<|av oa aw aL R R R<|aK cg<|aS R aw br<|aK cg<|oM (v:=(.int _ _)) R<|aK cg<|gv R R<|sT R R<|bY cg R<|sN<|df R R ?_
      obtain rfl:=oI hv
      exact zS
    ·replace bn:=bF bn
     replace hv:=bN hv bn
     refine aK bn<|av iw b8 dG R R R<|aK bn<|aS R b8 fh<|aK bn<|oM (v:=(.int _ _)) R ?_
     obtain ⟨x9,rM,hv⟩:=aa hv
     refine aK bn<|dJ (f:=aq.lv) ey cR cm R R aq.ok rM R<|aK bn<|av p5 aw aL R R R<|aK bn<|aS R aw br<|aK bn<|oM (v:=(.int _ _)) R<|aK bn<|gv R R<|sN<|bY bn R<|bS R ?_
     by_cases dj:(x9.fx == p1)=true
     ·replace hv:=bO hv dj
      refine aK dj<|oM (v:=(.int _ _)) R<|aK dj<|dK R R<|aK dj<|oM (v:=(.bool _)) R ?_
      by_cases cP:(decide (p2<0))=true
      ·replace hv:=bO hv cP
       refine bl cP<|bl cP<|bl cP<|bl cP<|bl cP<|bl cP<|bl cP<|bl cP<|aK dj<|df cP R<|sN<|df dj R ?_
       obtain rfl:=oI hv
       exact zS
      ·replace cP:=bF cP
       replace hv:=bN hv cP
       refine aK cP<|av iw b8 dG R R R<|aK cP<|aS R b8 fh<|aK cP<|oM (v:=(.int _ _)) R ?_
       obtain ⟨kb,ux,hv⟩:=aa hv
       refine aK cP<|dJ (f:=aq.lv) ey cR cm R R aq.ok ux R<|aK cP<|av oa aw aL R R R<|aK cP<|aS R aw br<|aK cP<|oM (v:=(.int _ _)) R<|aK cP<|gv R R<|aK dj<|bY cP R<|sN<|df dj R ?_
       obtain rfl:=oI hv
       exact zS
     ·replace dj:=bF dj
      replace hv:=bN hv dj
      refine bl dj<|bl dj<|bl dj<|sU R R<|sU R R<|sU R R<|sU R R<|sU R R<|sU R R<|sU R R<|sU R R<|bl dj<|sN<|bY dj R ?_
      obtain rfl:=oI hv
      exact zS
   clear hv
   refine LH.cd h R (fun mj h=>?_) fun mj h=>?_
   ·obtain ⟨e7,FU,h⟩:=aa h
    refine LH.aJ R (aN R<|sN<|av iw b8 dG R R R<|sN<|aS R b8 fh<|aN R<|sN<|dJ (f:=aq.lv) ey cR cm R R aq.ok FU R<|sN<|av kI aw aL R R R<|sN<|aS R aw br<|sN<|bw R R<|aX R zQ)<|aB<|ag<|LH.aJ R (aN R<|sN<|bw R R<|aX R zQ) ?_
    exact aM ⟨(i64 (n1+e7.Max)),(i64 (n2+1)),aC ▸ h,R,R⟩<|Wk.eq R R R R
   refine LH.skip<|aB<|ag<|LH.aJ R (aN R<|sN<|bw R R<|aX R zQ) ?_
   exact aM ⟨n1,(i64 (n2+1)),aC ▸ h,R,R⟩<|Wk.eq R R R R
  refine LH.exit<|bB<|bc<|aZ<|ag<|LH.ae R (aN R<|aX R zQ)<|LH.ret ?_
  obtain rfl:=oI h
  exact ba<|aT Tryz.results85
set_option maxHeartbeats 4000000 in
theorem YV {F:Nat} {p0:fG} {p1:List ah} {p2:List Int} {p3:jd} {r:Bool} (h:zx F p0 p1 p2 p3=some r):aF Tryz.prog 38 [.agg [.I p0.cD,.I p0.c6,.I p0.aY,.I p0.bh,.lst 3 (p0.b5.map bM.lv),.lst 3 (p0.aR.map bM.lv),.L p0.cV,.lst 2 (p0.bC.map bA.lv),.I p0.aV],.lst 5 (p1.map ah.lv),.L p2,jd.lv p3] (Mem.of []) (.bool r) (Mem.of []):=by
  unfold zx at h
  refine aW Tryz.func38 R (nT Tryz.ntmps38 R)<|LH.ae R (sB<|da R R R R<|sB<|da R R R R<|bK R zQ)<|LH.seq ?_
  obtain ⟨w2,hv,h⟩:=aa h
  refine LH.eY mixed [] [0,0,0,0,0,0,0,0,0,0,0,0,0,0,0,0,0,0,0,0,0,0,0,0,0,0] [(1,.lst 5 (p1.map ah.lv)),(2,.L p2),(4,.sptr [.I p0.cD,.I p0.c6,.I p0.aY,.I p0.bh,.lst 3 (p0.b5.map bM.lv),.lst 3 (p0.aR.map bM.lv),.L p0.cV,.lst 2 (p0.bC.map bA.lv),.I p0.aV]),(7,.sptr (jd.lv p3).cells),(40,.bool w2)] [] R R (by kernel_rfl) ?_ ?_
  ·refine nM R<|aI<|bx (f:=LV.I) bd R ⟨R,aI<|av tu aw aL R R R ⟨R,aI<|aS R aw br ⟨R,aI<|dK R R ⟨R,qg R ?_⟩⟩⟩⟩
   by_cases hb3:(decide ((p2.length:Int)<p0.cD))=true
   ·replace hv:=bO hv hb3
    refine cJ hb3<|cJ hb3<|cJ hb3<|cJ hb3<|cJ hb3<|aI<|df hb3 R ⟨R,qg R<|cJ R<|cJ R<|cJ R<|cJ R<|cJ R<|aI<|df R R ⟨R,qg R<|cJ R<|cJ R<|cJ R<|cJ R<|cJ R<|aI<|df R R ⟨R,?_⟩⟩⟩
    obtain rfl:=oI hv
    exact zM
   ·replace hb3:=bF hb3
    replace hv:=bN hv hb3
    refine mT R (cB hb3)<|nM R<|mT R (cB hb3)<|aI<|bx (f:=LV.I) bd R ⟨R,mT R (cB hb3)<|aI<|av xv aw aL R R R ⟨R,mT R (cB hb3)<|aI<|aS R aw br ⟨R,mT R (cB hb3)<|aI<|hJ R R ⟨R,aI<|bY hb3 R ⟨R,qg R ?_⟩⟩⟩⟩⟩
    by_cases bP:(decide ((p2.length:Int) > p0.c6))=true
    ·replace hv:=bO hv bP
     refine cJ bP<|cJ bP<|cJ bP<|cJ bP<|cJ bP<|aI<|df bP R ⟨R,qg R<|cJ R<|cJ R<|cJ R<|cJ R<|cJ R<|aI<|df R R ⟨R,?_⟩⟩
     obtain rfl:=oI hv
     exact zM
    ·replace bP:=bF bP
     replace hv:=bN hv bP
     refine mT R (cB bP)<|aI<|a7 R im lP iq R R ⟨R,?_⟩
     obtain ⟨r5,qK,hv⟩:=aa hv
     refine mT R (cB bP)<|aI<|dh HG (HZ qK) ⟨R,mT R (cB bP)<|aI<|av Bb aw aL R R R ⟨R,mT R (cB bP)<|aI<|aS R aw br ⟨R,mT R (cB bP)<|aI<|dK R R ⟨R,aI<|bY bP R ⟨R,qg R ?_⟩⟩⟩⟩⟩
     by_cases bn:(decide (r5<p0.aY))=true
     ·replace hv:=bO hv bn
      refine cJ bn<|cJ bn<|cJ bn<|cJ bn<|cJ bn<|aI<|df bn R ⟨R,?_⟩
      obtain rfl:=oI hv
      exact zM
     ·replace bn:=bF bn
      replace hv:=bN hv bn
      refine mT R (cB bn)<|aI<|a7 R im lP iq R R ⟨R,?_⟩
      obtain ⟨r7,yf,hv⟩:=aa hv
      refine mT R (cB bn)<|aI<|dh HG (HZ yf) ⟨R,mT R (cB bn)<|aI<|av xw aw aL R R R ⟨R,mT R (cB bn)<|aI<|aS R aw br ⟨R,mT R (cB bn)<|aI<|hJ R R ⟨R,aI<|bY bn R ⟨R,?_⟩⟩⟩⟩⟩
      obtain rfl:=oI hv
      exact zM
  clear hv
  refine LH.cd h R (fun oF h=>?_) fun oF h=>?_
  ·refine LH.ae R (bK R zQ)<|LH.ret<|aA ?_
   obtain rfl:=oI h
   exact ba<|aT Tryz.results38
  refine LH.skip<|ag<|LH.seq<|LH.ae R (aX R zQ)<|LH.block<|LH.bW (fun n e m=>∃ (n9:Int),wS F p0 p1 p2 p3 n n9=some r∧e=Env.of [(1,.lst 5 (p1.map ah.lv)),(2,.L p2),(4,.sptr [.I p0.cD,.I p0.c6,.I p0.aY,.I p0.bh,.lst 3 (p0.b5.map bM.lv),.lst 3 (p0.aR.map bM.lv),.L p0.cV,.lst 2 (p0.bC.map bA.lv),.I p0.aV]),(7,.sptr (jd.lv p3).cells),(9,.I n9)]∧m=Mem.of []) F ⟨0,h,R,R⟩ ?_
  clear h
  rintro n e m ⟨n9,h,rfl,rfl⟩
  rcases n with _ | n
  · exact nX h
  obtain ⟨aE,aC⟩:∃ f,f=wS F p0 p1 p2 p3 n:=⟨_,rfl⟩
  replace h:Du F p0 p1 p2 p3 aE n9=some r:=aC ▸ h
  unfold Du at h
  refine LH.seq<|LH.ae R (aN R<|sN<|av lp fk jT R R R<|sN<|aS R fk oS<|sN<|bx (f:=bM.lv) jx R<|sN<|dK R R zQ) (LH.cd h R (fun jf h=>?_) fun jf h=>?_)
  ·refine LH.skip<|ag<|LH.seq<|LH.block ?_
   obtain ⟨qa,ph,h⟩:=aa h
   obtain ⟨jU,vS,h⟩:=aa h
   refine LH.lN mixed [] [0,0,0,0,0,0,0,0,0] R R (by kernel_rfl) (aI<|a7 R im lP iq R R ⟨R,aI<|av lp fk jT R R R ⟨R,aI<|aS R fk oS ⟨R,gu R<|aI<|dJ (f:=bM.lv) jx jl fM R R bM.ok ph R ⟨R,aI<|av iy aw aL R R R ⟨R,aI<|aS R aw br ⟨R,aI<|dh HG (HZ vS) ⟨R,Kf R zV⟩⟩⟩⟩⟩⟩⟩) ?_
   obtain ⟨N3,hv,h⟩:=aa h
   refine LH.dF [1,2,4,7,9] 73 N3 [] R ?_ ?_
   ·refine aN R<|sN<|av lp fk jT R R R<|sN<|aS R fk oS<|aN R ?_
    obtain ⟨Bc,AF,hv⟩:=aa hv
    refine sN<|dJ (f:=bM.lv) jx jl fM R R bM.ok AF R<|sN<|av lT aw aL R R R<|sN<|aS R aw br<|sN<|dK R R<|bS R ?_
    by_cases iW:(decide (jU<Bc.bE))=true
    ·obtain rfl:=oI (bO hv iW)
     rw [iW]; exact zA
    ·replace iW:=bF iW
     replace hv:=bN hv iW
     refine aK iW<|oM (v:=(.int _ _)) R<|aK iW<|av lp fk jT R R R<|aK iW<|aS R fk oS<|aK iW<|oM (v:=(.int _ _)) R ?_
     obtain ⟨jn,oK,hv⟩:=aa hv
     refine aK iW<|dJ (f:=bM.lv) jx jl fM R R bM.ok oK R<|aK iW<|av kJ aw aL R R R<|aK iW<|aS R aw br<|aK iW<|hJ R R<|sN<|bY iW R ?_
     obtain rfl:=oI hv
     exact zS
   clear hv
   refine LH.cd h R (fun sW h=>?_) fun sW h=>?_
   ·refine LH.ae R (bK R zQ)<|LH.ret<|aU<|aA<|cc<|aU<|aA ?_
    obtain rfl:=oI h
    exact ba<|aT Tryz.results38
   refine LH.skip<|aB<|ag<|LH.aJ R (aN R<|sN<|bw R R<|aX R zQ) ?_
   exact aM ⟨(i64 (n9+1)),aC ▸ h,R,R⟩<|Wk.eq R R R R
  refine LH.exit<|bB<|bc<|aZ<|ag<|LH.seq<|LH.ae R (aX R zQ)<|LH.block<|LH.bW (fun n e m=>∃ (n19:Int),wT F p0 p1 p2 p3 n n19=some r∧e=Env.of [(1,.lst 5 (p1.map ah.lv)),(2,.L p2),(4,.sptr [.I p0.cD,.I p0.c6,.I p0.aY,.I p0.bh,.lst 3 (p0.b5.map bM.lv),.lst 3 (p0.aR.map bM.lv),.L p0.cV,.lst 2 (p0.bC.map bA.lv),.I p0.aV]),(7,.sptr (jd.lv p3).cells),(11,.I n19)]∧m=Mem.of []) F ⟨0,h,R,R⟩ ?_
  clear h
  rintro n e m ⟨n19,h,rfl,rfl⟩
  rcases n with _ | n
  · exact nX h
  obtain ⟨dU,dR⟩:∃ f,f=wT F p0 p1 p2 p3 n:=⟨_,rfl⟩
  replace h:Dv F p0 p1 p2 p3 dU n19=some r:=dR ▸ h
  unfold Dv at h
  refine LH.seq<|LH.ae R (aN R<|sN<|av lq fk jT R R R<|sN<|aS R fk oS<|sN<|bx (f:=bM.lv) jx R<|sN<|dK R R zQ) (LH.cd h R (fun qe h=>?_) fun qe h=>?_)
  ·refine LH.skip<|ag<|LH.seq<|LH.block ?_
   obtain ⟨E7,L6,h⟩:=aa h
   obtain ⟨sa,AD,h⟩:=aa h
   refine LH.lN mixed [] [0,0,0,0,0,0,0,0,0] R R (by kernel_rfl) (aI<|a7 R im lP iq R R ⟨R,aI<|av lq fk jT R R R ⟨R,aI<|aS R fk oS ⟨R,gu R<|aI<|dJ (f:=bM.lv) jx jl fM R R bM.ok L6 R ⟨R,aI<|av iy aw aL R R R ⟨R,aI<|aS R aw br ⟨R,aI<|dh HG (HZ AD) ⟨R,Kf R zV⟩⟩⟩⟩⟩⟩⟩) ?_
   obtain ⟨UW,hv,h⟩:=aa h
   refine LH.dF [1,2,4,7,11] 106 UW [] R ?_ ?_
   ·refine aN R<|sN<|av lq fk jT R R R<|sN<|aS R fk oS<|aN R ?_
    obtain ⟨Hc,Cj,hv⟩:=aa hv
    refine sN<|dJ (f:=bM.lv) jx jl fM R R bM.ok Cj R<|sN<|av lT aw aL R R R<|sN<|aS R aw br<|sN<|dK R R<|bS R ?_
    by_cases rD:(decide (sa<Hc.bE))=true
    ·obtain rfl:=oI (bO hv rD)
     rw [rD]; exact zA
    ·replace rD:=bF rD
     replace hv:=bN hv rD
     refine aK rD<|oM (v:=(.int _ _)) R<|aK rD<|av lq fk jT R R R<|aK rD<|aS R fk oS<|aK rD<|oM (v:=(.int _ _)) R ?_
     obtain ⟨UY,Tc,hv⟩:=aa hv
     refine aK rD<|dJ (f:=bM.lv) jx jl fM R R bM.ok Tc R<|aK rD<|av kJ aw aL R R R<|aK rD<|aS R aw br<|aK rD<|hJ R R<|sN<|bY rD R ?_
     obtain rfl:=oI hv
     exact zS
   clear hv
   refine LH.cd h R (fun aa2 h=>?_) fun aa2 h=>?_
   ·refine LH.ae R (bK R zQ)<|LH.ret<|aU<|aA<|cc<|aU<|aA ?_
    obtain rfl:=oI h
    exact ba<|aT Tryz.results38
   refine LH.skip<|aB<|ag<|LH.aJ R (aN R<|sN<|bw R R<|aX R zQ) ?_
   exact aM ⟨(i64 (n19+1)),dR ▸ h,R,R⟩<|Wk.eq R R R R
  refine LH.exit<|bB<|bc<|aZ<|ag<|LH.seq<|LH.ae R (aX R zQ)<|LH.block<|LH.bW (fun n e m=>∃ (n29:Int),AY F p1 p2 n n29=some r∧e=Env.of [(1,.lst 5 (p1.map ah.lv)),(2,.L p2),(13,.I n29)]∧m=Mem.of []) F ⟨0,h,R,R⟩ ?_
  clear h
  rintro n e m ⟨n29,h,rfl,rfl⟩
  rcases n with _ | n
  · exact nX h
  obtain ⟨fH,fV⟩:∃ f,f=AY F p1 p2 n:=⟨_,rfl⟩
  replace h:Dw F p1 p2 fH n29=some r:=fV ▸ h
  unfold Dw at h
  refine LH.seq<|LH.ae R (aN R<|dC R<|sN<|bx (f:=LV.I) bd R<|sN<|dK R R zQ) (LH.cd h R (fun rE h=>?_) fun rE h=>?_)
  ·refine LH.skip<|ag<|LH.seq<|LH.block<|LH.ae R (aX R zQ)<|LH.block<|LH.bW (fun n e m=>∃ (n31:Int),wU fH F p1 p2 n29 n n31=some r∧e=Env.of [(1,.lst 5 (p1.map ah.lv)),(2,.L p2),(13,.I n29),(14,.I n31)]∧m=Mem.of []) F ⟨0,h,R,R⟩ ?_
   clear h
   rintro n e m ⟨n31,h,rfl,rfl⟩
   rcases n with _ | n
   · exact nX h
   obtain ⟨lC,tL⟩:∃ f,f=wU fH F p1 p2 n29 n:=⟨_,rfl⟩
   replace h:Dx fH F p1 p2 n29 lC n31=some r:=tL ▸ h
   unfold Dx at h
   refine LH.seq<|LH.ae R (aN R<|aN R<|sN<|dK R R zQ) (LH.cd h R (fun Au h=>?_) fun Au h=>?_)
   ·refine LH.skip<|ag<|LH.seq<|LH.block ?_
    obtain ⟨w34,hv,h⟩:=aa h
    refine LH.eY mixed [] [0,0,0,0,0,0,0,0,0,0,0,0,0,0,0,0,0,0,0,0,0,0,0,0,0,0,0,0,0,0,0,0,0,0] [(1,.lst 5 (p1.map ah.lv)),(2,.L p2),(13,.I n29),(14,.I n31),(151,.bool w34)] [] R R (by kernel_rfl) ?_ ?_
    ·refine nM R<|nM R<|gu R ?_
     obtain ⟨x35,acY,hv⟩:=aa hv
     refine aI<|dJ (f:=LV.I) bd aw aL R R gB acY R ⟨R,aI<|aS R aw br ⟨R,?_⟩⟩
     obtain ⟨Vz,O5,hv⟩:=aa hv
     refine aI<|dJ (f:=ah.lv) fA bm bk R R ah.ok O5 R ⟨R,aI<|av ei aw aL R R R ⟨R,aI<|aS R aw br ⟨R,nM R<|nM R<|gu R ?_⟩⟩⟩
     obtain ⟨ZN,Td,hv⟩:=aa hv
     refine aI<|dJ (f:=LV.I) bd aw aL R R gB Td R ⟨R,aI<|aS R aw br ⟨R,?_⟩⟩
     obtain ⟨U0,Te,hv⟩:=aa hv
     refine aI<|dJ (f:=ah.lv) fA bm bk R R ah.ok Te R ⟨R,aI<|av ei aw aL R R R ⟨R,aI<|aS R aw br ⟨R,aI<|gv R R ⟨R,qg R ?_⟩⟩⟩⟩
     by_cases gp:(Vz.ID == U0.ID)=true
     ·replace hv:=bO hv gp
      refine cJ gp<|cJ gp<|cJ gp<|cJ gp<|cJ gp<|cJ gp<|cJ gp<|cJ gp<|cJ gp<|cJ gp<|cJ gp<|cJ gp<|cJ gp<|cJ gp<|cJ gp<|aI<|df gp R ⟨R,?_⟩
      obtain rfl:=oI hv
      exact zM
     ·replace gp:=bF gp
      replace hv:=bN hv gp
      refine mT R (cB gp)<|nM R<|mT R (cB gp)<|nM R<|mT R (cB gp)<|gu R ?_
      obtain ⟨VA,O6,hv⟩:=aa hv
      refine mT R (cB gp)<|aI<|dJ (f:=LV.I) bd aw aL R R gB O6 R ⟨R,mT R (cB gp)<|aI<|aS R aw br ⟨R,?_⟩⟩
      obtain ⟨x41,O7,hv⟩:=aa hv
      refine mT R (cB gp)<|aI<|dJ (f:=ah.lv) fA bm bk R R ah.ok O7 R ⟨R,mT R (cB gp)<|aI<|a7 R bm dn bk R R ⟨R,mT R (cB gp)<|nM R<|mT R (cB gp)<|nM R<|mT R (cB gp)<|gu R ?_⟩⟩
      obtain ⟨x42,O8,hv⟩:=aa hv
      refine mT R (cB gp)<|aI<|dJ (f:=LV.I) bd aw aL R R gB O8 R ⟨R,mT R (cB gp)<|aI<|aS R aw br ⟨R,?_⟩⟩
      obtain ⟨ZO,O9,hv⟩:=aa hv
      refine mT R (cB gp)<|aI<|dJ (f:=ah.lv) fA bm bk R R ah.ok O9 R ⟨R,mT R (cB gp)<|aI<|a7 R bm dn bk R R ⟨R,?_⟩⟩
      obtain ⟨E5,LS,hv⟩:=aa hv
      refine mT R (cB gp)<|aI<|dh QT (Rv LS) ⟨R,aI<|bY gp R ⟨R,?_⟩⟩
      obtain rfl:=oI hv
      exact zM
    clear hv
    refine LH.cd h R (fun Sq h=>?_) fun Sq h=>?_
    ·refine LH.ae R (bK R zQ)<|LH.ret<|aU<|aA<|cc<|aU<|aU<|aA<|cc<|aU<|aA ?_
     obtain rfl:=oI h
     exact ba<|aT Tryz.results38
    refine LH.skip<|aB<|ag<|LH.aJ R (aN R<|sN<|bw R R<|aX R zQ) ?_
    exact aM ⟨(i64 (n31+1)),tL ▸ h,R,R⟩<|Wk.eq R R R R
   refine LH.exit<|bB<|bc<|aZ<|aB<|ag<|LH.aJ R (aN R<|sN<|bw R R<|aX R zQ) ?_
   exact aM ⟨(i64 (n29+1)),fV ▸ h,R,R⟩<|Wk.eq R R R R
  refine LH.exit<|bB<|bc<|aZ<|ag<|LH.ae R (bK R zQ)<|LH.ret ?_
  obtain rfl:=oI h
  exact ba<|aT Tryz.results38
theorem Q6 {F:Nat} {p0:List Int} {p1:Int} {r:Bool} (h:GJ F p0 p1=some r):aF Tryz.prog 150 [.L p0,.I p1] (Mem.of []) (.bool r) (Mem.of []):=by
  unfold GJ at h
  refine aW Tryz.func150 R (nT Tryz.ntmps150 R)<|LH.ae R (bK R zQ)<|LH.seq<|LH.ae R (dC R<|sN<|bx (f:=LV.I) bd R<|aN R zQ)<|LH.block<|LH.bW (fun n e m=>∃ (n1:Int),Gp p0 p1 n n1=some r∧e=Env.of [(0,.L p0),(1,.I p1),(7,.L p0),(8,.I (p0.length:Int)),(9,.I n1)]∧m=Mem.of []) F ⟨0,h,R,R⟩ ?_
  clear h
  rintro n e m ⟨n1,h,rfl,rfl⟩
  rcases n with _ | n
  · exact nX h
  obtain ⟨aE,aC⟩:∃ f,f=Gp p0 p1 n:=⟨_,rfl⟩
  replace h:CJ p0 p1 aE n1=some r:=aC ▸ h
  unfold CJ at h
  refine LH.ae R (sN<|dK R R zQ)<|LH.seq (LH.cd h R (fun gK h=>?_) fun gK h=>?_)
  ·refine LH.skip<|ag<|LH.seq<|LH.block ?_
   obtain ⟨x3,fo,h⟩:=aa h
   refine LH.ae R (aN R<|sN<|dJ (f:=LV.I) bd aw aL R R gB fo R<|sN<|aS R aw br<|aX R<|aX R zQ) ?_
   obtain ⟨w5,hv,h⟩:=aa h
   refine LH.dF [0,1,7,8,9] 33 w5 [] R ?_ ?_
   ·refine aN R<|sN<|dK R R<|bS R ?_
    by_cases bn:(decide (x3<0))=true
    ·obtain rfl:=oI (bO hv bn)
     rw [bn]; exact zA
    ·replace bn:=bF bn
     replace hv:=bN hv bn
     refine aK bn<|oM (v:=(.int _ _)) R<|aK bn<|oM (v:=(.int _ _)) R<|aK bn<|ot R R<|sN<|bY bn R<|bS R ?_
     by_cases cg:(decide (x3 ≥ p1))=true
     ·obtain rfl:=oI (bO hv cg)
      rw [cg]; exact zA
     ·replace cg:=bF cg
      replace hv:=bN hv cg
      refine aK cg<|oM (v:=(.int _ _)) R<|aK cg<|hJ R R<|aK cg<|oM (v:=(.bool _)) R ?_
      by_cases cu:(decide (n1 > 0))=true
      ·replace hv:=bO hv cu
       refine aK cu<|oM (v:=(.lst _ _)) R<|aK cu<|oM (v:=(.int _ _)) R<|aK cu<|j7 R R ?_
       obtain ⟨x9,rM,hv⟩:=aa hv
       refine aK cu<|dJ (f:=LV.I) bd aw aL R R gB rM R<|aK cu<|aS R aw br<|aK cu<|oM (v:=(.int _ _)) R<|aK cu<|ot R R<|aK cg<|df cu R<|sN<|bY cg R ?_
       obtain rfl:=oI hv
       exact zS
      ·replace cu:=bF cu
       replace hv:=bN hv cu
       refine bl cu<|bl cu<|bl cu<|bl cu<|bl cu<|bl cu<|bl cu<|aK cg<|bY cu R<|sN<|bY cg R ?_
       obtain rfl:=oI hv
       exact zS
   clear hv
   refine LH.cd h R (fun jf h=>?_) fun jf h=>?_
   ·refine LH.ae R (bK R zQ)<|LH.ret<|aU<|aA<|cc<|aU<|aA ?_
    obtain rfl:=oI h
    exact ba<|aT Tryz.results150
   refine LH.skip<|aB<|ag<|LH.aJ R (sN<|bw R R<|aN R zQ) ?_
   exact aM ⟨(i64 (n1+1)),aC ▸ h,R,R⟩<|Wk.eq R R R R
  refine LH.exit<|bB<|bc<|aZ<|ag<|LH.ae R (bK R zQ)<|LH.ret ?_
  obtain rfl:=oI h
  exact ba<|aT Tryz.results150
theorem Re {F:Nat} {p0:List Int} {p1:List Int} {r:Int} (h:wL F p0 p1=some r):aF Tryz.prog 151 [.L p0,.L p1] (Mem.of []) (.I r) (Mem.of []):=by
  unfold wL at h
  refine aW Tryz.func151 R (nT Tryz.ntmps151 R)<|LH.ae R (aX R zQ)<|LH.ae R (aX R zQ)<|LH.seq<|LH.ae R (dC R<|sN<|bx (f:=LV.I) bd R<|aN R zQ)<|LH.block<|LH.bW (fun n e m=>∃ (n1:Int) (n2:Int),Gu p0 p1 n n1 n2=some r∧e=Env.of [(0,.L p0),(5,.I n1),(8,.L p1),(9,.I (p1.length:Int)),(10,.I n2)]∧m=Mem.of []) F ⟨0,0,h,R,R⟩ ?_
  clear h
  rintro n e m ⟨n1,n2,h,rfl,rfl⟩
  rcases n with _ | n
  · exact nX h
  obtain ⟨aE,aC⟩:∃ f,f=Gu p0 p1 n:=⟨_,rfl⟩
  replace h:CQ p0 p1 aE n1 n2=some r:=aC ▸ h
  unfold CQ at h
  refine LH.ae R (sN<|dK R R zQ)<|LH.seq (LH.cd h R (fun mn h=>?_) fun mn h=>?_)
  ·refine LH.skip<|ag<|LH.seq<|LH.block ?_
   obtain ⟨x4,AG,h⟩:=aa h
   refine LH.ae R (sN<|dJ (f:=LV.I) bd aw aL R R gB AG R<|sN<|aS R aw br<|aX R zQ) ?_
   obtain ⟨x5,nb,h⟩:=aa h
   refine LH.aJ R (aN R<|dC R<|aN R<|sN<|dJ (f:=LV.I) bd aw aL R R gB nb R<|sN<|aS R aw br<|sN<|bw R R<|aX R zQ)<|aB<|ag<|LH.aJ R (sN<|bw R R<|aN R zQ) ?_
   exact aM ⟨(i64 (n1+x5)),(i64 (n2+1)),aC ▸ h,R,R⟩<|Wk.eq R R R R
  refine LH.exit<|bB<|bc<|aZ<|ag<|LH.ae R (aN R<|aX R zQ)<|LH.ret ?_
  obtain rfl:=oI h
  exact ba<|aT Tryz.results151
theorem YP {F:Nat} {p0:cZ} {p1:List Int} {r:Int × Bool} (h:D4 F p0 p1=some r):aF Tryz.prog 87 [.agg [.L p0.aj,.lst 3 (p0.Rows.map ar.lv)],.L p1] (Mem.of []) (.tup [.I r.1,.bool r.2]) (Mem.of []):=by
  unfold D4 at h
  refine aW Tryz.func87 R (nT Tryz.ntmps87 R)<|LH.ae R (sB<|da R R R R<|aX R<|bK R zQ)<|LH.seq ?_
  obtain ⟨w2,hv,h⟩:=aa h
  refine LH.dF [1,2] 16 w2 [] R ?_ ?_
  ·refine sN<|a7 R e9 gG fa R R ?_
   obtain ⟨r3,hr3,hv⟩:=aa hv
   refine sN<|dh rP (AT hr3)<|sN<|dB R<|bS R ?_
   by_cases bP:(!r3)=true
   ·obtain rfl:=oI (bO hv bP)
    rw [bP]; exact zA
   ·replace bP:=bF bP
    replace hv:=bN hv bP
    refine aK bP<|oM (v:=(.lst _ _)) R<|aK bP<|av fB bj cC R R R<|aK bP<|aS R bj dr<|aK bP<|bx (f:=LV.I) bd R ?_
    obtain ⟨r5,qK,hv⟩:=aa hv
    refine aK bP<|dh Mi (Q6 qK)<|aK bP<|dB R<|sN<|bY bP R ?_
    obtain rfl:=oI hv
    exact zS
  clear hv
  refine LH.cd h R (fun lz h=>?_) fun lz h=>?_
  ·refine LH.ae R (aX R<|bK R zQ)<|LH.ret<|aA ?_
   obtain rfl:=oI h
   exact bL (aT Tryz.results87)<|dx R<|dx R<|dN lY
  refine LH.skip<|ag ?_
  obtain ⟨r7,yf,h⟩:=aa h
  refine LH.ae R (sN<|av fB bj cC R R R<|sN<|aS R bj dr<|dC R<|sN<|dh Mj (Re yf)<|aX R<|bK R zQ)<|LH.ret ?_
  obtain rfl:=oI h
  exact bL (aT Tryz.results87)<|dx R<|dx R<|dN lY
theorem YJ {F:Nat} {p0:cZ} {p1:List Int} {r:Bool} (h:DZ F p0 p1=some r):aF Tryz.prog 88 [.agg [.L p0.aj,.lst 3 (p0.Rows.map ar.lv)],.L p1] (Mem.of []) (.bool r) (Mem.of []):=by
  unfold DZ at h
  refine aW Tryz.func88 R (nT Tryz.ntmps88 R)<|LH.ae R (sB<|da R R R R<|bK R zQ)<|LH.seq ?_
  obtain ⟨w2,hv,h⟩:=aa h
  refine LH.dF [1,2] 18 w2 [] R ?_ ?_
  ·refine sN<|a7 R e9 gG fa R R ?_
   obtain ⟨r3,hr3,hv⟩:=aa hv
   refine sN<|dh rP (AT hr3)<|sN<|dB R<|bS R ?_
   by_cases bP:(!r3)=true
   ·obtain rfl:=oI (bO hv bP)
    rw [bP]; exact zA
   ·replace bP:=bF bP
    replace hv:=bN hv bP
    refine aK bP<|oM (v:=(.lst _ _)) R<|aK bP<|av fB bj cC R R R<|aK bP<|aS R bj dr<|aK bP<|bx (f:=LV.I) bd R ?_
    obtain ⟨r5,qK,hv⟩:=aa hv
    refine aK bP<|dh Mi (Q6 qK)<|aK bP<|dB R<|sN<|bY bP R ?_
    obtain rfl:=oI hv
    exact zS
  clear hv
  refine LH.cd h R (fun lz h=>?_) fun lz h=>?_
  ·refine LH.ae R (bK R zQ)<|LH.ret<|aA ?_
   obtain rfl:=oI h
   exact ba<|aT Tryz.results88
  refine LH.skip<|ag<|LH.seq<|LH.ae R (sN<|av fC fm kK R R R<|sN<|aS R fm nS<|sN<|bx (f:=ar.lv) hY R<|aN R zQ)<|LH.block<|LH.bW (fun n e m=>∃ (n7:Int),GH F p0 p1 n n7=some r∧e=Env.of [(1,.L p1),(20,.lst 3 (p0.Rows.map ar.lv)),(21,.I (p0.Rows.length:Int)),(22,.I n7)]∧m=Mem.of []) F ⟨0,h,R,R⟩ ?_
  clear h
  rintro n e m ⟨n7,h,rfl,rfl⟩
  rcases n with _ | n
  · exact nX h
  obtain ⟨aE,aC⟩:∃ f,f=GH F p0 p1 n:=⟨_,rfl⟩
  replace h:C9 F p0 p1 aE n7=some r:=aC ▸ h
  unfold C9 at h
  refine LH.ae R (sN<|dK R R zQ)<|LH.seq (LH.cd h R (fun oF h=>?_) fun oF h=>?_)
  ·refine LH.skip<|ag<|LH.seq<|LH.block ?_
   obtain ⟨x9,rM,h⟩:=aa h
   refine LH.cM R (sN<|dJ (f:=ar.lv) hY eZ dy R R ar.ok rM R<|sN<|a7 R eZ ox dy R R<|sN<|ib (id:=106) R ly R R<|s_<|cN R R R eZ dy R R R<|s0<|zB [1,6,20,21,22] [106] 106 R) ?_
   obtain ⟨fR,s7,h⟩:=aa h
   refine LH.ae R (sN<|av gn bj cC R R R<|sN<|aS R bj dr<|dC R<|sN<|dh Mj (Re s7)<|aX R zQ)<|LH.dF [1,20,21,22] 39 ((decide (fR<x9.bE)) || (decide (fR > x9.cX))) [] R ?_ ?_
   ·refine aN R<|sN<|av gS aw aL R R R<|sN<|aS R aw br<|sN<|dK R R<|bS R ?_
    generalize (decide (fR<x9.bE))=cY; cases cY
    ·exact sT R R<|oM (v:=(.int _ _)) R<|sT R R<|av gT aw aL R R R<|sT R R<|aS R aw br<|sT R R<|hJ R R<|sN<|bY R R zS
    ·exact sK<|sN<|df R R zS
   refine LH.cd h R (fun mj h=>?_) fun mj h=>?_
   ·refine LH.ae R (bK R zQ)<|LH.ret<|aU<|aA<|cc<|aU<|aA ?_
    obtain rfl:=oI h
    exact ba<|aT Tryz.results88
   refine LH.skip<|aB<|ag<|LH.aJ R (sN<|bw R R<|aN R zQ) ?_
   exact aM ⟨(i64 (n7+1)),aC ▸ h,R,R⟩<|Wk.eq R R R R
  refine LH.exit<|bB<|bc<|aZ<|ag<|LH.ae R (bK R zQ)<|LH.ret ?_
  obtain rfl:=oI h
  exact ba<|aT Tryz.results88
theorem Q5 {p0:Int} {p1:Int} {c0:List aG} {c1:List Bool} {r:Bool × List Bool} (h:zd p0 p1 c0 c1=some r):aF Tryz.prog 195 [.I p0,.I p1,.sptr [.lst 7 (c0.map aG.lv)],.ptr 471 0] (Mem.of [(471,.box [.arr 481 c1.length]),(481,.arr 4 1 (c1.map LV.bool))]) (.bool r.1) (Mem.of [(471,.box [.arr 481 r.2.length]),(481,.arr 4 1 (r.2.map LV.bool))]):=by
  unfold zd at h
  refine aW Tryz.func195 R (nT Tryz.ntmps195 R)<|LH.ae R (bK R zQ) ?_
  obtain ⟨w2,hv,h⟩:=aa h
  refine LH.dF [] 6 w2 [471,481] R ?_ ?_
  ·refine aN R<|aN R<|sN<|hJ R R<|bS R ?_
   by_cases hb3:(decide (p0 > p1))=true
   ·replace hv:=bO hv hb3
    refine aK hb3<|oM (v:=(.int _ _)) R<|aK hb3<|aS R nv sn<|aK hb3<|bx (f:=aG.lv) oT R<|aK hb3<|dK R R<|sN<|df hb3 R<|bS R ?_
    by_cases bP:(decide (p0<(c0.length:Int)))=true
    ·replace hv:=bO hv bP
     refine aK bP<|de R R R R gI ow<|aK bP<|oM (v:=(.int _ _)) R ?_
     obtain ⟨x5,nb,hv⟩:=aa hv
     refine aK bP<|eI (f:=LV.bool) ll jG oU R R R nb<|aK bP<|oO (f:=LV.bool) R R (cU nb).2 R R R jG yA<|aK bP<|dB R<|sN<|df bP R<|bK R ?_
     obtain rfl:=oI hv
     exact zS
    ·replace bP:=bF bP
     replace hv:=bN hv bP
     refine bl bP<|bl bP<|bl bP<|bl bP<|bl bP<|sN<|bY bP R<|bK R ?_
     obtain rfl:=oI hv
     exact zS
   ·replace hb3:=bF hb3
    replace hv:=bN hv hb3
    refine bl hb3<|bl hb3<|bl hb3<|bl hb3<|sN<|bY hb3 R<|bS R<|sK<|sN<|bY R R<|bK R ?_
    obtain rfl:=oI hv
    exact zS
  clear hv
  refine LH.ret ?_
  obtain rfl:=oI h
  exact ba<|aT Tryz.results195
theorem Yb {p0:cZ} {p1:aG} {r:Bool} (h:Dy p0 p1=some r):aF Tryz.prog 196 [.agg [.L p0.aj,.lst 3 (p0.Rows.map ar.lv)],aG.lv p1] (Mem.of []) (.bool r) (Mem.of []):=by
  unfold Dy at h
  refine aW Tryz.func196 R (nT Tryz.ntmps196 R)<|LH.ae R (sB<|da R R R R<|sB<|da R R R R<|bK R zQ)<|LH.dF [] 4 ((p1.Kind == 2) && ((decide (p1.Row ≥ 0)) && (decide (p1.Row<(p0.Rows.length:Int))))) [] R ?_ ?_
  ·refine sN<|av od aw aL R R R<|sN<|aS R aw br<|sN<|gv R R<|bS R ?_
   by_cases hb2:(p1.Kind == 2)=true
   ·refine aK hb2<|av jF aw aL R R R<|aK hb2<|aS R aw br<|aK hb2<|ot R R<|sN<|df hb2 R<|bS R ?_
    by_cases hb3:(decide (p1.Row ≥ 0))=true
    ·exact aK hb3<|av jF aw aL R R R<|aK hb3<|aS R aw br<|aK hb3<|av fC fm kK R R R<|aK hb3<|aS R fm nS<|aK hb3<|bx (f:=ar.lv) hY R<|aK hb3<|dK R R<|sN<|df hb3 R<|bK R<|s0<|Wk.to (eC (cB<|Eq.trans (eU hb3)<|eU hb2) eN) mN R<|cF R
    ·replace hb3:=bF hb3
     exact bl hb3<|bl hb3<|bl hb3<|bl hb3<|bl hb3<|bl hb3<|sN<|bY hb3 R<|bK R<|s0<|Wk.to (eC (cB<|Eq.trans (mf hb3)<|eU hb2) eN) mN R<|cF R
   ·replace hb2:=bF hb2
    exact bl hb2<|bl hb2<|bl hb2<|sN<|bY hb2 R<|bS R<|sK<|sN<|bY R R<|bK R<|s0<|Wk.to (eC (cB<|mf hb2) eN) mN R<|cF R
  refine LH.ret ?_
  obtain rfl:=oI h
  exact ba<|aT Tryz.results196
theorem Rh {p0:List Int} {p1:Int} {p2:Int} {r:List Int} (h:zo p0 p1 p2=some r):aF Tryz.prog 197 [.L p0,.I p1,.I p2] (Mem.of []) (.L r) (Mem.of []):=by
  unfold zo at h
  refine aW Tryz.func197 R (nT Tryz.ntmps197 R)<|LH.ae R (kE R zQ) ?_
  obtain ⟨v1,jj,h⟩:=aa h
  refine LH.ae R (dC R<|sN<|mw (args:=[.L p0]) (ml:=[]) (eD:=[(109,.arr 3 1 (v1.map LV.I))]) R yR R (bZ fF) (kW (g:=LV.I) mO R 109 jj) mN (MM R dO) R<|sE R zQ) ?_
  obtain ⟨x2,Bl,h⟩:=aa h
  refine LH.cM R (lh R<|aN R<|aN R<|sN<|eI (f:=LV.I) bd aw aL R R R Bl<|s_<|kC (f:=LV.I) (z':=p2) R R R R aw aL R (cU Bl).2 R<|s0<|Wk.trans (Wk.to (el:=[(7,.arr 109 (List.length<|v1.set p1.toNat p2))]) (ml:=[(109,.arr 3 1 (List.map LV.I<|v1.set p1.toNat p2))]) (eC (congrArg (LV.arr 109) (by simp)) eN) ⟨R,trivial⟩ R<|cF R)<|Wk.mZ (f:=LV.I) (ig:=[(7,.L (v1.set p1.toNat p2))]) 109 3 1 (v1.set p1.toNat p2) R R (cv R)<|fZ fN)<|LH.ae R (dC R<|qV R zQ)<|LH.ret ?_
  obtain rfl:=oI h
  exact ba<|aT Tryz.results197
set_option maxHeartbeats 4000000 in
theorem Yr {F:Nat} {p0:cZ} {p1:List aG} {r:List (List Int) × Int} (h:DL F p0 p1=some r):aF Tryz.prog 152 [.agg [.L p0.aj,.lst 3 (p0.Rows.map ar.lv)],.lst 7 (p1.map aG.lv)] (Mem.of []) (.tup [.lst 1 (List.map (lvl 1 LV.I) r.1),.I r.2]) (Mem.of []):=by
  unfold DL at h
  refine aW Tryz.func152 R (nT Tryz.ntmps152 R)<|LH.ae R (sB<|da R R R R<|sB<|da R R R R<|kE R<|aX R zQ)<|LH.seq ?_
  obtain ⟨r1,dI,h⟩:=aa h
  refine LH.ae R (sN<|a7 R e9 gG fa R R<|sN<|dh rP (AT dI)<|sN<|dB R zQ) (LH.cd h R (fun gK h=>?_) fun gK h=>?_)
  ·refine LH.ae R (kE R<|aX R zQ)<|LH.ret<|aA ?_
   obtain rfl:=oI h
   exact bL (aT Tryz.results152)<|dx R<|dx R<|dN lY
  refine LH.skip<|ag<|LH.seq<|LH.ae R (sN<|aS R nv sn<|sN<|bx (f:=aG.lv) oT R<|sN<|hJ R R zQ) (LH.cd h R (fun mn h=>?_) fun mn h=>?_)
  ·refine LH.ae R (kE R<|aX R zQ)<|LH.ret<|aA ?_
   obtain rfl:=oI h
   exact bL (aT Tryz.results152)<|dx R<|dx R<|dN lY
  refine LH.skip<|ag<|LH.seq<|LH.ae R (sN<|aS R nv sn<|sN<|bx (f:=aG.lv) oT R<|sN<|gv R R zQ) (LH.cd h R (fun qE h=>?_) fun qE h=>?_)
  ·refine LH.ae R (kE R<|aX R zQ)<|LH.ret<|aA ?_
   obtain rfl:=oI h
   exact bL (aT Tryz.results152)<|dx R<|dx R<|dN lY
  refine LH.skip<|ag ?_
  obtain ⟨v5,hv5,h⟩:=aa h
  refine LH.ae R (sN<|aS R nv sn<|sN<|bx (f:=aG.lv) oT R<|sX (MW (f:=(lvl 1 LV.I)) (z:=[]) (id:=122) R lQ P2 UN cC R R R Sub.nil XZ hv5 R)<|sE R zQ) ?_
  obtain ⟨v6,hv6,h⟩:=aa h
  refine LH.ae R (sN<|aS R nv sn<|sN<|bx (f:=aG.lv) oT R<|sX ((MV (f:=LV.bool) (z:=false) (id:=481) ll tz4 tr4 oU R R R hv6 R R).ok)<|sX (j8 371 R ZE R R)<|s_<|cN R R R gI pD R R R zQ) ?_
  obtain ⟨l7,hl7,h⟩:=aa h
  obtain ⟨x8,Ck,h⟩:=aa h
  obtain ⟨x9,rM,h⟩:=aa h
  refine LH.eY mixed [] [0,1471,0,0,0,0,0,1122,100122,1481,100481] [(2,.sptr [.L p0.aj,.lst 3 (p0.Rows.map ar.lv)]),(3,.sptr [.lst 7 (p1.map aG.lv)]),(6,.arr 122 (List.length<|v5.set ((0:Int).toNat) l7)),(7,.ptr 471 0)] [(122,.arr 22 1 (List.map (lvl 1 LV.I)<|v5.set ((0:Int).toNat) l7)),(471,.box [.arr 481 (List.length<|v6.set ((0:Int).toNat) true)]),(481,.arr 4 1 (List.map LV.bool<|v6.set ((0:Int).toNat) true))] R R (by kernel_rfl) ?_ ?_
  ·refine Oh R<|mD R R R (fun _ b _ d=>de R b R R gI ow d)<|aI<|ic (f:=LV.I) (ys:=[(-1)]) bd nB aL R R R gB ⟨R,aI<|av fB bj cC R R R ⟨R,aI<|aS R bj dr ⟨R,aI<|bx (f:=LV.I) bd R ⟨R,aI<|dh QO (aF.BV (Nu 132 hl7) R) ⟨R,mD R R R (fun _ b _ d=>eI (f:=(lvl 1 LV.I)) lQ bj cC R b R Ck d)<|mS R R R (fun _ b _ d=>kC (f:=(lvl 1 LV.I)) (z':=l7) R R R R bj cC b (cU Ck).2 R d)<|mD R R R (fun _ b _ d=>eI (f:=LV.bool) ll jG oU R b R rM d)<|mS R R R (fun _ b _ d=>kC (f:=LV.bool) (z':=true) R R R R jG oU b (cU rM).2 R d) ?_⟩⟩⟩⟩⟩
   exact m0<|Wk.to (eC R<|eC R<|eC (congrArg (LV.arr 122) (by simp))<|eC R eN) (mC R<|mC ((show _=some (LE.box [.arr 481 v6.length]) from R).trans (by simp))<|mC R mN) R<|cF R
  refine LH.ae R (sN<|Br (vs:=[.sptr [.lst 7 (p1.map aG.lv)],.ptr 471 0]) R<|sN<|oA (v:=(.fn _ _)) R zQ)<|LH.seq<|LH.ae R (sN<|aS R nv sn<|sN<|bx (f:=aG.lv) oT R<|aN R zQ)<|LH.block<|LH.bW (fun n e m=>∃ (n10:Int) (fe:List (List Int)) (qO:List Bool),Kj p0 p1 n n10 fe qO=some r∧e=Env.of [(2,.sptr [.L p0.aj,.lst 3 (p0.Rows.map ar.lv)]),(6,.arr 122 fe.length),(7,.ptr 471 0),(8,.fn 195 [.sptr [.lst 7 (p1.map aG.lv)],.ptr 471 0]),(36,.lst 7 (p1.map aG.lv)),(37,.I (p1.length:Int)),(38,.I n10)]∧m=Mem.of [(122,.arr 22 1 (List.map (lvl 1 LV.I) fe)),(471,.box [.arr 481 qO.length]),(481,.arr 4 1 (qO.map LV.bool))]) F ⟨0,(v5.set ((0:Int).toNat) l7),(v6.set ((0:Int).toNat) true),h,R,R⟩ ?_
  clear h
  rintro n e m ⟨n10,fe,qO,h,rfl,rfl⟩
  rcases n with _ | n
  · exact nX h
  obtain ⟨aE,aC⟩:∃ f,f=Kj p0 p1 n:=⟨_,rfl⟩
  replace h:JD p0 p1 aE n10 fe qO=some r:=aC ▸ h
  unfold JD at h
  refine LH.ae R (sN<|dK R R zQ)<|LH.seq (LH.cd h R (fun mj h=>?_) fun mj h=>?_)
  ·refine LH.skip<|ag<|LH.seq<|LH.block ?_
   obtain ⟨e7,FU,h⟩:=aa h
   refine LH.cM R (aN R<|sN<|dJ (f:=aG.lv) oT kr gW R R aG.ok FU R<|sN<|a7 R kr sk gW R R<|sN<|ib (id:=110) R z8 R R<|aX R<|s_<|cN R R R kr gW R R R<|s0<|Wk.trans (bQ [2,6,7,8,9,10,36,37,38] [110,122,471,481])<|Wk.dz 110 (aG.lv e7).cells R R R<|cv R)<|LH.seq ?_
   obtain ⟨Bc,AF,h⟩:=aa h
   refine LH.ae R (sN<|de R R R R gI ow<|aN R<|sN<|eI (f:=LV.bool) ll jG oU R R R AF<|sN<|oO (f:=LV.bool) R R (cU AF).2 R R R jG yA<|sN<|dB R zQ) (LH.cd h R (fun o8 h=>?_) fun o8 h=>?_)
   ·refine LH.ae R (kE R<|aX R zQ)<|LH.ret<|aA<|aU<|aA<|cc<|aU<|aA ?_
    obtain rfl:=oI h
    exact bL (aT Tryz.results152)<|dx R<|dx R<|dN lY
   refine LH.skip<|ag<|LH.seq<|LH.ae R (sN<|av od aw aL R R R<|sN<|aS R aw br<|sN<|iR R R zQ) (LH.cd h R (fun Fz h=>?_) fun Fz h=>?_)
   ·refine LH.seq ?_
    obtain ⟨EX,hv,h⟩:=aa h
    refine LH.dF [2,6,7,8,36,37,38] 60 EX [122,471,481] R ?_ ?_
    ·refine sN<|a7 R e9 gG fa R R<|sN<|a7 R kr sk gW R R ?_
     obtain ⟨rj,vV,hv⟩:=aa hv
     refine sN<|dh TU (Yb vV)<|sN<|dB R<|bS R ?_
     by_cases rA:(!rj)=true
     ·replace hv:=bO hv rA
      refine aK rA<|a7 R e9 gG fa R R<|aK rA<|a7 R kr sk gW R R ?_
      obtain ⟨sa,AD,hv⟩:=aa hv
      refine aK rA<|dh Mo (Q8 AD)<|aK rA<|dB R<|sN<|df rA R ?_
      obtain rfl:=oI hv
      exact zS
     ·replace rA:=bF rA
      replace hv:=bN hv rA
      refine bl rA<|bl rA<|bl rA<|bl rA<|sN<|bY rA R ?_
      obtain rfl:=oI hv
      exact zS
    clear hv
    refine LH.cd h R (fun Li h=>?_) fun Li h=>?_
    ·refine LH.ae R (kE R<|aX R zQ)<|LH.ret<|aA<|aA<|aU<|aA<|cc<|aU<|aA ?_
     obtain rfl:=oI h
     exact bL (aT Tryz.results152)<|dx R<|dx R<|dN lY
    refine LH.skip<|ag<|LH.exit<|bB<|aZ<|ag<|LH.aJ R (sN<|bw R R<|aN R zQ) ?_
    exact aM ⟨(i64 (n10+1)),fe,qO,aC ▸ h,R,R⟩<|Wk.eq R R R R
   refine LH.skip<|ag<|LH.seq ?_
   obtain ⟨EY,hv,h⟩:=aa h
   refine LH.tr [2,6,7,8,9,10,36,37,38] 81 EY.1 [(122,.arr 22 1 (List.map (lvl 1 LV.I) fe)),(471,.box [.arr 481 EY.2.length]),(481,.arr 4 1 (EY.2.map LV.bool))] R ?_ ?_
   ·refine sN<|oM (v:=(.fn _ _)) R<|sN<|av sw aw aL R R R<|sN<|aS R aw br<|aN R ?_
    obtain ⟨AZ,SL,hv⟩:=aa hv
    refine sX (((eo (args:=[.I e7.Zero,.I n10,.sptr [.lst 7 (p1.map aG.lv)],.ptr 471 0]) (ml:=[(471,.box [.arr 481 qO.length]),(481,.arr 4 1 (qO.map LV.bool))]) (eD:=[(471,.box [.arr 481 AZ.2.length]),(481,.arr 4 1 (AZ.2.map LV.bool))]) R Ms R (bZ<|bZ<|bZ<|bZ fF) (Q5 SL) (mC R<|mC R mN) (bT R<|bT R dO) R)).ok)<|sN<|dB R<|bS R ?_
    by_cases j0:(!AZ.1)=true
    ·obtain rfl:=oI (bO hv j0)
     rw [j0]; exact zA
    ·replace j0:=bF j0
     replace hv:=bN hv j0
     refine aK j0<|oM (v:=(.fn _ _)) R<|aK j0<|av sx aw aL R R R<|aK j0<|aS R aw br<|aK j0<|oM (v:=(.int _ _)) R ?_
     obtain ⟨tT,FN,hv⟩:=aa hv
     refine sXT R (cB j0) (((eo (args:=[.I e7.One,.I n10,.sptr [.lst 7 (p1.map aG.lv)],.ptr 471 0]) (ml:=[(471,.box [.arr 481 AZ.2.length]),(481,.arr 4 1 (AZ.2.map LV.bool))]) (eD:=[(471,.box [.arr 481 tT.2.length]),(481,.arr 4 1 (tT.2.map LV.bool))]) R Ms R (bZ<|bZ<|bZ<|bZ fF) (Q5 FN) (mC R<|mC R mN) (bT R<|bT R dO) R)).ok)<|aK j0<|dB R<|sN<|bY j0 R<|bS R ?_
     by_cases vG:(!tT.1)=true
     ·obtain rfl:=oI (bO hv vG)
      rw [vG]; exact zA
     ·replace vG:=bF vG
      replace hv:=bN hv vG
      refine aK vG<|av sw aw aL R R R<|aK vG<|aS R aw br<|aK vG<|av sx aw aL R R R<|aK vG<|aS R aw br<|aK vG<|gv R R<|sN<|bY vG R ?_
      obtain rfl:=oI hv
      exact zS
   clear hv
   refine LH.cd h R (fun aa4 h=>?_) fun aa4 h=>?_
   ·refine LH.ae R (kE R<|aX R zQ)<|LH.ret<|aA<|aU<|aA<|cc<|aU<|aA ?_
    obtain rfl:=oI h
    exact bL (aT Tryz.results152)<|dx R<|dx R<|dN lY
   refine LH.skip<|ag<|LH.seq ?_
   obtain ⟨w33,hv,h⟩:=aa h
   refine LH.eY mixed [] [0,0,0,0,0,0,0,0,0,0,0,0,0,0,1,1,0,0,0,0,0,0] [(2,.sptr [.L p0.aj,.lst 3 (p0.Rows.map ar.lv)]),(6,.arr 122 fe.length),(7,.ptr 471 0),(8,.fn 195 [.sptr [.lst 7 (p1.map aG.lv)],.ptr 471 0]),(9,.I n10),(10,.sptr (aG.lv e7).cells),(36,.lst 7 (p1.map aG.lv)),(37,.I (p1.length:Int)),(38,.I n10),(103,.bool w33)] [(122,.arr 22 1 (List.map (lvl 1 LV.I) fe)),(471,.box [.arr 481 EY.2.length]),(481,.arr 4 1 (EY.2.map LV.bool))] R R (by kernel_rfl) ?_ ?_
   ·refine aI<|av p6 aw aL R R R ⟨R,aI<|aS R aw br ⟨R,aI<|dK R R ⟨R,qg R ?_⟩⟩⟩
    by_cases oC:(decide (e7.Var<0))=true
    ·replace hv:=bO hv oC
     refine cJ oC<|cJ oC<|cJ oC<|cJ oC<|cJ oC<|cJ oC<|aI<|df oC R ⟨R,qg R<|cJ R<|cJ R<|cJ R<|cJ R<|cJ R<|cJ R<|cJ R<|cJ R<|cJ R<|aI<|df R R ⟨R,?_⟩⟩
     obtain rfl:=oI hv
     exact zM
    ·replace oC:=bF oC
     replace hv:=bN hv oC
     refine mT R (cB oC)<|aI<|av p6 aw aL R R R ⟨R,mT R (cB oC)<|aI<|aS R aw br ⟨R,mT R (cB oC)<|aI<|av fB bj cC R R R ⟨R,mT R (cB oC)<|aI<|aS R bj dr ⟨R,mT R (cB oC)<|aI<|bx (f:=LV.I) bd R ⟨R,mT R (cB oC)<|aI<|ot R R ⟨R,aI<|bY oC R ⟨R,qg R ?_⟩⟩⟩⟩⟩⟩⟩
     by_cases kz:(decide (e7.Var ≥ (p0.aj.length:Int)))=true
     ·replace hv:=bO hv kz
      refine cJ kz<|cJ kz<|cJ kz<|cJ kz<|cJ kz<|cJ kz<|cJ kz<|cJ kz<|cJ kz<|aI<|df kz R ⟨R,?_⟩
      obtain rfl:=oI hv
      exact zM
     ·replace kz:=bF kz
      replace hv:=bN hv kz
      refine mT R (cB kz)<|Oh R<|mT R (cB kz)<|gu R ?_
      obtain ⟨Vz,O5,hv⟩:=aa hv
      refine mT R (cB kz)<|Kg<|eI (f:=(lvl 1 LV.I)) lQ bj cC R R R O5 ⟨R,mT R (cB kz)<|Kg<|oO (f:=(lvl 1 LV.I)) R R (cU O5).2 R R R bj dr ⟨R,mT R (cB kz)<|aI<|av p6 aw aL R R R ⟨R,mT R (cB kz)<|aI<|aS R aw br ⟨R,?_⟩⟩⟩⟩
      obtain ⟨ZN,Td,hv⟩:=aa hv
      refine mT R (cB kz)<|aI<|dJ (f:=LV.I) bd aw aL R R gB Td R ⟨R,mT R (cB kz)<|aI<|aS R aw br ⟨R,mT R (cB kz)<|aI<|iR R R ⟨R,aI<|bY kz R ⟨R,?_⟩⟩⟩⟩
      obtain rfl:=oI hv
      exact zM
   clear hv
   refine LH.cd h R (fun Sp h=>?_) fun Sp h=>?_
   ·refine LH.ae R (kE R<|aX R zQ)<|LH.ret<|aA<|aU<|aA<|cc<|aU<|aA ?_
    obtain rfl:=oI h
    exact bL (aT Tryz.results152)<|dx R<|dx R<|dN lY
   refine LH.skip<|ag ?_
   obtain ⟨x39,WY,h⟩:=aa h
   obtain ⟨Bv,SP,h⟩:=aa h
   obtain ⟨x41,O7,h⟩:=aa h
   obtain ⟨x42,O8,h⟩:=aa h
   refine LH.eY mixed [] [0,0,0,1471,0,0,0,0,1122,1122,0,0,0,1122,100122,1481,100481] [(2,.sptr [.L p0.aj,.lst 3 (p0.Rows.map ar.lv)]),(6,.arr 122 (List.length<|fe.set e7.Zero.toNat Bv)),(7,.ptr 471 0),(8,.fn 195 [.sptr [.lst 7 (p1.map aG.lv)],.ptr 471 0]),(9,.I n10),(10,.sptr (aG.lv e7).cells),(36,.lst 7 (p1.map aG.lv)),(37,.I (p1.length:Int)),(38,.I n10)] [(122,.arr 22 1 (List.map (lvl 1 LV.I)<|fe.set e7.Zero.toNat Bv)),(471,.box [.arr 481 (List.length<|EY.2.set e7.Zero.toNat true)]),(481,.arr 4 1 (List.map LV.bool<|EY.2.set e7.Zero.toNat true))] R R (by kernel_rfl) ?_ ?_
   ·refine Oh R<|aI<|av sw aw aL R R R ⟨R,aI<|aS R aw br ⟨R,mD R R R (fun _ b _ d=>de R b R R gI ow d)<|aI<|av sw aw aL R R R ⟨R,aI<|aS R aw br ⟨R,Oh R<|gu R<|mD R R R (fun _ b _ d=>eI (f:=(lvl 1 LV.I)) lQ bj cC R b R WY d)<|mD R R R (fun _ b _ d=>oO (f:=(lvl 1 LV.I)) R b (cU WY).2 R R R bj dr d)<|aI<|av p6 aw aL R R R ⟨R,aI<|aS R aw br ⟨R,aI<|dh Mt (Rh SP) ⟨R,mD R R R (fun _ b _ d=>eI (f:=(lvl 1 LV.I)) lQ bj cC R b R O7 d)<|mS R R R (fun _ b _ d=>kC (f:=(lvl 1 LV.I)) (z':=Bv) R R R R bj cC b (cU O7).2 R d)<|mD R R R (fun _ b _ d=>eI (f:=LV.bool) ll jG oU R b R O8 d)<|mS R R R (fun _ b _ d=>kC (f:=LV.bool) (z':=true) R R R R jG oU b (cU O8).2 R d) ?_⟩⟩⟩⟩⟩⟩⟩
    exact m0<|Wk.to (eC R<|eC (congrArg (LV.arr 122) (by simp))<|eC R<|eC R<|eC R<|eC R<|eC R<|eC R<|eC R eN) (mC R<|mC ((show _=some (LE.box [.arr 481 EY.2.length]) from R).trans (by simp))<|mC R mN) R<|cF R
   obtain ⟨ZO,O9,h⟩:=aa h
   obtain ⟨E5,LS,h⟩:=aa h
   obtain ⟨x45,WZ,h⟩:=aa h
   obtain ⟨Ot,FW,h⟩:=aa h
   refine LH.qP mixed [] [0,0,0,1471,0,0,0,0,1122,1122,0,0,0,1122,100122,1481,100481] [(2,.sptr [.L p0.aj,.lst 3 (p0.Rows.map ar.lv)]),(6,.arr 122 (List.length<|(fe.set e7.Zero.toNat Bv).set e7.One.toNat E5)),(7,.ptr 471 0),(8,.fn 195 [.sptr [.lst 7 (p1.map aG.lv)],.ptr 471 0]),(36,.lst 7 (p1.map aG.lv)),(37,.I (p1.length:Int)),(38,.I n10)] [(122,.arr 22 1 (List.map (lvl 1 LV.I)<|(fe.set e7.Zero.toNat Bv).set e7.One.toNat E5)),(471,.box [.arr 481 (List.length<|(EY.2.set e7.Zero.toNat true).set e7.One.toNat true)]),(481,.arr 4 1 (List.map LV.bool<|(EY.2.set e7.Zero.toNat true).set e7.One.toNat true))] R R (by kernel_rfl) ?_ ?_
   ·refine Oh R<|aI<|av sx aw aL R R R ⟨R,aI<|aS R aw br ⟨R,mD R R R (fun _ b _ d=>de R b R R gI ow d)<|aI<|av sx aw aL R R R ⟨R,aI<|aS R aw br ⟨R,Oh R<|gu R<|mD R R R (fun _ b _ d=>eI (f:=(lvl 1 LV.I)) lQ bj cC R b R O9 d)<|mD R R R (fun _ b _ d=>oO (f:=(lvl 1 LV.I)) R b (cU O9).2 R R R bj dr d)<|aI<|av p6 aw aL R R R ⟨R,aI<|aS R aw br ⟨R,aI<|dh Mt (Rh LS) ⟨R,mD R R R (fun _ b _ d=>eI (f:=(lvl 1 LV.I)) lQ bj cC R b R WZ d)<|mS R R R (fun _ b _ d=>kC (f:=(lvl 1 LV.I)) (z':=E5) R R R R bj cC b (cU WZ).2 R d)<|mD R R R (fun _ b _ d=>eI (f:=LV.bool) ll jG oU R b R FW d)<|mS R R R (fun _ b _ d=>kC (f:=LV.bool) (z':=true) R R R R jG oU b (cU FW).2 R d) ?_⟩⟩⟩⟩⟩⟩⟩
    exact m0<|Wk.to (eC R<|eC (congrArg (LV.arr 122) (by simp))<|eC R<|eC R<|eC R<|eC R<|eC R eN) (mC R<|mC ((show _=some (LE.box [.arr 481 (List.length<|EY.2.set e7.Zero.toNat true)]) from R).trans (by simp))<|mC R mN) R<|cF R
   refine aB<|ag<|LH.aJ R (sN<|bw R R<|aN R zQ) ?_
   exact aM ⟨(i64 (n10+1)),((fe.set e7.Zero.toNat Bv).set e7.One.toNat E5),((EY.2.set e7.Zero.toNat true).set e7.One.toNat true),aC ▸ h,R,R⟩<|Wk.eq R R R R
  refine LH.exit<|bB<|bc<|aZ<|ag<|LH.wk ((Wk.trans (bQ [6] [122])<|Wk.trans (Wk.mZ (f:=(lvl 1 LV.I)) (ig:=[(6,.lst 1 (List.map (lvl 1 LV.I) fe))]) 122 22 1 fe R R (cv R)<|fZ fN)<|bQ [6] []))<|LH.ae R (dC R<|qV R<|aX R zQ)<|LH.ret ?_
  obtain rfl:=oI h
  exact bL (aT Tryz.results152)<|dx R<|dx R<|dN lY
theorem Yq {F:Nat} {p0:cZ} {p1:List aG} {r:Int × Bool × Int} (h:DK F p0 p1=some r):aF Tryz.prog 89 [.agg [.L p0.aj,.lst 3 (p0.Rows.map ar.lv)],.lst 7 (p1.map aG.lv)] (Mem.of []) (.tup [.I r.1,.bool r.2.1,.I r.2.2]) (Mem.of []):=by
  unfold DK at h
  refine aW Tryz.func89 R (nT Tryz.ntmps89 R)<|LH.ae R (sB<|da R R R R<|aX R<|bK R<|aX R zQ) ?_
  obtain ⟨r1,dI,h⟩:=aa h
  refine LH.ae R (sN<|a7 R e9 gG fa R R<|dC R<|sN<|dh TJ (Yr dI)<|sG R<|sN<|gj R R<|sN<|gj R R<|qV R<|aX R zQ)<|LH.seq<|LH.ae R (aN R<|sN<|iR R R zQ) (LH.cd h R (fun gK h=>?_) fun gK h=>?_)
  ·refine LH.ae R (aN R<|aX R<|bK R<|aX R zQ)<|LH.ret<|aA ?_
   obtain rfl:=oI h
   exact bL (aT Tryz.results89)<|dx R<|dx R<|dx R<|dN lY
  refine LH.skip<|ag<|LH.seq<|LH.ae R (dC R<|sN<|bx (f:=aG.lv) oT R<|aN R zQ)<|LH.block<|LH.bW (fun n e m=>∃ (n3:Int) (b4:Bool) (n5:Int),Gv F p0 p1 r1 n n3 b4 n5=some r∧e=Env.of [(2,.sptr [.L p0.aj,.lst 3 (p0.Rows.map ar.lv)]),(4,.I n3),(5,.bool b4),(7,.lst 1 (List.map (lvl 1 LV.I) r1.1)),(24,.lst 7 (p1.map aG.lv)),(25,.I (p1.length:Int)),(26,.I n5)]∧m=Mem.of []) F ⟨0,false,0,h,R,R⟩ ?_
  clear h
  rintro n e m ⟨n3,b4,n5,h,rfl,rfl⟩
  rcases n with _ | n
  · exact nX h
  obtain ⟨aE,aC⟩:∃ f,f=Gv F p0 p1 r1 n:=⟨_,rfl⟩
  replace h:CT F p0 p1 r1 aE n3 b4 n5=some r:=aC ▸ h
  unfold CT at h
  refine LH.ae R (sN<|dK R R zQ)<|LH.seq (LH.cd h R (fun lz h=>?_) fun lz h=>?_)
  ·refine LH.skip<|ag<|LH.seq<|LH.block ?_
   obtain ⟨x7,yP,h⟩:=aa h
   refine LH.cM R (aN R<|sN<|dJ (f:=aG.lv) oT kr gW R R aG.ok yP R<|sN<|a7 R kr sk gW R R<|sN<|ib (id:=109) R z8 R R<|aX R<|s_<|cN R R R kr gW R R R<|s0<|Wk.trans (bQ [2,4,5,7,8,9,24,25,26] [109])<|Wk.dz 109 (aG.lv x7).cells R R R<|cv R)<|LH.ae R (sN<|av od aw aL R R R<|sN<|aS R aw br zQ)<|LH.block<|LH.ae R (sN<|gv R R<|bK R zQ) (LH.cd h R (fun oF h=>?_) fun oF h=>?_)
   ·obtain ⟨x9,rM,h⟩:=aa h
    refine LH.cM R (sN<|av fC fm kK R R R<|sN<|aS R fm nS<|sN<|av jF aw aL R R R<|sN<|aS R aw br<|sN<|dJ (f:=ar.lv) hY eZ dy R R ar.ok rM R<|sN<|a7 R eZ ox dy R R<|sN<|ib (id:=110) R ly R R<|s_<|cN R R R eZ dy R R R<|s0<|zB [2,4,5,7,8,10,24,25,26] [110] 110 R) ?_
    obtain ⟨mI,oJ,h⟩:=aa h
    obtain ⟨dS,j5,h⟩:=aa h
    refine LH.lN mixed [] [0,0,0,0,0,0,0,0,0,0,0,0,0] R R (by kernel_rfl) (aI<|a7 R eZ ox dy R R ⟨R,nM R<|gu R<|aI<|dJ (f:=(lvl 1 LV.I)) lQ bj cC R R XZ oJ R ⟨R,aI<|aS R bj dr ⟨R,aI<|dh Mk (Rk j5) ⟨R,mMt R<|aI<|gj R R ⟨R,aI<|gj R R ⟨R,aI<|gj R R ⟨R,Kf R<|Kf R<|mAb R zV⟩⟩⟩⟩⟩⟩⟩)<|LH.dF [2,4,5,7,24,25,26] 67 ((decide (dS.1≤x9.cX)) && ((decide (dS.2.1 ≥ x9.bE)) && (decide (x9.bE≤x9.cX)))) [] R ?_ ?_
    ·refine aN R<|sN<|av gT aw aL R R R<|sN<|aS R aw br<|sN<|Kh R R<|bS R ?_
     by_cases dq:(decide (dS.1≤x9.cX))=true
     ·refine aK dq<|oM (v:=(.int _ _)) R<|aK dq<|av gS aw aL R R R<|aK dq<|aS R aw br<|aK dq<|ot R R<|sN<|df dq R<|bS R ?_
      by_cases cI:(decide (dS.2.1 ≥ x9.bE))=true
      ·exact aK cI<|av gS aw aL R R R<|aK cI<|aS R aw br<|aK cI<|av gT aw aL R R R<|aK cI<|aS R aw br<|aK cI<|Kh R R<|sN<|df cI R<|s0<|Wk.to (eC R<|eC R<|eC R<|eC R<|eC R<|eC R<|eC R<|eC (cB<|Eq.trans (eU cI)<|eU dq) eN) mN R<|cF R
      ·replace cI:=bF cI
       exact bl cI<|bl cI<|bl cI<|bl cI<|bl cI<|sN<|bY cI R<|s0<|Wk.to (eC R<|eC R<|eC R<|eC R<|eC R<|eC R<|eC R<|eC (cB<|Eq.trans (mf cI)<|eU dq) eN) mN R<|cF R
     ·replace dq:=bF dq
      exact bl dq<|bl dq<|bl dq<|bl dq<|sN<|bY dq R<|bS R<|sK<|sN<|bY R R<|s0<|Wk.to (eC R<|eC R<|eC R<|eC R<|eC R<|eC R<|eC R<|eC (cB<|mf dq) eN) mN R<|cF R
    refine LH.cd h R (fun qd h=>?_) fun qd h=>?_
    ·refine LH.ae R (aX R<|bK R<|aX R zQ)<|LH.ret<|aU<|aU<|aA<|cc<|aU<|aA ?_
     obtain rfl:=oI h
     exact bL (aT Tryz.results89)<|dx R<|dx R<|dx R<|dN lY
    refine LH.skip<|aB<|aB<|ag<|LH.aJ R (sN<|bw R R<|aN R zQ) ?_
    exact aM ⟨n3,b4,(i64 (n5+1)),aC ▸ h,R,R⟩<|Wk.eq R R R R
   refine LH.ae R (sN<|gv R R<|bK R zQ) (LH.cd h R (fun o8 h=>?_) fun o8 h=>?_)
   ·obtain ⟨jn,oK,h⟩:=aa h
    obtain ⟨j9,AB,h⟩:=aa h
    refine LH.lN mixed [] [0,0,0,0,0,0,0,0] R R (by kernel_rfl) (aI<|a7 R e9 gG fa R R ⟨R,nM R<|gu R<|aI<|dJ (f:=(lvl 1 LV.I)) lQ bj cC R R XZ oK R ⟨R,aI<|aS R bj dr ⟨R,aI<|a7 R kr sk gW R R ⟨R,aI<|dh Ml (Q7 AB) ⟨R,Kf R zV⟩⟩⟩⟩⟩)<|LH.dF [2,4,5,7,14,24,25,26] 83 ((!b4) || (decide (j9<n3))) [] R ?_ ?_
    ·refine bS R<|sN<|dB R<|bS R ?_
     generalize (!b4)=qc; cases qc
     ·exact sT R R<|oM (v:=(.int _ _)) R<|sT R R<|oM (v:=(.int _ _)) R<|sT R R<|dK R R<|sN<|bY R R zS
     ·exact sK<|sN<|df R R zS
    refine LH.cd h R (fun sY h=>?_) fun sY h=>?_
    ·refine LH.aJ R (aN R<|aX R<|bK R zQ)<|aB<|aB<|ag<|LH.aJ R (sN<|bw R R<|aN R zQ) ?_
     exact aM ⟨j9,true,(i64 (n5+1)),aC ▸ h,R,R⟩<|Wk.eq R R R R
    refine LH.skip<|aB<|aB<|ag<|LH.aJ R (sN<|bw R R<|aN R zQ) ?_
    exact aM ⟨n3,b4,(i64 (n5+1)),aC ▸ h,R,R⟩<|Wk.eq R R R R
   refine LH.skip<|aB<|aB<|ag<|LH.aJ R (sN<|bw R R<|aN R zQ) ?_
   exact aM ⟨n3,b4,(i64 (n5+1)),aC ▸ h,R,R⟩<|Wk.eq R R R R
  refine LH.exit<|bB<|bc<|aZ<|ag<|LH.ae R (aN R<|bS R<|aX R<|bK R<|aX R zQ)<|LH.ret ?_
  obtain rfl:=oI h
  exact bL (aT Tryz.results89)<|dx R<|dx R<|dx R<|dN lY
end Go.Proofs.YtiinmaihgmfniaaGreat
