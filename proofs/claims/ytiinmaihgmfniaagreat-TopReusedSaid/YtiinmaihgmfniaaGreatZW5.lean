import Derived.Test.YtiinmaihgmfniaaGreatZW4
set_option linter.unusedVariables false
set_option linter.unusedSimpArgs false
set_option maxRecDepth 100000
set_option maxHeartbeats 1000000
namespace Go.Proofs.YtiinmaihgmfniaaGreat
open Go.L Go.Sh
set_option maxHeartbeats 4000000 in
theorem T9 {F:Nat} {p0:Int} {c0:List aM} {c1:eX} {c2:List Int} {c3:aM} {c4:Bool} {c5:Int} {r:Int × List aM × List Int} (h:AX F p0 c0 c1 c2 c3 c4 c5=some r):aF Tryz.prog 134 [.I p0,.ptr 441 0,.sptr [.L c1.al,.lst 3 (c1.Rows.map aq.lv)],.ptr 442 0,.sptr (aM.lv c3).cells,.sptr [.bool c4],.sptr [.I c5],.ptr 446 0] (Mem.of [(441,.box [.arr 451 c0.length]),(442,.box [.arr 452 c2.length]),(446,.box [.fn 134 [.ptr 441 0,.sptr [.L c1.al,.lst 3 (c1.Rows.map aq.lv)],.ptr 442 0,.sptr (aM.lv c3).cells,.sptr [.bool c4],.sptr [.I c5],.ptr 446 0]]),(451,.arr 239 7 (c0.map aM.lv)),(452,.arr 3 1 (c2.map LV.I))]) (.I r.1) (Mem.of [(441,.box [.arr 451 r.2.1.length]),(442,.box [.arr 452 r.2.2.length]),(446,.box [.fn 134 [.ptr 441 0,.sptr [.L c1.al,.lst 3 (c1.Rows.map aq.lv)],.ptr 442 0,.sptr (aM.lv c3).cells,.sptr [.bool c4],.sptr [.I c5],.ptr 446 0]]),(451,.arr 239 7 (r.2.1.map aM.lv)),(452,.arr 3 1 (r.2.2.map LV.I))]):=by
  induction F generalizing p0 c0 c1 c2 c3 c4 c5 r with
  | zero=>cases (show Option.none=some _ from h)
  | succ F ih =>
    unfold AX at h
    obtain ⟨self,Ir⟩:∃ f,f=AX F:=⟨_,rfl⟩
    rw [← Ir] at h ih
    refine bh Tryz.func134 R (nT Tryz.ntmps134 R) (LH.aj R (br R zQ) (LH.aj R (sN (dv R R R R sL DC (sN (z6 (f:=aM.lv) yM R R (br R zQ))))) (LH.seq ?_)))
    obtain ⟨r1,dR,h⟩:=ae h
    refine LH.ax [(0,.I p0),(1,.ptr 441 0),(2,.sptr [.L c1.al,.lst 3 (c1.Rows.map aq.lv)]),(3,.ptr 442 0),(4,.sptr (aM.lv c3).cells),(5,.sptr [.bool c4]),(6,.sptr [.I c5]),(7,.ptr 446 0),(10,.I (c0.length:Int)),(11,.I r1)] [(441,.box [.arr 451 c0.length]),(442,.box [.arr 452 c2.length]),(446,.box [.fn 134 [.ptr 441 0,.sptr [.L c1.al,.lst 3 (c1.Rows.map aq.lv)],.ptr 442 0,.sptr (aM.lv c3).cells,.sptr [.bool c4],.sptr [.I c5],.ptr 446 0]]),(451,.arr 239 7 (c0.map aM.lv)),(452,.arr 3 1 (c2.map LV.I))] R (sN (bw R lj pM lk R R (sN (dv R R R R cm eu (cJ.wk (bM [(0,.I p0),(1,.ptr 441 0),(2,.sptr [.L c1.al,.lst 3 (c1.Rows.map aq.lv)]),(3,.ptr 442 0),(4,.sptr (aM.lv c3).cells),(5,.sptr [.bool c4]),(6,.sptr [.I c5]),(7,.ptr 446 0),(10,.I (c0.length:Int)),(18,.agg [.L c1.al,.lst 3 (c1.Rows.map aq.lv)]),(19,.arr 452 c2.length)] [(441,.box [.arr 451 c0.length]),(442,.box [.arr 452 c2.length]),(446,.box [.fn 134 [.ptr 441 0,.sptr [.L c1.al,.lst 3 (c1.Rows.map aq.lv)],.ptr 442 0,.sptr (aM.lv c3).cells,.sptr [.bool c4],.sptr [.I c5],.ptr 446 0]]),(451,.arr 239 7 (c0.map aM.lv)),(452,.arr 3 1 (c2.map LV.I))]) (sN (ej (args:=[.agg [.L c1.al,.lst 3 (c1.Rows.map aq.lv)],.arr 452 c2.length]) (ml:=[(452,.arr 3 1 (c2.map LV.I))]) (cS:=[(452,.arr 3 1 (c2.map LV.I))]) R PM R (aw (aw bl)) (aF.LM 452 3 1 (xs:=List.map LV.I c2) (UI dR) (.gT R (.row (by simp) .nil)) R R R R R TZ) ⟨R,trivial⟩ (bu R bX) R (br R zS)))))))) (LH.aj R (aZ R (sN (oY R R zQ))) (LH.cond (t:=(decide (r1 ≥ 0))) R (fun dI=>?_) (fun dI=>?_)))
    ·replace h:=aB h dI
     obtain ⟨v3,Pl,h⟩:=ae h
     refine LH.aj R (sN (dv R R R R sL DC (aZ R (sN (gJ (vs:=[(0,.I 2),(4,.I r1)]) Kz Fa R (lf tb aW aD R R R (lf mQ aW aD R R R gI)) (sN (jU (f:=aM.lv) (ys:=[(aM.mk 2 0 0 0 r1 0 0)]) yM xO lW R R R aM.ok (sX (uy (f:=aM.lv) yM xO lW R R R Pl) (s_ (cM R R R sL Kx R R R zQ)))))))))) (LH.aj R (aZ R (br R zQ)) (LH.ret (aO ?_)))
     obtain rfl:=oI h
     exact aJ (aT Tryz.results134) (bT R (bP ⟨aG (mC R (mC R (mC R (mC R (mC R mN))))),R,aN R,Sub.rfl⟩))
    replace h:=aA h dI
    refine LH.skip (ai ?_)
    obtain ⟨r4,F1,h⟩:=ae h
    refine LH.ax [(0,.I p0),(1,.ptr 441 0),(3,.ptr 442 0),(4,.sptr (aM.lv c3).cells),(5,.sptr [.bool c4]),(6,.sptr [.I c5]),(7,.ptr 446 0),(10,.I (c0.length:Int)),(12,.I r4.1)] [(441,.box [.arr 451 c0.length]),(442,.box [.arr 452 c2.length]),(446,.box [.fn 134 [.ptr 441 0,.sptr [.L c1.al,.lst 3 (c1.Rows.map aq.lv)],.ptr 442 0,.sptr (aM.lv c3).cells,.sptr [.bool c4],.sptr [.I c5],.ptr 446 0]]),(451,.arr 239 7 (c0.map aM.lv)),(452,.arr 3 1 (c2.map LV.I))] R (sN (bw R lj pM lk R R (sN (dv R R R R cm eu (sN (bw R u7 E3 lW R R (cJ.wk (bM [(0,.I p0),(1,.ptr 441 0),(3,.ptr 442 0),(4,.sptr (aM.lv c3).cells),(5,.sptr [.bool c4]),(6,.sptr [.I c5]),(7,.ptr 446 0),(10,.I (c0.length:Int)),(30,.agg [.L c1.al,.lst 3 (c1.Rows.map aq.lv)]),(31,.arr 452 c2.length),(32,aM.lv c3)] [(441,.box [.arr 451 c0.length]),(442,.box [.arr 452 c2.length]),(446,.box [.fn 134 [.ptr 441 0,.sptr [.L c1.al,.lst 3 (c1.Rows.map aq.lv)],.ptr 442 0,.sptr (aM.lv c3).cells,.sptr [.bool c4],.sptr [.I c5],.ptr 446 0]]),(451,.arr 239 7 (c0.map aM.lv)),(452,.arr 3 1 (c2.map LV.I))]) (sN (ej (args:=[.agg [.L c1.al,.lst 3 (c1.Rows.map aq.lv)],.arr 452 c2.length,aM.lv c3]) (ml:=[(452,.arr 3 1 (c2.map LV.I))]) (cS:=[(452,.arr 3 1 (c2.map LV.I))]) R PN R (aw (aw (aw bl))) (aF.LM 452 3 1 (xs:=List.map LV.I c2) (Uz F1) (.gT R (.row (by simp) (.gT R .nil))) R R R R R TZ) ⟨R,trivial⟩ (bu R bX) R (sE R (sN (fL R R (sN (fL R R (br R (cr R zS)))))))))))))))) (LH.seq (LH.ax [(0,.I p0),(1,.ptr 441 0),(3,.ptr 442 0),(4,.sptr (aM.lv c3).cells),(7,.ptr 446 0),(10,.I (c0.length:Int)),(47,.bool ((p0 == (c2.length:Int)) || (c4 && (decide (r4.1 ≥ c5)))))] [(441,.box [.arr 451 c0.length]),(442,.box [.arr 452 c2.length]),(446,.box [.fn 134 [.ptr 441 0,.sptr [.L c1.al,.lst 3 (c1.Rows.map aq.lv)],.ptr 442 0,.sptr (aM.lv c3).cells,.sptr [.bool c4],.sptr [.I c5],.ptr 446 0]]),(451,.arr 239 7 (c0.map aM.lv)),(452,.arr 3 1 (c2.map LV.I))] R ?_ ?_))
    ·refine aZ R (sN (dv R R R R cm eu (sN (z6 (f:=LV.I) bU R R (sN (iX R R (bZ R ?_)))))))
     by_cases bV:(p0 == (c2.length:Int))=true
     ·exact sF R R bV (sF R R bV (sU R R (sU R R (sU R R (sF R R bV (sN (aY (cB bV) (v:=(.bool _)) R (s0 (Wk.to (eC R (eC R (eC R (eC R (eC R (eC R (eC (cB (mq bV)) eN))))))) ⟨R,R,R,R,R,trivial⟩ R (aN R))))))))))
     ·replace bV:=bF bV
      refine sT R (cB bV) (bj R nq B7 (sT R (cB bV) (oM (v:=(.bool _)) R ?_)))
      by_cases cI:c4=true
      ·exact sT R (cB cI) (oM (v:=(.int _ _)) R (sT R (cB cI) (bj R aD b5 (sT R (cB cI) (oY R R (sT R (cB bV) (aY (cB cI) (v:=(.bool _)) R (sN (bc (cB bV) (v:=(.bool _)) R (s0 (Wk.to (eC R (eC R (eC R (eC R (eC R (eC R (eC (cB (Eq.trans (eV cI) (gN bV))) eN))))))) ⟨R,R,R,R,R,trivial⟩ R (aN R))))))))))))
      ·replace cI:=bF cI
       exact sF R R cI (sF R R cI (sF R R cI (sT R (cB bV) (bc (cB cI) (v:=(.bool _)) R (sN (bc (cB bV) (v:=(.bool _)) R (s0 (Wk.to (eC R (eC R (eC R (eC R (eC R (eC R (eC (cB (Eq.trans (lB cI) (gN bV))) eN))))))) ⟨R,R,R,R,R,trivial⟩ R (aN R)))))))))
    refine LH.cond (t:=((p0 == (c2.length:Int)) || (c4 && (decide (r4.1 ≥ c5))))) R (fun kf=>?_) (fun kf=>?_)
    ·replace h:=aB h kf
     obtain ⟨v9,XO,h⟩:=ae h
     refine LH.aj R (sN (dv R R R R sL DC (sN (bw R u7 E3 lW R R (sN (jU (f:=aM.lv) (ys:=[c3]) yM xO lW R R R aM.ok (sX (uy (f:=aM.lv) yM xO lW R R R XO) (s_ (cM R R R sL Kx R R R zQ))))))))) (LH.aj R (aZ R (br R zQ)) (LH.ret (aO ?_)))
     obtain rfl:=oI h
     exact aJ (aT Tryz.results134) (bT R (bP ⟨aG (mC R (mC R (mC R (mC R (mC R mN))))),R,aN R,Sub.rfl⟩))
    replace h:=aA h kf
    refine LH.skip (ai ?_)
    obtain ⟨v10,It,h⟩:=ae h
    refine LH.aj R (sN (dv R R R R sL DC (aZ R (sN (gJ (vs:=[(0,.I 1),(1,.I p0)]) Kz Fa R (lf tb aW aD R R R (lf Md aW aD R R R gI)) (sN (jU (f:=aM.lv) (ys:=[(aM.mk 1 p0 0 0 0 0 0)]) yM xO lW R R R aM.ok (sX (uy (f:=aM.lv) yM xO lW R R R It) (s_ (cM R R R sL Kx R R R zQ)))))))))) ?_
    obtain ⟨lu,pA,h⟩:=ae h
    refine LH.ax [(0,.I p0),(1,.ptr 441 0),(3,.ptr 442 0),(7,.ptr 446 0),(10,.I (c0.length:Int))] [(441,.box [.arr 451 v10.length]),(442,.box [.arr 452 (List.length (c2.set p0.toNat 0))]),(446,.box [.fn 134 [.ptr 441 0,.sptr [.L c1.al,.lst 3 (c1.Rows.map aq.lv)],.ptr 442 0,.sptr (aM.lv c3).cells,.sptr [.bool c4],.sptr [.I c5],.ptr 446 0]]),(451,.arr 239 7 (v10.map aM.lv)),(452,.arr 3 1 (List.map LV.I (c2.set p0.toNat 0)))] R ?_ ?_
    ·refine sN (dv R R R R cm eu (aZ R (sN (fP (f:=LV.I) bU aD aW R R R pA (s_ (nZ (f:=LV.I) (z':=0) R R R R aD aW R (dp pA).2 R ?_))))))
     exact s0 (Wk.to (eQ ⟨R,R,R,R,R,trivial⟩) (mC R (mC ((show _=some (LE.box [.arr 452 c2.length]) from R).trans (by simp)) (mC R (mC R (mC R mN))))) R (aN R))
    obtain ⟨fx,qZ,h⟩:=ae h
    refine LH.aj R (sN (dv R R R R Mg Ra (aZ R (sN (b8 R R (sX (((eO (args:=[.I (i64 (p0+1)),.ptr 441 0,.sptr [.L c1.al,.lst 3 (c1.Rows.map aq.lv)],.ptr 442 0,.sptr (aM.lv c3).cells,.sptr [.bool c4],.sptr [.I c5],.ptr 446 0]) (ml:=[(441,.box [.arr 451 v10.length]),(442,.box [.arr 452 (List.length (c2.set p0.toNat 0))]),(446,.box [.fn 134 [.ptr 441 0,.sptr [.L c1.al,.lst 3 (c1.Rows.map aq.lv)],.ptr 442 0,.sptr (aM.lv c3).cells,.sptr [.bool c4],.sptr [.I c5],.ptr 446 0]]),(451,.arr 239 7 (v10.map aM.lv)),(452,.arr 3 1 (List.map LV.I (c2.set p0.toNat 0)))]) (cS:=[(441,.box [.arr 451 fx.2.1.length]),(442,.box [.arr 452 fx.2.2.length]),(446,.box [.fn 134 [.ptr 441 0,.sptr [.L c1.al,.lst 3 (c1.Rows.map aq.lv)],.ptr 442 0,.sptr (aM.lv c3).cells,.sptr [.bool c4],.sptr [.I c5],.ptr 446 0]]),(451,.arr 239 7 (fx.2.1.map aM.lv)),(452,.arr 3 1 (fx.2.2.map LV.I))]) R CQ R (aw (aw (aw (aw (aw (aw (aw (aw bl)))))))) (ih qZ) (mC R (mC R (mC R (mC R (mC R mN))))) (bu R (bu R (bu R (bu R (bu R bX))))) R)).ok) (br R zQ))))))) ?_
    obtain ⟨gF,qg,h⟩:=ae h
    refine LH.ax [(0,.I p0),(1,.ptr 441 0),(3,.ptr 442 0),(7,.ptr 446 0),(10,.I (c0.length:Int)),(14,.I fx.1)] [(441,.box [.arr 451 fx.2.1.length]),(442,.box [.arr 452 (List.length (fx.2.2.set p0.toNat 1))]),(446,.box [.fn 134 [.ptr 441 0,.sptr [.L c1.al,.lst 3 (c1.Rows.map aq.lv)],.ptr 442 0,.sptr (aM.lv c3).cells,.sptr [.bool c4],.sptr [.I c5],.ptr 446 0]]),(451,.arr 239 7 (fx.2.1.map aM.lv)),(452,.arr 3 1 (List.map LV.I (fx.2.2.set p0.toNat 1)))] R ?_ ?_
    ·refine sN (dv R R R R cm eu (aZ R (sN (fP (f:=LV.I) bU aD aW R R R qg (s_ (nZ (f:=LV.I) (z':=1) R R R R aD aW R (dp qg).2 R ?_))))))
     exact s0 (Wk.to (eQ ⟨R,R,R,R,R,R,trivial⟩) (mC R (mC ((show _=some (LE.box [.arr 452 fx.2.2.length]) from R).trans (by simp)) (mC R (mC R (mC R mN))))) R (aN R))
    obtain ⟨ct,q9,h⟩:=ae h
    refine LH.aj R (sN (dv R R R R Mg Ra (aZ R (sN (b8 R R (sX (((eO (args:=[.I (i64 (p0+1)),.ptr 441 0,.sptr [.L c1.al,.lst 3 (c1.Rows.map aq.lv)],.ptr 442 0,.sptr (aM.lv c3).cells,.sptr [.bool c4],.sptr [.I c5],.ptr 446 0]) (ml:=[(441,.box [.arr 451 fx.2.1.length]),(442,.box [.arr 452 (List.length (fx.2.2.set p0.toNat 1))]),(446,.box [.fn 134 [.ptr 441 0,.sptr [.L c1.al,.lst 3 (c1.Rows.map aq.lv)],.ptr 442 0,.sptr (aM.lv c3).cells,.sptr [.bool c4],.sptr [.I c5],.ptr 446 0]]),(451,.arr 239 7 (fx.2.1.map aM.lv)),(452,.arr 3 1 (List.map LV.I (fx.2.2.set p0.toNat 1)))]) (cS:=[(441,.box [.arr 451 ct.2.1.length]),(442,.box [.arr 452 ct.2.2.length]),(446,.box [.fn 134 [.ptr 441 0,.sptr [.L c1.al,.lst 3 (c1.Rows.map aq.lv)],.ptr 442 0,.sptr (aM.lv c3).cells,.sptr [.bool c4],.sptr [.I c5],.ptr 446 0]]),(451,.arr 239 7 (ct.2.1.map aM.lv)),(452,.arr 3 1 (ct.2.2.map LV.I))]) R CQ R (aw (aw (aw (aw (aw (aw (aw (aw bl)))))))) (ih q9) (mC R (mC R (mC R (mC R (mC R mN))))) (bu R (bu R (bu R (bu R (bu R bX))))) R)).ok) (br R zQ))))))) ?_
    obtain ⟨pR,F2,h⟩:=ae h
    refine LH.ax [(1,.ptr 441 0),(10,.I (c0.length:Int)),(14,.I fx.1),(15,.I ct.1)] [(441,.box [.arr 451 ct.2.1.length]),(442,.box [.arr 452 (List.length (ct.2.2.set p0.toNat (-1)))]),(446,.box [.fn 134 [.ptr 441 0,.sptr [.L c1.al,.lst 3 (c1.Rows.map aq.lv)],.ptr 442 0,.sptr (aM.lv c3).cells,.sptr [.bool c4],.sptr [.I c5],.ptr 446 0]]),(451,.arr 239 7 (ct.2.1.map aM.lv)),(452,.arr 3 1 (List.map LV.I (ct.2.2.set p0.toNat (-1))))] R ?_ ?_
    ·refine sN (dv R R R R cm eu (aZ R (sN (fP (f:=LV.I) bU aD aW R R R F2 (s_ (nZ (f:=LV.I) (z':=(-1)) R R R R aD aW R (dp F2).2 R ?_))))))
     exact s0 (Wk.to (eQ ⟨R,R,R,R,trivial⟩) (mC R (mC ((show _=some (LE.box [.arr 452 ct.2.2.length]) from R).trans (by simp)) (mC R (mC R (mC R mN))))) R (aN R))
    obtain ⟨mY,CN,h⟩:=ae h
    obtain ⟨gA,qh,h⟩:=ae h
    refine LH.du mixed [] [1441,0,1441,0,0,0,1451,1,100451,1451,1,100451] [(10,.I (c0.length:Int))] [(441,.box [.arr 451 (List.length ((ct.2.1.set ((c0.length:Int).toNat) (aM.mk mY.Kind mY.Var fx.1 mY.One mY.Row mY.pa mY.Den)).set ((c0.length:Int).toNat) (aM.mk gA.Kind gA.Var gA.Zero ct.1 gA.Row gA.pa gA.Den)))]),(442,.box [.arr 452 (List.length (ct.2.2.set p0.toNat (-1)))]),(446,.box [.fn 134 [.ptr 441 0,.sptr [.L c1.al,.lst 3 (c1.Rows.map aq.lv)],.ptr 442 0,.sptr (aM.lv c3).cells,.sptr [.bool c4],.sptr [.I c5],.ptr 446 0]]),(451,.arr 239 7 (List.map aM.lv ((ct.2.1.set ((c0.length:Int).toNat) (aM.mk mY.Kind mY.Var fx.1 mY.One mY.Row mY.pa mY.Den)).set ((c0.length:Int).toNat) (aM.mk gA.Kind gA.Var gA.Zero ct.1 gA.Row gA.pa gA.Den)))),(452,.arr 3 1 (List.map LV.I (ct.2.2.set p0.toNat (-1))))] R R (by kernel_rfl) ?_ ?_
    ·refine mD R R R (fun _ b _ d=>dv R b R R sL DC d) (iT R (mD R R R (fun _ b _ d=>dv R b R R sL DC d) (iT R (iT R (iT R (mD R R R (fun _ b _ d=>fP (f:=aM.lv) yM u7 lW R b R CN d) (KU (Gb (f:=aM.lv) Me aD aW R R R ⟨R,mS R R R (fun _ b _ d=>nZ (f:=aM.lv) (z':=(aM.mk mY.Kind mY.Var fx.1 mY.One mY.Row mY.pa mY.Den)) R R R R aD aW b (dp CN).2 R d) (mD R R R (fun _ b _ d=>fP (f:=aM.lv) yM u7 lW (congrArg (LV.arr 451) (by simp)) b R qh d) (KU (Gb (f:=aM.lv) Mf aD aW R R R ⟨R,mS R R R (fun _ b _ d=>nZ (f:=aM.lv) (z':=(aM.mk gA.Kind gA.Var gA.Zero ct.1 gA.Row gA.pa gA.Den)) R R R R aD aW b (dp qh).2 R d) ?_⟩)))⟩))))))))
     exact m0 (Wk.to (eQ ⟨R,trivial⟩) (mC ((show _=some (LE.box [.arr 451 ct.2.1.length]) from R).trans (by simp)) (mC R (mC R (mC R (mC R mN))))) R (aN R))
    refine LH.aj R (aZ R (br R zQ)) (LH.ret ?_)
    obtain rfl:=oI h
    exact aJ (aT Tryz.results134) (bT R (bP ⟨aG (mC R (mC R (mC R (mC R (mC R mN))))),R,aN R,Sub.rfl⟩))
theorem Ud {F:Nat} {p0:eX} {p1:Bool} {p2:Int} {r:List aM} (h:Aj F p0 p1 p2=some r):aF Tryz.prog 71 [.agg [.L p0.al,.lst 3 (p0.Rows.map aq.lv)],.bool p1,.I p2] (Mem.of []) (.lst 7 (r.map aM.lv)) (Mem.of []):=by
  unfold Aj at h
  refine bh Tryz.func71 R (nT Tryz.ntmps71 R) (LH.aj R (sB (dm R R R R (sB (dm R R R R (sB (dm R R R R (pU R zQ))))))) ?_)
  obtain ⟨l1,hl1,h⟩:=ae h
  refine LH.aj R (sN (jU (f:=LV.I) (ys:=[(-1)]) bU qL aW R R R jB (sN (aC kz cm dQ R R R (sN (bj R cm eu (sN (bW (f:=LV.I) bU R (sN (ej (args:=[.L [(-1)],.I (p0.al.length:Int)]) (ml:=[]) (cS:=[(452,.arr 3 1 (l1.map LV.I))]) R Tv R (aw (aw bl)) (QW 452 hl1) mN (kE R bX) R (sX (gp 342 R Rh R R) (s_ (cM R R R cm dQ R R R zQ))))))))))))) (LH.ax [(3,.sptr [.L p0.al,.lst 3 (p0.Rows.map aq.lv)]),(4,.sptr [.bool p1]),(5,.sptr [.I p2]),(7,.ptr 442 0),(8,.sptr [.I 3,.I 0,.I 0,.I 0,.I (-1),.I 0,.I 1])] [(442,.box [.arr 452 l1.length]),(452,.arr 3 1 (l1.map LV.I))] R (sN (gJ (vs:=[(0,.I 3),(4,.I (-1)),(5,.I 0),(6,.I 1)]) Kz Fa R (lf tb aW aD R R R (lf mQ aW aD R R R (lf kP aW aD R R R (lf oO aW aD R R R gI)))) (sN (hD (id:=108) R Fa R R (s_ (cM R R R u7 lW R R R (s0 ((Wk.trans (bM [(3,.sptr [.L p0.al,.lst 3 (p0.Rows.map aq.lv)]),(4,.sptr [.bool p1]),(5,.sptr [.I p2]),(7,.ptr 442 0),(8,.ptr 108 0)] [(108,.box [.I 3,.I 0,.I 0,.I 0,.I (-1),.I 0,.I 1]),(442,.box [.arr 452 l1.length]),(452,.arr 3 1 (l1.map LV.I))]) (Wk.trans (Wk.bD 108 [.I 3,.I 0,.I 0,.I 0,.I (-1),.I 0,.I 1] R R R (cc R)) (Wk.eq R R R R))))))))))) (LH.ax [(3,.sptr [.L p0.al,.lst 3 (p0.Rows.map aq.lv)]),(4,.sptr [.bool p1]),(5,.sptr [.I p2]),(7,.ptr 442 0),(8,.sptr [.I 3,.I 0,.I 0,.I 0,.I (-1),.I 0,.I 1]),(9,.ptr 441 0)] [(441,.box [.arr 451 (List.length ([]:List aM))]),(442,.box [.arr 452 l1.length]),(451,.arr 239 7 (List.map aM.lv ([]:List aM))),(452,.arr 3 1 (l1.map LV.I))] R (sX (gp 341 R YJ R R) (s0 ((Wk.trans (bM [(3,.sptr [.L p0.al,.lst 3 (p0.Rows.map aq.lv)]),(4,.sptr [.bool p1]),(5,.sptr [.I p2]),(7,.ptr 442 0),(8,.sptr [.I 3,.I 0,.I 0,.I 0,.I (-1),.I 0,.I 1]),(9,.ptr 441 0)] [(441,.box [.nil]),(442,.box [.arr 452 l1.length]),(452,.arr 3 1 (l1.map LV.I))]) (Wk.trans (bM [(3,.sptr [.L p0.al,.lst 3 (p0.Rows.map aq.lv)]),(4,.sptr [.bool p1]),(5,.sptr [.I p2]),(7,.ptr 442 0),(8,.sptr [.I 3,.I 0,.I 0,.I 0,.I (-1),.I 0,.I 1]),(9,.ptr 441 0)] [(441,.box [.nil]),(442,.box [.arr 452 l1.length]),(452,.arr 3 1 (l1.map LV.I))]) (Wk.trans (Wk.oa 451 239 7 441 0 R R R R R (cc R)) (Wk.eq R R R R))))))) (LH.aj R (sX (gp 346 R YH R R) zQ) (LH.aj R (sN (z7 (vs:=[.ptr 441 0,.sptr [.L p0.al,.lst 3 (p0.Rows.map aq.lv)],.ptr 442 0,.sptr [.I 3,.I 0,.I 0,.I 0,.I (-1),.I 0,.I 1],.sptr [.bool p1],.sptr [.I p2],.ptr 446 0]) R (s_ (cM R R R Mg YD R R R zQ)))) ?_))))
  obtain ⟨r2,hr2,h⟩:=ae h
  refine LH.ax [(9,.sptr [.lst 7 (r2.2.1.map aM.lv)])] [] R (sN (dv R R R R Mg Ra (sX (((eO (args:=[.I 0,.ptr 441 0,.sptr [.L p0.al,.lst 3 (p0.Rows.map aq.lv)],.ptr 442 0,.sptr [.I 3,.I 0,.I 0,.I 0,.I (-1),.I 0,.I 1],.sptr [.bool p1],.sptr [.I p2],.ptr 446 0]) (ml:=[(441,.box [.arr 451 (List.length ([]:List aM))]),(442,.box [.arr 452 l1.length]),(446,.box [.fn 134 [.ptr 441 0,.sptr [.L p0.al,.lst 3 (p0.Rows.map aq.lv)],.ptr 442 0,.sptr [.I 3,.I 0,.I 0,.I 0,.I (-1),.I 0,.I 1],.sptr [.bool p1],.sptr [.I p2],.ptr 446 0]]),(451,.arr 239 7 (List.map aM.lv ([]:List aM))),(452,.arr 3 1 (l1.map LV.I))]) (cS:=[(441,.box [.arr 451 r2.2.1.length]),(442,.box [.arr 452 r2.2.2.length]),(446,.box [.fn 134 [.ptr 441 0,.sptr [.L p0.al,.lst 3 (p0.Rows.map aq.lv)],.ptr 442 0,.sptr [.I 3,.I 0,.I 0,.I 0,.I (-1),.I 0,.I 1],.sptr [.bool p1],.sptr [.I p2],.ptr 446 0]]),(451,.arr 239 7 (r2.2.1.map aM.lv)),(452,.arr 3 1 (r2.2.2.map LV.I))]) R CQ R (aw (aw (aw (aw (aw (aw (aw (aw bl)))))))) (T9 hr2) (mC R (mC R (mC R (mC R (mC R mN))))) (bu R (bu R (bu R (bu R (bu R bX))))) R)).ok) (s0 ((Wk.trans (bM [(9,.ptr 441 0)] [(441,.box [.arr 451 r2.2.1.length]),(451,.arr 239 7 (r2.2.1.map aM.lv))]) (Wk.trans (bM [(9,.ptr 441 0)] [(441,.box [.arr 451 r2.2.1.length]),(451,.arr 239 7 (r2.2.1.map aM.lv))]) (Wk.trans (Wk.trans (Wk.ez (f:=aM.lv) 451 239 7 r2.2.1 441 R R R (gS gR) R R (cc R)) (bM [(9,.ptr 441 0)] [(441,.box [.lst 7 (r2.2.1.map aM.lv)])])) (Wk.trans (Wk.bD 441 [.lst 7 (r2.2.1.map aM.lv)] R R R (cc R)) (Wk.eq R R R R)))))))))) (LH.aj R (sN (bj R sL DC (sD R zQ))) (LH.ret ?_))
  obtain rfl:=oI h
  exact aJ (aT Tryz.results71) (bT R (bP ⟨aG mN,R,aN R,Sub.rfl⟩))
theorem No {F:Nat} {p0:eX} {r:bk × Int} (h:uI F p0=some r):aF Tryz.prog 25 [.agg [.L p0.al,.lst 3 (p0.Rows.map aq.lv)]] (Mem.of []) (.tup [bk.lv r.1,.I r.2]) (Mem.of []):=by
  unfold uI at h
  refine bh Tryz.func25 R (nT Tryz.ntmps25 R) (LH.aj R (sB (dm R R R R (sN (hD (id:=102) R KB R R (br R zQ))))) (LH.seq ?_))
  obtain ⟨r1,dR,h⟩:=ae h
  refine LH.aj R (sN (bw R lj pM lk R R (sN (dq (args:=[.agg [.L p0.al,.lst 3 (p0.Rows.map aq.lv)]]) R IY R (aw bl) (JF dR) R (sN (eM R zQ)))))) (LH.cond (t:=(!r1)) R (fun dI=>?_) (fun dI=>?_))
  ·replace h:=aB h dI
   refine LH.ax [(2,.sptr [.bool false,.nil,.I 0,.nil]),(3,.I 1)] [] R (sN (gJ (vs:=[]) YF KB R gI (s_ (cM R R R DN DP R R R (br R (s0 ((Wk.trans (bM [(2,.ptr 102 0),(3,.I 1)] [(102,.box [.bool false,.nil,.I 0,.nil])]) (Wk.trans (Wk.bD 102 [.bool false,.nil,.I 0,.nil] R R R (cc R)) (Wk.eq R R R R)))))))))) (LH.ret (aO ?_))
   obtain rfl:=oI h
   exact aJ (aT Tryz.results25) (dN R DN Rb DP R R (bT R (bP ⟨aG mN,R,aN R,(Sub.tup (sd (Sub.agg (aw (jC (aw (jC bl))))) (aw bl)))⟩)))
  replace h:=aA h dI
  refine LH.skip (ai (LH.aj R (sX (gp 323 R KB R R) zQ) ?_))
  obtain ⟨r3,hr3,h⟩:=ae h
  refine LH.ax [(1,.sptr [.L p0.al,.lst 3 (p0.Rows.map aq.lv)]),(2,.ptr 102 0),(4,.ptr 423 0)] [(102,.box [.bool false,.nil,.I 0,.nil]),(423,.box (bk.lv r3).cells)] R (sN (bw R lj pM lk R R (sN (z7 (vs:=[.ptr 423 0]) R (cJ.wk ((Wk.trans (bM [(1,.sptr [.L p0.al,.lst 3 (p0.Rows.map aq.lv)]),(2,.ptr 102 0),(4,.ptr 423 0),(9,.agg [.L p0.al,.lst 3 (p0.Rows.map aq.lv)]),(10,.fn 70 [.ptr 423 0])] [(102,.box [.bool false,.nil,.I 0,.nil]),(423,.box [.bool false,.nil,.I 0,.nil])]) (Wk.trans (bM [(1,.sptr [.L p0.al,.lst 3 (p0.Rows.map aq.lv)]),(2,.ptr 102 0),(4,.ptr 423 0),(9,.agg [.L p0.al,.lst 3 (p0.Rows.map aq.lv)]),(10,.fn 70 [.ptr 423 0])] [(102,.box [.bool false,.nil,.I 0,.nil]),(423,.box [.bool false,.nil,.I 0,.nil])]) (Wk.trans (Wk.oa 13231 3 1 423 1 R R R R R (cc R)) (Wk.trans (bM [(1,.sptr [.L p0.al,.lst 3 (p0.Rows.map aq.lv)]),(2,.ptr 102 0),(4,.ptr 423 0),(9,.agg [.L p0.al,.lst 3 (p0.Rows.map aq.lv)]),(10,.fn 70 [.ptr 423 0])] [(102,.box [.bool false,.nil,.I 0,.nil]),(423,.box [.bool false,.arr 13231 (List.length ([]:List Int)),.I 0,.nil]),(13231,.arr 3 1 (List.map LV.I ([]:List Int)))]) (Wk.trans (Wk.trans (Wk.ez (f:=LV.I) 13231 3 1 ([]:List Int) 423 R R R (cC R (gS (cC R (cC R gR)))) R R (cc R)) (bM [(1,.sptr [.L p0.al,.lst 3 (p0.Rows.map aq.lv)]),(2,.ptr 102 0),(4,.ptr 423 0),(9,.agg [.L p0.al,.lst 3 (p0.Rows.map aq.lv)]),(10,.fn 70 [.ptr 423 0])] [(102,.box [.bool false,.nil,.I 0,.nil]),(423,.box [.bool false,.L ([]:List Int),.I 0,.nil])])) (Wk.trans (bM [(1,.sptr [.L p0.al,.lst 3 (p0.Rows.map aq.lv)]),(2,.ptr 102 0),(4,.ptr 423 0),(9,.agg [.L p0.al,.lst 3 (p0.Rows.map aq.lv)]),(10,.fn 70 [.ptr 423 0])] [(102,.box [.bool false,.nil,.I 0,.nil]),(423,.box [.bool false,.L ([]:List Int),.I 0,.nil])]) (Wk.trans (Wk.oa 13233 239 7 423 3 R R R R R (cc R)) (Wk.trans (bM [(1,.sptr [.L p0.al,.lst 3 (p0.Rows.map aq.lv)]),(2,.ptr 102 0),(4,.ptr 423 0),(9,.agg [.L p0.al,.lst 3 (p0.Rows.map aq.lv)]),(10,.fn 70 [.ptr 423 0])] [(102,.box [.bool false,.nil,.I 0,.nil]),(423,.box [.bool false,.L ([]:List Int),.I 0,.arr 13233 (List.length ([]:List aM))]),(13233,.arr 239 7 (List.map aM.lv ([]:List aM)))]) (Wk.trans (Wk.trans (Wk.ez (f:=aM.lv) 13233 239 7 ([]:List aM) 423 R R R (cC R (cC R (cC R (gS gR)))) R R (cc R)) (bM [(1,.sptr [.L p0.al,.lst 3 (p0.Rows.map aq.lv)]),(2,.ptr 102 0),(4,.ptr 423 0),(9,.agg [.L p0.al,.lst 3 (p0.Rows.map aq.lv)]),(10,.fn 70 [.ptr 423 0])] [(102,.box [.bool false,.nil,.I 0,.nil]),(423,.box [.bool false,.L ([]:List Int),.I 0,.lst 7 (List.map aM.lv ([]:List aM))])])) (bM [(1,.sptr [.L p0.al,.lst 3 (p0.Rows.map aq.lv)]),(2,.ptr 102 0),(4,.ptr 423 0),(9,.agg [.L p0.al,.lst 3 (p0.Rows.map aq.lv)]),(10,.fn 70 [.ptr 423 0])] [(102,.box [.bool false,.nil,.I 0,.nil]),(423,.box [.bool false,.L ([]:List Int),.I 0,.lst 7 (List.map aM.lv ([]:List aM))])]))))))))))) (sX (((eO (args:=[.agg [.L p0.al,.lst 3 (p0.Rows.map aq.lv)],.fn 70 [.ptr 423 0]]) (ml:=[(423,.box [.bool false,.L ([]:List Int),.I 0,.lst 7 (List.map aM.lv ([]:List aM))])]) (cS:=[(423,.box (bk.lv r3).cells)]) R Tz R (aw (aw bl)) (UP hr3) (mC R mN) (bu R bX) R)).ok) zS)))))) ?_
  obtain ⟨r4,F1,h⟩:=ae h
  refine LH.ax [(2,.ptr 102 0),(4,.sptr [.bool r3.Found,.L r3.cN,.I r3.iy,.lst 7 (r4.map aM.lv)])] [(102,.box [.bool false,.nil,.I 0,.nil])] R (sN (bw R lj pM lk R R (sN (fo u5 nq sM R R (sN (dv R R R R nq B7 (sN (fo DL aD aW R R (sN (dv R R R R aD b5 (sN (dq (args:=[.agg [.L p0.al,.lst 3 (p0.Rows.map aq.lv)],.bool r3.Found,.I r3.iy]) R TB R (aw (aw (aw bl))) (Ud F1) R (sN (fo Rc sL Kx R R (s_ (cM R R R sL Kx R R R (s0 ((Wk.trans (bM [(2,.ptr 102 0),(4,.ptr 423 0)] [(102,.box [.bool false,.nil,.I 0,.nil]),(423,.box [.bool r3.Found,.L r3.cN,.I r3.iy,.lst 7 (r4.map aM.lv)])]) (Wk.trans (Wk.bD 423 [.bool r3.Found,.L r3.cN,.I r3.iy,.lst 7 (r4.map aM.lv)] R R R (cc R)) (Wk.eq R R R R))))))))))))))))))))) (LH.ax [(2,.sptr [.bool r3.Found,.L r3.cN,.I r3.iy,.lst 7 (r4.map aM.lv)]),(3,.I 0)] [] R (sN (bw R DN Rb DP R R (s_ (cM R R R DN DP R R R (br R (s0 ((Wk.trans (bM [(2,.ptr 102 0),(3,.I 0)] [(102,.box [.bool r3.Found,.L r3.cN,.I r3.iy,.lst 7 (r4.map aM.lv)])]) (Wk.trans (Wk.bD 102 [.bool r3.Found,.L r3.cN,.I r3.iy,.lst 7 (r4.map aM.lv)] R R R (cc R)) (Wk.eq R R R R)))))))))) (LH.ret ?_))
  obtain rfl:=oI h
  exact aJ (aT Tryz.results25) (dN R DN Rb DP R R (bT R (bP ⟨aG mN,R,aN R,(Sub.tup (aw (aw bl)))⟩)))
theorem Un {F:Nat} {p0:List Int} {p1:Int} {r:Bool} (h:AO F p0 p1=some r):aF Tryz.prog 72 [.L p0,.I p1] (Mem.of []) (.bool r) (Mem.of []):=by
  unfold AO at h
  refine bh Tryz.func72 R (nT Tryz.ntmps72 R) (LH.aj R (cr R zQ) (LH.seq (LH.ax [(0,.L p0),(1,.I p1),(7,.L p0),(8,.I (p0.length:Int)),(9,.I 0)] [] R (dY R (sN (bW (f:=LV.I) bU R (aZ R zS)))) (LH.block (LH.loop (fun n e m=>∃ (n1:Int),C6 p0 p1 n n1=some r∧e=Env.of [(0,.L p0),(1,.I p1),(7,.L p0),(8,.I (p0.length:Int)),(9,.I n1)]∧m=Mem.of []) F ⟨0,h,R,R⟩ ?_)))))
  clear h
  rintro n e m ⟨n1,h,rfl,rfl⟩
  rcases n with _ | n
  · cases (show Option.none=some _ from h)
  obtain ⟨aH,aI⟩:∃ f,f=C6 p0 p1 n:=⟨_,rfl⟩
  replace h:J0 p0 p1 aH n1=some r:=aI ▸ h
  unfold J0 at h
  refine LH.aj R (sN (eG R R zQ)) (LH.seq (LH.cond (t:=(decide (n1<(p0.length:Int)))) R (fun dI=>?_) (fun dI=>?_)))
  ·replace h:=aB h dI
   refine LH.skip (ai (LH.seq (LH.block ?_)))
   obtain ⟨x3,fj,h⟩:=ae h
   refine LH.aj R (aZ R (sN (eF (f:=LV.I) bU aD aW R R jB fj R (sN (bj R aD b5 (br R (br R zQ))))))) ?_
   obtain ⟨w5,hv,h⟩:=ae h
   refine LH.ax [(0,.L p0),(1,.I p1),(7,.L p0),(8,.I (p0.length:Int)),(9,.I n1),(33,.bool w5)] [] R ?_ ?_
   ·refine aZ R (sN (eG R R (bZ R ?_)))
    by_cases bV:(decide (x3<0))=true
    ·replace hv:=aB hv bV
     refine sF R R bV (sF R R bV (sF R R bV (sN (aY (cB bV) (v:=(.bool _)) R (bZ R (sF R R R (sF R R R (sF R R R (sU R R (sU R R (sU R R (sU R R (sU R R (sU R R (sU R R (sF R R R (sN (aY R (v:=(.bool _)) R ?_))))))))))))))))))
     obtain rfl:=oI hv
     exact zS
    ·replace bV:=bF bV
     replace hv:=aA hv bV
     refine sT R (cB bV) (oM (v:=(.int _ _)) R (sT R (cB bV) (oM (v:=(.int _ _)) R (sT R (cB bV) (oY R R (sN (bc (cB bV) (v:=(.bool _)) R (bZ R ?_))))))))
     by_cases cI:(decide (x3 ≥ p1))=true
     ·replace hv:=aB hv cI
      refine sF R R cI (sF R R cI (sF R R cI (sU R R (sU R R (sU R R (sU R R (sU R R (sU R R (sU R R (sF R R cI (sN (aY (cB cI) (v:=(.bool _)) R ?_))))))))))))
      obtain rfl:=oI hv
      exact zS
     ·replace cI:=bF cI
      replace hv:=aA hv cI
      refine sT R (cB cI) (oM (v:=(.int _ _)) R (sT R (cB cI) (jf R R (sT R (cB cI) (oM (v:=(.bool _)) R ?_)))))
      by_cases cA:(decide (n1 > 0))=true
      ·replace hv:=aB hv cA
       refine sT R (cB cA) (oM (v:=(.lst _ _)) R (sT R (cB cA) (oM (v:=(.int _ _)) R (sT R (cB cA) (kq R R ?_)))))
       obtain ⟨x9,yZ,hv⟩:=ae hv
       refine sT R (cB cA) (eF (f:=LV.I) bU aD aW R R jB yZ R (sT R (cB cA) (bj R aD b5 (sT R (cB cA) (oM (v:=(.int _ _)) R (sT R (cB cA) (oY R R (sT R (cB cI) (aY (cB cA) (v:=(.bool _)) R (sN (bc (cB cI) (v:=(.bool _)) R ?_)))))))))))
       obtain rfl:=oI hv
       exact zS
      ·replace cA:=bF cA
       replace hv:=aA hv cA
       refine sF R R cA (sF R R cA (sF R R cA (sF R R cA (sF R R cA (sF R R cA (sF R R cA (sT R (cB cI) (bc (cB cA) (v:=(.bool _)) R (sN (bc (cB cI) (v:=(.bool _)) R ?_))))))))))
       obtain rfl:=oI hv
       exact zS
   clear hv
   refine LH.cond (t:=w5) R (fun gD=>?_) (fun gD=>?_)
   ·replace h:=aB h gD
    refine LH.aj R (cr R zQ) (LH.ret (bH (aO (dg (bH (aO ?_))))))
    obtain rfl:=oI h
    exact aJ (aT Tryz.results72) (bT R (bP ⟨aG mN,R,aN R,Sub.rfl⟩))
   replace h:=aA h gD
   refine LH.skip (aQ (ai (LH.bd R (sN (b8 R R (aZ R zQ))) ?_)))
   exact a7 ⟨(i64 (n1+1)),aI ▸ h,R,R⟩ (Wk.eq R R R R)
  replace h:=aA h dI
  refine LH.exit (cg (bO (bK (ai (LH.aj R (cr R zQ) (LH.ret ?_))))))
  obtain rfl:=oI h
  exact aJ (aT Tryz.results72) (bT R (bP ⟨aG mN,R,aN R,Sub.rfl⟩))
theorem UO {F:Nat} {p0:List ab} {p1:List Int} {p2:Int} {r:bG × Int} (h:Be F p0 p1 p2=some r):aF Tryz.prog 26 [.lst 5 (p0.map ab.lv),.L p1,.I p2] (Mem.of []) (.tup [.agg [.I r.1.Code,.lst 2 (r.1.Items.map aS.lv)],.I r.2]) (Mem.of []):=by
  unfold Be at h
  refine bh Tryz.func26 R (nT Tryz.ntmps26 R) (LH.aj R (sN (hD (id:=106) R DR R R (br R zQ))) (LH.seq ?_))
  obtain ⟨w2,hv,h⟩:=ae h
  refine LH.ax [(0,.lst 5 (p0.map ab.lv)),(1,.L p1),(2,.I p2),(6,.ptr 106 0),(23,.bool w2)] [(106,.box [.I 0,.nil])] R ?_ ?_
  ·refine aZ R (sN (eG R R (bZ R ?_)))
   by_cases hb3:(decide (p2<0))=true
   ·replace hv:=aB hv hb3
    refine sF R R hb3 (sF R R hb3 (sN (aY (cB hb3) (v:=(.bool _)) R (bZ R (sF R R R (sF R R R (sF R R R (sF R R R (sF R R R (sN (aY R (v:=(.bool _)) R ?_)))))))))))
    obtain rfl:=oI hv
    exact zS
   ·replace hb3:=bF hb3
    replace hv:=aA hv hb3
    refine sT R (cB hb3) (oM (v:=(.int _ _)) R (sT R (cB hb3) (jf R R (sN (bc (cB hb3) (v:=(.bool _)) R (bZ R ?_))))))
    by_cases bY:(decide (p2 > 9999))=true
    ·replace hv:=aB hv bY
     refine sF R R bY (sF R R bY (sF R R bY (sF R R bY (sF R R bY (sN (aY (cB bY) (v:=(.bool _)) R ?_))))))
     obtain rfl:=oI hv
     exact zS
    ·replace bY:=bF bY
     replace hv:=aA hv bY
     refine sT R (cB bY) (oM (v:=(.lst _ _)) R (sT R (cB bY) (oM (v:=(.lst _ _)) R (sT R (cB bY) (bW (f:=ab.lv) eR R ?_)))))
     obtain ⟨r5,vR,hv⟩:=ae hv
     refine sT R (cB bY) (dq (args:=[.L p1,.I (p0.length:Int)]) R TC R (aw (aw bl)) (Un vR) R (sT R (cB bY) (eM R (sN (bc (cB bY) (v:=(.bool _)) R ?_)))))
     obtain rfl:=oI hv
     exact zS
  clear hv
  refine LH.cond (t:=w2) R (fun fY=>?_) (fun fY=>?_)
  ·replace h:=aB h fY
   refine LH.ax [(6,.sptr [.I 0,.nil]),(7,.I 2)] [] R (sN (gJ (vs:=[]) Rf DR R gI (s_ (cM R R R rF qC R R R (br R (s0 ((Wk.trans (bM [(6,.ptr 106 0),(7,.I 2)] [(106,.box [.I 0,.nil])]) (Wk.trans (Wk.bD 106 [.I 0,.nil] R R R (cc R)) (Wk.eq R R R R)))))))))) (LH.ret (aO ?_))
   obtain rfl:=oI h
   exact aJ (aT Tryz.results26) (dN R rF GK qC R R (bT R (bP ⟨aG mN,R,aN R,(Sub.tup (sd (Sub.agg (aw (jC bl))) (aw bl)))⟩)))
  replace h:=aA h fY
  refine LH.skip (ai (LH.aj R (aZ R (sN (gJ (vs:=[(0,.I p2)]) Rf DR R (lf Re aW aD R R R gI) (sN (hD (id:=108) R DR R R (s_ (cM R R R rF qC R R R zQ))))))) (LH.seq (LH.aj R (dY R (sN (bW (f:=LV.I) bU R (aZ R zQ)))) (LH.block (LH.wk ((Wk.trans (bM [(0,.lst 5 (p0.map ab.lv)),(6,.ptr 106 0),(8,.ptr 108 0),(27,.L p1),(28,.I (p1.length:Int)),(29,.I 0)] [(106,.box [.I 0,.nil]),(108,.box [.I p2,.nil])]) (Wk.trans (bM [(0,.lst 5 (p0.map ab.lv)),(6,.ptr 106 0),(8,.ptr 108 0),(27,.L p1),(28,.I (p1.length:Int)),(29,.I 0)] [(106,.box [.I 0,.nil]),(108,.box [.I p2,.nil])]) (Wk.trans (Wk.oa 154 105 2 108 1 R R R R R (cc R)) (bM [(0,.lst 5 (p0.map ab.lv)),(6,.ptr 106 0),(8,.ptr 108 0),(27,.L p1),(28,.I (p1.length:Int)),(29,.I 0)] [(106,.box [.I 0,.nil]),(108,.box [.I p2,.arr 154 (List.length ([]:List aS))]),(154,.arr 105 2 (List.map aS.lv ([]:List aS)))]))))) (LH.loop (fun n e m=>∃ (n7:Int) (l8:List aS),Bn F p0 p1 p2 n n7 l8=some r∧e=Env.of [(0,.lst 5 (p0.map ab.lv)),(6,.ptr 106 0),(8,.ptr 108 0),(27,.L p1),(28,.I (p1.length:Int)),(29,.I n7)]∧m=Mem.of [(106,.box [.I 0,.nil]),(108,.box [.I p2,.arr 154 l8.length]),(154,.arr 105 2 (l8.map aS.lv))]) F ⟨0,([]:List aS),h,R,R⟩ ?_)))))))
  clear h
  rintro n e m ⟨n7,l8,h,rfl,rfl⟩
  rcases n with _ | n
  · cases (show Option.none=some _ from h)
  obtain ⟨aH,aI⟩:∃ f,f=Bn F p0 p1 p2 n:=⟨_,rfl⟩
  replace h:AA F p0 p1 p2 aH n7 l8=some r:=aI ▸ h
  unfold AA at h
  refine LH.aj R (sN (eG R R zQ)) (LH.seq (LH.cond (t:=(decide (n7<(p1.length:Int)))) R (fun ng=>?_) (fun ng=>?_)))
  ·replace h:=aB h ng
   refine LH.skip (ai (LH.seq (LH.block ?_)))
   obtain ⟨lr,oV,h⟩:=ae h
   refine LH.aj R (sN (eF (f:=LV.I) bU aD aW R R jB oV R (sN (bj R aD b5 (br R zQ))))) (LH.seq ?_)
   obtain ⟨lu,pA,h⟩:=ae h
   obtain ⟨fx,qZ,h⟩:=ae h
   refine LH.aj R (dY R (aZ R (sN (eF (f:=ab.lv) eR bA bn R R ab.ok pA R (sN (bw R bA c7 bn R R (sN (dq (args:=[ab.lv lu]) R qj R (aw bl) (yF qZ) R (sN (iC R R zQ)))))))))) (LH.cond (t:=(fx != 0)) R (fun jc=>?_) (fun jc=>?_))
   ·replace h:=aB h jc
    refine LH.ax [(6,.sptr [.I 0,.nil]),(7,.I 1)] [] R (sN (gJ (vs:=[]) Rf DR R gI (s_ (cM R R R rF qC R R R (br R (s0 ((Wk.trans (bM [(6,.ptr 106 0),(7,.I 1)] [(106,.box [.I 0,.nil])]) (Wk.trans (Wk.bD 106 [.I 0,.nil] R R R (cc R)) (Wk.eq R R R R)))))))))) (LH.ret (aO (bH (aO (dg (bH (aO ?_)))))))
    obtain rfl:=oI h
    exact aJ (aT Tryz.results26) (dN R rF GK qC R R (bT R (bP ⟨aG mN,R,aN R,(Sub.tup (sd (Sub.agg (aw (jC bl))) (aw bl)))⟩)))
   replace h:=aA h jc
   refine LH.skip (ai ?_)
   obtain ⟨pQ,Pr,h⟩:=ae h
   obtain ⟨pR,F2,h⟩:=ae h
   obtain ⟨y5,Pk,h⟩:=ae h
   refine LH.pE mixed [] [0,1108,0,0,0,0,0,0,0,0,0,0,0,0,2,0,100108] [(0,.lst 5 (p0.map ab.lv)),(6,.ptr 106 0),(8,.ptr 108 0),(27,.L p1),(28,.I (p1.length:Int)),(29,.I n7)] [(106,.box [.I 0,.nil]),(108,.box [.I p2,.arr 154 y5.length]),(154,.arr 105 2 (y5.map aS.lv))] R R (by kernel_rfl) ?_ ?_
   ·exact aX (fo og oZ yR R R ⟨R,mD R R R (fun _ b _ d=>dv R b R R oZ DD d) (vX R (iT R (aX (eF (f:=ab.lv) eR bA bn R R ab.ok Pr R ⟨R,aX (aC dZ aD aW R R R ⟨R,aX (bj R aD b5 ⟨R,vX R (iT R (aX (eF (f:=ab.lv) eR bA bn R R ab.ok F2 R ⟨R,aX (aC gh aD aW R R R ⟨R,aX (bj R aD b5 ⟨R,aX (gJ (vs:=[(0,.I pQ.ID),(1,.I pR.Version)]) xP xQ R (lf jo aW aD R R R (lf fq aW aD R R R gI)) ⟨R,aX (jU (f:=aS.lv) (ys:=[(aS.mk pQ.ID pR.Version)]) mA E6 dW R R R aS.ok ⟨R,yt (rT (f:=aS.lv) mA E6 dW R R (cc R) R Pk (aX (fo og oZ yR R R ⟨R,mS R R R (fun _ b _ d=>cM R R R oZ yR b R R d) zM⟩)))⟩)⟩)⟩)⟩)⟩)))⟩)⟩)⟩))))⟩)
   refine aQ (ai (LH.bd R (sN (b8 R R (aZ R zQ))) ?_))
   exact a7 ⟨(i64 (n7+1)),y5,aI ▸ h,R,R⟩ (Wk.eq R R R R)
  replace h:=aA h ng
  refine LH.exit (cg (bO (bK (ai (LH.wk ((Wk.trans (bM [(6,.ptr 106 0),(8,.ptr 108 0)] [(106,.box [.I 0,.nil]),(108,.box [.I p2,.arr 154 l8.length]),(154,.arr 105 2 (l8.map aS.lv))]) (Wk.trans (bM [(6,.ptr 106 0),(8,.ptr 108 0)] [(106,.box [.I 0,.nil]),(108,.box [.I p2,.arr 154 l8.length]),(154,.arr 105 2 (l8.map aS.lv))]) (Wk.trans (Wk.trans (Wk.ez (f:=aS.lv) 154 105 2 l8 108 R R R (cC R (gS gR)) R R (cc R)) (bM [(6,.ptr 106 0),(8,.ptr 108 0)] [(106,.box [.I 0,.nil]),(108,.box [.I p2,.lst 2 (l8.map aS.lv)])])) (Wk.trans (Wk.bD 108 [.I p2,.lst 2 (l8.map aS.lv)] R R R (cc R)) (bM [(6,.ptr 106 0),(8,.sptr [.I p2,.lst 2 (l8.map aS.lv)])] [(106,.box [.I 0,.nil])])))))) (LH.ax [(6,.sptr [.I p2,.lst 2 (l8.map aS.lv)]),(7,.I 0)] [] R (sN (bw R rF GK qC R R (s_ (cM R R R rF qC R R R (br R (s0 ((Wk.trans (bM [(6,.ptr 106 0),(7,.I 0)] [(106,.box [.I p2,.lst 2 (l8.map aS.lv)])]) (Wk.trans (Wk.bD 106 [.I p2,.lst 2 (l8.map aS.lv)] R R R (cc R)) (Wk.eq R R R R)))))))))) (LH.ret ?_)))))))
  obtain rfl:=oI h
  exact aJ (aT Tryz.results26) (dN R rF GK qC R R (bT R (bP ⟨aG mN,R,aN R,(Sub.tup (aw (aw bl)))⟩)))
theorem Ut {F:Nat} {p0:ay} {r:ay} (h:AY F p0=some r):aF Tryz.prog 146 [ay.lv p0] (Mem.of []) (.agg [.I r.ID,.arr 109 r.ah.length,.arr 128 r.au.length,.arr 132 r.Uses.length,.bool r.ao]) (Mem.of [(109,.arr 108 5 (r.ah.map ab.lv)),(128,.arr 4 1 (r.au.map LV.bool)),(132,.arr 182 3 (r.Uses.map bI.lv))]):=by
  unfold AY at h
  refine bh Tryz.func146 R (nT Tryz.ntmps146 R) (LH.aj R (sN (TS (id:=101) R R R R R R (sN (hD (id:=102) R vn R R zQ)))) ?_)
  obtain ⟨v1,iR,h⟩:=ae h
  refine LH.aj R (sN (fo fJ iM oi R R (sN (dv R R R R iM sJ (sN (bW (f:=ab.lv) eR R (sX (Jl (f:=ab.lv) (z:=(ab.mk 0 0 (ByteArray.mk #[]) [] [])) (id:=109) R eR jO u9 bn R R R (Sub.agg (aw (aw (aw (jC (jC bl)))))) ab.ok iR R) (uT R zQ)))))))) (LH.seq (LH.ax [(1,.ptr 101 0),(2,.ptr 102 0),(3,.arr 109 v1.length),(11,.lst 5 (p0.ah.map ab.lv)),(12,.I (p0.ah.length:Int)),(13,.I 0)] [(101,.box (ay.lv p0).cells),(102,.box [.I 0,.nil,.nil,.nil,.bool false]),(109,.arr 108 5 (v1.map ab.lv))] R (sN (fo fJ iM oi R R (sN (dv R R R R iM sJ (sN (bW (f:=ab.lv) eR R (aZ R zS))))))) (LH.block (LH.loop (fun n e m=>∃ (n2:Int) (l3:List ab),C9 p0 n n2 l3=some r∧e=Env.of [(1,.ptr 101 0),(2,.ptr 102 0),(3,.arr 109 l3.length),(11,.lst 5 (p0.ah.map ab.lv)),(12,.I (p0.ah.length:Int)),(13,.I n2)]∧m=Mem.of [(101,.box (ay.lv p0).cells),(102,.box [.I 0,.nil,.nil,.nil,.bool false]),(109,.arr 108 5 (l3.map ab.lv))]) F ⟨0,v1,h,R,R⟩ ?_))))
  clear h
  rintro n e m ⟨n2,l3,h,rfl,rfl⟩
  rcases n with _ | n
  · cases (show Option.none=some _ from h)
  obtain ⟨aH,aI⟩:∃ f,f=C9 p0 n:=⟨_,rfl⟩
  replace h:J7 p0 aH n2 l3=some r:=aI ▸ h
  unfold J7 at h
  refine LH.aj R (sN (eG R R zQ)) (LH.seq (LH.cond (t:=(decide (n2<(p0.ah.length:Int)))) R (fun jj=>?_) (fun jj=>?_)))
  ·replace h:=aB h jj
   refine LH.skip (ai (LH.seq (LH.block ?_)))
   obtain ⟨x5,nB,h⟩:=ae h
   refine LH.ax [(1,.ptr 101 0),(2,.ptr 102 0),(3,.arr 109 l3.length),(4,.I n2),(5,.sptr (ab.lv x5).cells),(11,.lst 5 (p0.ah.map ab.lv)),(12,.I (p0.ah.length:Int)),(13,.I n2)] [(101,.box (ay.lv p0).cells),(102,.box [.I 0,.nil,.nil,.nil,.bool false]),(109,.arr 108 5 (l3.map ab.lv))] R (aZ R (sN (eF (f:=ab.lv) eR bA bn R R ab.ok nB R (sN (bw R bA c7 bn R R (sN (hD (id:=105) R jO R R (br R (s_ (cM R R R bA bn R R R (s0 ((Wk.trans (bM [(1,.ptr 101 0),(2,.ptr 102 0),(3,.arr 109 l3.length),(4,.I n2),(5,.ptr 105 0),(11,.lst 5 (p0.ah.map ab.lv)),(12,.I (p0.ah.length:Int)),(13,.I n2)] [(101,.box (ay.lv p0).cells),(102,.box [.I 0,.nil,.nil,.nil,.bool false]),(105,.box (ab.lv x5).cells),(109,.arr 108 5 (l3.map ab.lv))]) (Wk.trans (Wk.bD 105 (ab.lv x5).cells R R R (cc R)) (Wk.eq R R R R))))))))))))))) ?_
   obtain ⟨r6,Ip,h⟩:=ae h
   obtain ⟨x7,vA,h⟩:=ae h
   refine LH.df [(1,.ptr 101 0),(2,.ptr 102 0),(3,.arr 109 (List.length (l3.set n2.toNat r6))),(11,.lst 5 (p0.ah.map ab.lv)),(12,.I (p0.ah.length:Int)),(13,.I n2)] [(101,.box (ay.lv p0).cells),(102,.box [.I 0,.nil,.nil,.nil,.bool false]),(109,.arr 108 5 (List.map ab.lv (l3.set n2.toNat r6)))] R (lq R (aZ R (sN (bw R bA c7 bn R R (sN (dq (args:=[ab.lv x5]) R ui R (aw bl) (AQ Ip) R (sN (fP (f:=ab.lv) eR bA bn R R R vA (s_ (nZ (f:=ab.lv) (z':=r6) R R R R bA bn R (dp vA).2 R (s0 (Wk.to (eC R (eC R (eC (congrArg (LV.arr 109) (by simp)) (eC R (eC R (eC R eN)))))) ⟨R,R,R,trivial⟩ R (aN R))))))))))))) (aQ (ai (LH.bd R (sN (b8 R R (aZ R zQ))) ?_)))
   exact a7 ⟨(i64 (n2+1)),(l3.set n2.toNat r6),aI ▸ h,R,R⟩ (Wk.eq R R R R)
  replace h:=aA h jj
  refine LH.exit (cg (bO (bK (ai (LH.aj R (lq R (sN (fo fJ iM oi R R (s_ (cM R R R iM oi R R R zQ))))) ?_)))))
  obtain ⟨v8,SZ,h⟩:=ae h
  refine LH.aj R (sN (fo iK gW lV R R (sN (dv R R R R gW si (sN (ej (args:=[.lst 1 (p0.au.map LV.bool)]) (ml:=[]) (cS:=[(128,.arr 4 1 (v8.map LV.bool))]) R P5 R (aw bl) (lG (g:=LV.bool) Fw R 128 SZ) mN (kE R bX) R (sN (fo iK gW lV R R (s_ (cM R R R gW lV R R R zQ)))))))))) ?_
  obtain ⟨v9,XO,h⟩:=ae h
  refine LH.aj R (sN (fo jq iw nr R R (sN (dv R R R R iw sj (sN (ej (args:=[.lst 3 (p0.Uses.map bI.lv)]) (ml:=[]) (cS:=[(132,.arr 182 3 (v9.map bI.lv))]) R P6 R (aw bl) (lG (g:=bI.lv) Fx R 132 XO) mN (kE R bX) R (sN (fo jq iw nr R R (s_ (cM R R R iw nr R R R zQ)))))))))) (LH.aj R (sN (kp R R R fE od fk R R (s_ (cM R R R fE fk R R R zQ)))) (LH.ret ?_))
  obtain rfl:=oI h
  exact aJ (aT Tryz.results146) (Qq R R R fE od fk R R (bP ⟨aG (mC R (mC R (mC R mN))),R,aN R,Sub.rfl⟩))
theorem xc {F:Nat} {p0:bx} {r:bx} (h:wb F p0=some r):aF Tryz.prog 76 [.agg [.lst 5 (p0.aa.map ay.lv)]] (Mem.of []) (.agg [.arr 812 r.aa.length]) (Mem.of [(812,gE (r.aa.map ay.lv))]):=by
  unfold wb at h
  refine bh Tryz.func76 R (nT Tryz.ntmps76 R) (LH.aj R (sB (dm R R R R (sN (hD (id:=102) R jJ R R zQ)))) ?_)
  obtain ⟨v1,iR,h⟩:=ae h
  refine LH.aj R (sN (aC jh jI qB R R R (sN (bj R jI u0 (sN (bW (f:=ay.lv) mz R (sX ((QF (f:=ay.lv) (z':=(ay.mk 0 [] [] [] false)) (v:=v1) (id:=812) (os:=[(1,108,5),(2,4,1),(3,182,3)]) mz vn NP fk R R iR R R R).ok) (uT R zQ)))))))) (LH.seq (LH.ax [(2,.ptr 102 0),(3,.arr 812 v1.length),(11,.lst 5 (p0.aa.map ay.lv)),(12,.I (p0.aa.length:Int)),(13,.I 0)] [(102,.box [.nil]),(812,gE (v1.map ay.lv))] R (sN (aC jh jI qB R R R (sN (bj R jI u0 (sN (bW (f:=ay.lv) mz R (aZ R zS))))))) (LH.block (LH.loop (fun n e m=>∃ (n2:Int) (l3:List ay),Dg F p0 n n2 l3=some r∧e=Env.of [(2,.ptr 102 0),(3,.arr 812 l3.length),(11,.lst 5 (p0.aa.map ay.lv)),(12,.I (p0.aa.length:Int)),(13,.I n2)]∧m=Mem.of [(102,.box [.nil]),(812,gE (l3.map ay.lv))]) F ⟨0,v1,h,R,R⟩ ?_))))
  clear h
  rintro n e m ⟨n2,l3,h,rfl,rfl⟩
  rcases n with _ | n
  · cases (show Option.none=some _ from h)
  obtain ⟨aH,aI⟩:∃ f,f=Dg F p0 n:=⟨_,rfl⟩
  replace h:As F p0 aH n2 l3=some r:=aI ▸ h
  unfold As at h
  refine LH.aj R (sN (eG R R zQ)) (LH.seq (LH.cond (t:=(decide (n2<(p0.aa.length:Int)))) R (fun jj=>?_) (fun jj=>?_)))
  ·replace h:=aB h jj
   refine LH.skip (ai (LH.seq (LH.block ?_)))
   obtain ⟨x5,nB,h⟩:=ae h
   refine LH.ax [(2,.ptr 102 0),(3,.arr 812 l3.length),(4,.I n2),(5,.sptr (ay.lv x5).cells),(11,.lst 5 (p0.aa.map ay.lv)),(12,.I (p0.aa.length:Int)),(13,.I n2)] [(102,.box [.nil]),(812,gE (l3.map ay.lv))] R (aZ R (sN (eF (f:=ay.lv) mz fE fk R R ay.ok nB R (sN (bw R fE od fk R R (sN (hD (id:=105) R vn R R (br R (s_ (cM R R R fE fk R R R (s0 ((Wk.trans (bM [(2,.ptr 102 0),(3,.arr 812 l3.length),(4,.I n2),(5,.ptr 105 0),(11,.lst 5 (p0.aa.map ay.lv)),(12,.I (p0.aa.length:Int)),(13,.I n2)] [(102,.box [.nil]),(105,.box (ay.lv x5).cells),(812,gE (l3.map ay.lv))]) (Wk.trans (Wk.bD 105 (ay.lv x5).cells R R R (cc R)) (Wk.eq R R R R))))))))))))))) ?_
   obtain ⟨r6,Ip,h⟩:=ae h
   obtain ⟨x7,vA,h⟩:=ae h
   refine LH.df [(2,.ptr 102 0),(3,.arr 812 (List.length (l3.set (n2).toNat r6))),(11,.lst 5 (p0.aa.map ay.lv)),(12,.I (p0.aa.length:Int)),(13,.I n2)] [(102,.box [.nil]),(812,gE (List.map ay.lv (l3.set (n2).toNat r6)))] R (lq R (aZ R (sN (bw R fE od fk R R (sN (ej (args:=[ay.lv x5]) (ml:=[]) (cS:=[(109,.arr 108 5 (r6.ah.map ab.lv)),(128,.arr 4 1 (r6.au.map LV.bool)),(132,.arr 182 3 (r6.Uses.map bI.lv))]) R PR R (aw bl) (Ut Ip) mN (kE R (kE R (kE R bX))) R (sX ((Ji (f:=ay.lv) (xs:=l3) mz fE fk R R R R vA).ok) (KW ((QL (f:=ay.lv) (xs:=l3) (z':=r6) R R R vA R fE fk R R (Vy R R (RT (g:=ab.lv) (ys:=r6.ah) R R (RT (g:=LV.bool) (ys:=r6.au) R R (RT (g:=bI.lv) (ys:=r6.Uses) R R (Vy R R YZ))))) (by decide) (R6 (cc R) (R6 (cc R) (R6 (cc R) Y3))) R).ok) (s0 (Wk.to (eC R (eC (congrArg (LV.arr 812) (by simp)) (eC R (eC R (eC R eN))))) ⟨R,R,trivial⟩ R (aN R))))))))))) (aQ (ai (LH.bd R (sN (b8 R R (aZ R zQ))) ?_)))
   exact a7 ⟨(i64 (n2+1)),(l3.set (n2).toNat r6),aI ▸ h,R,R⟩ (Wk.eq R R R R)
  replace h:=aA h jj
  refine LH.exit (cg (bO (bK (ai (LH.aj R (lq R (sN (gJ (vs:=[(0,.arr 812 l3.length)]) wh jJ R (lf jh qB jI R R R gI) (s_ (cM R R R cX cY R R R zQ))))) (LH.ret ?_))))))
  obtain rfl:=oI h
  exact aJ (aT Tryz.results76) (Qq R R R cX eT cY R R (bP ⟨aG (mC R mN),R,aN R,Sub.rfl⟩))
set_option maxHeartbeats 4000000 in
theorem UX {F:Nat} {p0:bx} {p1:ba} {r:bx × Int} (h:xx F p0 p1=some r):aF Tryz.prog 27 [.agg [.lst 5 (p0.aa.map ay.lv)],ba.lv p1] (Mem.of []) (.tup [.agg [.lst 5 (r.1.aa.map ay.lv)],.I r.2]) (Mem.of []):=by
  unfold xx at h
  refine bh Tryz.func27 R (nT Tryz.ntmps27 R) (LH.aj R (sB (dm R R R R (sB (dm R R R R (sN (hD (id:=104) R jJ R R (br R zQ))))))) (LH.seq ?_))
  obtain ⟨r1,dR,h⟩:=ae h
  refine LH.aj R (sN (bw R cX eT cY R R (sN (dq (args:=[.agg [.lst 5 (p0.aa.map ay.lv)]]) R M0 R (aw bl) (NA dR) R (sN (eM R zQ)))))) (LH.cond (t:=(!r1)) R (fun dI=>?_) (fun dI=>?_))
  ·replace h:=aB h dI
   refine LH.ax [(4,.sptr [.nil]),(5,.I 1)] [] R (sN (gJ (vs:=[]) wh jJ R gI (s_ (cM R R R cX cY R R R (br R (s0 ((Wk.trans (bM [(4,.ptr 104 0),(5,.I 1)] [(104,.box [.nil])]) (Wk.trans (Wk.bD 104 [.nil] R R R (cc R)) (Wk.eq R R R R)))))))))) (LH.ret (aO ?_))
   obtain rfl:=oI h
   exact aJ (aT Tryz.results27) (dN R cX eT cY R R (bT R (bP ⟨aG mN,R,aN R,(Sub.tup (sd (Sub.agg (jC bl)) (aw bl)))⟩)))
  replace h:=aA h dI
  refine LH.skip (ai ?_)
  by_cases Rx:(p1.Kind == 1)=true
  ·replace h:=aB h Rx
   refine LH.du mixed [] [2,0,0,3,0,0,0,0,0] [(2,.sptr [.lst 5 (p0.aa.map ay.lv)]),(3,.sptr (ba.lv p1).cells),(4,.ptr 104 0),(6,.fn 141 []),(7,.bool true)] [(104,.box [.nil])] R R (by kernel_rfl) (yt (ej (args:=[]) (ml:=[]) (cS:=[(14501,.map 3 171 (je LV.I dM c8))]) R rS R bl (Bo (F:=F) (r:=c8) R) mN (kE R bX) R (aX (aC dB aD aW R R R ⟨R,aX (bj R aD b5 ⟨R,mX (eY (f:=LV.I) (g:=dM) (xs:=c8) (key:=1) (z:=0) (o:=some 1) ix lM wQ R R (congrArg LV.I (eq_of_beq Rx)) kU R) (KT R (aX (fL R R ⟨R,aX (fL R R ⟨R,RH R (LN R zM)⟩)⟩)))⟩)⟩)))) (LH.seq (LH.aj R (bZ R (sN (eM R zQ))) (LH.cond (t:=false) R (fun jj=>?_) (fun jj=>?_))))
   ·cases jj
   refine LH.skip (ai ?_)
   obtain ⟨r5,vR,h⟩:=ae h
   refine LH.aj R (sN (bw R cX eT cY R R (sN (ej (args:=[.agg [.lst 5 (p0.aa.map ay.lv)]]) (ml:=[]) (cS:=[(812,gE (r5.aa.map ay.lv))]) R wL R (aw bl) (xc vR) mN (kE R bX) R (sX (gp 711 R jJ R R) (s_ (cM R R R cX cY R R R zQ))))))) (LH.seq ?_)
   obtain ⟨r6,Ip,h⟩:=ae h
   refine LH.aj R (sN (oM (v:=(.fn _ _)) R (sN (bw R eB iv dJ R R (sN (ej (args:=[.ptr 811 0,ba.lv p1]) (ml:=[(811,.box [.arr 812 r5.aa.length]),(812,gE (r5.aa.map ay.lv))]) (cS:=[(811,.box [.arr 812 r6.2.aa.length]),(812,gE (r6.2.aa.map ay.lv))]) R II R (aw (aw bl)) (Nx Ip) ⟨R,R,trivial⟩ (bu R (bu R bX)) R (br R zQ))))))) (LH.aj R (aZ R (sN (iC R R zQ))) (LH.cond (t:=(r6.1 != 0)) R (fun ln=>?_) (fun ln=>?_)))
   ·replace h:=aB h ln
    refine LH.ax [(4,.sptr [.nil]),(5,.I r6.1)] [] R (sN (gJ (vs:=[]) wh jJ R gI (aZ R (s_ (cM R R R cX cY R R R (br R (s0 ((Wk.trans (bM [(4,.ptr 104 0),(5,.I r6.1)] [(104,.box [.nil])]) (Wk.trans (Wk.bD 104 [.nil] R R R (cc R)) (Wk.eq R R R R))))))))))) (LH.ret (aO ?_))
    obtain rfl:=oI h
    exact aJ (aT Tryz.results27) (dN R cX eT cY R R (bT R (bP ⟨aG mN,R,aN R,(Sub.tup (sd (Sub.agg (jC bl)) (aw bl)))⟩)))
   replace h:=aA h ln
   refine LH.skip (ai (LH.ax [(4,.sptr [.lst 5 (r6.2.aa.map ay.lv)]),(5,.I 0)] [] R (cJ.wk (bM [(4,.ptr 104 0),(8,.ptr 811 0)] [(104,.box [.nil]),(811,.box [.arr 812 r6.2.aa.length]),(812,gE (r6.2.aa.map ay.lv))]) (cJ.wk (Wk.trans (Wk.trans (Wk.oj (f:=ay.lv) 812 179 5 [(1,108,5),(2,4,1),(3,182,3)] r6.2.aa R ay.ok) (bM [(4,.ptr 104 0),(8,.ptr 811 0)] [(104,.box [.nil]),(811,.box [.arr 812 r6.2.aa.length]),(812,.arr 179 5 (r6.2.aa.map ay.lv))])) (Wk.trans (Wk.ez (f:=ay.lv) 812 179 5 r6.2.aa 811 R R R (gS gR) R R (cc R)) (bM [(4,.ptr 104 0),(8,.ptr 811 0)] [(104,.box [.nil]),(811,.box [.lst 5 (r6.2.aa.map ay.lv)])]))) (sN (kp R R R cX eT cY R R (s_ (cM R R R cX cY R R R (br R (s0 ((Wk.trans (bM [(4,.ptr 104 0),(5,.I 0)] [(104,.box [.lst 5 (r6.2.aa.map ay.lv)])]) (Wk.trans (Wk.bD 104 [.lst 5 (r6.2.aa.map ay.lv)] R R R (cc R)) (Wk.eq R R R R)))))))))))) (LH.ret ?_)))
   obtain rfl:=oI h
   exact aJ (aT Tryz.results27) (dN R cX eT cY R R (bT R (bP ⟨aG mN,R,aN R,(Sub.tup (aw (aw bl)))⟩)))
  replace Rx:=bF Rx
  replace h:=aA h Rx
  by_cases Ry:(p1.Kind == 2)=true
  ·replace h:=aB h Ry
   refine LH.du mixed [] [2,0,0,3,0,0,0,0,0] [(2,.sptr [.lst 5 (p0.aa.map ay.lv)]),(3,.sptr (ba.lv p1).cells),(4,.ptr 104 0),(6,.fn 142 []),(7,.bool true)] [(104,.box [.nil])] R R (by kernel_rfl) (yt (ej (args:=[]) (ml:=[]) (cS:=[(14501,.map 3 171 (je LV.I dM c8))]) R rS R bl (Bo (F:=F) (r:=c8) R) mN (kE R bX) R (aX (aC dB aD aW R R R ⟨R,aX (bj R aD b5 ⟨R,mX (eY (f:=LV.I) (g:=dM) (xs:=c8) (key:=2) (z:=0) (o:=some 2) ix lM wQ R R (congrArg LV.I (eq_of_beq Ry)) kU R) (KT R (aX (fL R R ⟨R,aX (fL R R ⟨R,RH R (LN R zM)⟩)⟩)))⟩)⟩)))) (LH.seq (LH.aj R (bZ R (sN (eM R zQ))) (LH.cond (t:=false) R (fun ng=>?_) (fun ng=>?_))))
   ·cases ng
   refine LH.skip (ai ?_)
   obtain ⟨ea,pz,h⟩:=ae h
   refine LH.aj R (sN (bw R cX eT cY R R (sN (ej (args:=[.agg [.lst 5 (p0.aa.map ay.lv)]]) (ml:=[]) (cS:=[(812,gE (ea.aa.map ay.lv))]) R wL R (aw bl) (xc pz) mN (kE R bX) R (sX (gp 711 R jJ R R) (s_ (cM R R R cX cY R R R zQ))))))) (LH.seq ?_)
   obtain ⟨da,k6,h⟩:=ae h
   refine LH.aj R (sN (oM (v:=(.fn _ _)) R (sN (bw R eB iv dJ R R (sN (ej (args:=[.ptr 811 0,ba.lv p1]) (ml:=[(811,.box [.arr 812 ea.aa.length]),(812,gE (ea.aa.map ay.lv))]) (cS:=[(811,.box [.arr 812 da.2.aa.length]),(812,gE (da.2.aa.map ay.lv))]) R IJ R (aw (aw bl)) (Nw k6) ⟨R,R,trivial⟩ (bu R (bu R bX)) R (br R zQ))))))) (LH.aj R (aZ R (sN (iC R R zQ))) (LH.cond (t:=(da.1 != 0)) R (fun gl=>?_) (fun gl=>?_)))
   ·replace h:=aB h gl
    refine LH.ax [(4,.sptr [.nil]),(5,.I da.1)] [] R (sN (gJ (vs:=[]) wh jJ R gI (aZ R (s_ (cM R R R cX cY R R R (br R (s0 ((Wk.trans (bM [(4,.ptr 104 0),(5,.I da.1)] [(104,.box [.nil])]) (Wk.trans (Wk.bD 104 [.nil] R R R (cc R)) (Wk.eq R R R R))))))))))) (LH.ret (aO ?_))
    obtain rfl:=oI h
    exact aJ (aT Tryz.results27) (dN R cX eT cY R R (bT R (bP ⟨aG mN,R,aN R,(Sub.tup (sd (Sub.agg (jC bl)) (aw bl)))⟩)))
   replace h:=aA h gl
   refine LH.skip (ai (LH.ax [(4,.sptr [.lst 5 (da.2.aa.map ay.lv)]),(5,.I 0)] [] R (cJ.wk (bM [(4,.ptr 104 0),(8,.ptr 811 0)] [(104,.box [.nil]),(811,.box [.arr 812 da.2.aa.length]),(812,gE (da.2.aa.map ay.lv))]) (cJ.wk (Wk.trans (Wk.trans (Wk.oj (f:=ay.lv) 812 179 5 [(1,108,5),(2,4,1),(3,182,3)] da.2.aa R ay.ok) (bM [(4,.ptr 104 0),(8,.ptr 811 0)] [(104,.box [.nil]),(811,.box [.arr 812 da.2.aa.length]),(812,.arr 179 5 (da.2.aa.map ay.lv))])) (Wk.trans (Wk.ez (f:=ay.lv) 812 179 5 da.2.aa 811 R R R (gS gR) R R (cc R)) (bM [(4,.ptr 104 0),(8,.ptr 811 0)] [(104,.box [.nil]),(811,.box [.lst 5 (da.2.aa.map ay.lv)])]))) (sN (kp R R R cX eT cY R R (s_ (cM R R R cX cY R R R (br R (s0 ((Wk.trans (bM [(4,.ptr 104 0),(5,.I 0)] [(104,.box [.lst 5 (da.2.aa.map ay.lv)])]) (Wk.trans (Wk.bD 104 [.lst 5 (da.2.aa.map ay.lv)] R R R (cc R)) (Wk.eq R R R R)))))))))))) (LH.ret ?_)))
   obtain rfl:=oI h
   exact aJ (aT Tryz.results27) (dN R cX eT cY R R (bT R (bP ⟨aG mN,R,aN R,(Sub.tup (aw (aw bl)))⟩)))
  replace Ry:=bF Ry
  replace h:=aA h Ry
  by_cases FP:(p1.Kind == 3)=true
  ·replace h:=aB h FP
   refine LH.du mixed [] [2,0,0,3,0,0,0,0,0] [(2,.sptr [.lst 5 (p0.aa.map ay.lv)]),(3,.sptr (ba.lv p1).cells),(4,.ptr 104 0),(6,.fn 143 []),(7,.bool true)] [(104,.box [.nil])] R R (by kernel_rfl) (yt (ej (args:=[]) (ml:=[]) (cS:=[(14501,.map 3 171 (je LV.I dM c8))]) R rS R bl (Bo (F:=F) (r:=c8) R) mN (kE R bX) R (aX (aC dB aD aW R R R ⟨R,aX (bj R aD b5 ⟨R,mX (eY (f:=LV.I) (g:=dM) (xs:=c8) (key:=3) (z:=0) (o:=some 3) ix lM wQ R R (congrArg LV.I (eq_of_beq FP)) kU R) (KT R (aX (fL R R ⟨R,aX (fL R R ⟨R,RH R (LN R zM)⟩)⟩)))⟩)⟩)))) (LH.seq (LH.aj R (bZ R (sN (eM R zQ))) (LH.cond (t:=false) R (fun jy=>?_) (fun jy=>?_))))
   ·cases jy
   refine LH.skip (ai ?_)
   obtain ⟨kC,ym,h⟩:=ae h
   refine LH.aj R (sN (bw R cX eT cY R R (sN (ej (args:=[.agg [.lst 5 (p0.aa.map ay.lv)]]) (ml:=[]) (cS:=[(812,gE (kC.aa.map ay.lv))]) R wL R (aw bl) (xc ym) mN (kE R bX) R (sX (gp 711 R jJ R R) (s_ (cM R R R cX cY R R R zQ))))))) (LH.seq ?_)
   obtain ⟨iz,yn,h⟩:=ae h
   refine LH.aj R (sN (oM (v:=(.fn _ _)) R (sN (bw R eB iv dJ R R (sN (ej (args:=[.ptr 811 0,ba.lv p1]) (ml:=[(811,.box [.arr 812 kC.aa.length]),(812,gE (kC.aa.map ay.lv))]) (cS:=[(811,.box [.arr 812 iz.2.aa.length]),(812,gE (iz.2.aa.map ay.lv))]) R IK R (aw (aw bl)) (Nu yn) ⟨R,R,trivial⟩ (bu R (bu R bX)) R (br R zQ))))))) (LH.aj R (aZ R (sN (iC R R zQ))) (LH.cond (t:=(iz.1 != 0)) R (fun tQ=>?_) (fun tQ=>?_)))
   ·replace h:=aB h tQ
    refine LH.ax [(4,.sptr [.nil]),(5,.I iz.1)] [] R (sN (gJ (vs:=[]) wh jJ R gI (aZ R (s_ (cM R R R cX cY R R R (br R (s0 ((Wk.trans (bM [(4,.ptr 104 0),(5,.I iz.1)] [(104,.box [.nil])]) (Wk.trans (Wk.bD 104 [.nil] R R R (cc R)) (Wk.eq R R R R))))))))))) (LH.ret (aO ?_))
    obtain rfl:=oI h
    exact aJ (aT Tryz.results27) (dN R cX eT cY R R (bT R (bP ⟨aG mN,R,aN R,(Sub.tup (sd (Sub.agg (jC bl)) (aw bl)))⟩)))
   replace h:=aA h tQ
   refine LH.skip (ai (LH.ax [(4,.sptr [.lst 5 (iz.2.aa.map ay.lv)]),(5,.I 0)] [] R (cJ.wk (bM [(4,.ptr 104 0),(8,.ptr 811 0)] [(104,.box [.nil]),(811,.box [.arr 812 iz.2.aa.length]),(812,gE (iz.2.aa.map ay.lv))]) (cJ.wk (Wk.trans (Wk.trans (Wk.oj (f:=ay.lv) 812 179 5 [(1,108,5),(2,4,1),(3,182,3)] iz.2.aa R ay.ok) (bM [(4,.ptr 104 0),(8,.ptr 811 0)] [(104,.box [.nil]),(811,.box [.arr 812 iz.2.aa.length]),(812,.arr 179 5 (iz.2.aa.map ay.lv))])) (Wk.trans (Wk.ez (f:=ay.lv) 812 179 5 iz.2.aa 811 R R R (gS gR) R R (cc R)) (bM [(4,.ptr 104 0),(8,.ptr 811 0)] [(104,.box [.nil]),(811,.box [.lst 5 (iz.2.aa.map ay.lv)])]))) (sN (kp R R R cX eT cY R R (s_ (cM R R R cX cY R R R (br R (s0 ((Wk.trans (bM [(4,.ptr 104 0),(5,.I 0)] [(104,.box [.lst 5 (iz.2.aa.map ay.lv)])]) (Wk.trans (Wk.bD 104 [.lst 5 (iz.2.aa.map ay.lv)] R R R (cc R)) (Wk.eq R R R R)))))))))))) (LH.ret ?_)))
   obtain rfl:=oI h
   exact aJ (aT Tryz.results27) (dN R cX eT cY R R (bT R (bP ⟨aG mN,R,aN R,(Sub.tup (aw (aw bl)))⟩)))
  replace FP:=bF FP
  replace h:=aA h FP
  by_cases FR:(p1.Kind == 4)=true
  ·replace h:=aB h FR
   refine LH.du mixed [] [2,0,0,3,0,0,0,0,0] [(2,.sptr [.lst 5 (p0.aa.map ay.lv)]),(3,.sptr (ba.lv p1).cells),(4,.ptr 104 0),(6,.fn 144 []),(7,.bool true)] [(104,.box [.nil])] R R (by kernel_rfl) (yt (ej (args:=[]) (ml:=[]) (cS:=[(14501,.map 3 171 (je LV.I dM c8))]) R rS R bl (Bo (F:=F) (r:=c8) R) mN (kE R bX) R (aX (aC dB aD aW R R R ⟨R,aX (bj R aD b5 ⟨R,mX (eY (f:=LV.I) (g:=dM) (xs:=c8) (key:=4) (z:=0) (o:=some 4) ix lM wQ R R (congrArg LV.I (eq_of_beq FR)) kU R) (KT R (aX (fL R R ⟨R,aX (fL R R ⟨R,RH R (LN R zM)⟩)⟩)))⟩)⟩)))) (LH.seq (LH.aj R (bZ R (sN (eM R zQ))) (LH.cond (t:=false) R (fun FK=>?_) (fun FK=>?_))))
   ·cases FK
   refine LH.skip (ai ?_)
   obtain ⟨pH,yo,h⟩:=ae h
   refine LH.aj R (sN (bw R cX eT cY R R (sN (ej (args:=[.agg [.lst 5 (p0.aa.map ay.lv)]]) (ml:=[]) (cS:=[(812,gE (pH.aa.map ay.lv))]) R wL R (aw bl) (xc yo) mN (kE R bX) R (sX (gp 711 R jJ R R) (s_ (cM R R R cX cY R R R zQ))))))) (LH.seq ?_)
   obtain ⟨er,yp,h⟩:=ae h
   refine LH.aj R (sN (oM (v:=(.fn _ _)) R (sN (bw R eB iv dJ R R (sN (ej (args:=[.ptr 811 0,ba.lv p1]) (ml:=[(811,.box [.arr 812 pH.aa.length]),(812,gE (pH.aa.map ay.lv))]) (cS:=[(811,.box [.arr 812 er.2.aa.length]),(812,gE (er.2.aa.map ay.lv))]) R IL R (aw (aw bl)) (ND yp) ⟨R,R,trivial⟩ (bu R (bu R bX)) R (br R zQ))))))) (LH.aj R (aZ R (sN (iC R R zQ))) (LH.cond (t:=(er.1 != 0)) R (fun mg=>?_) (fun mg=>?_)))
   ·replace h:=aB h mg
    refine LH.ax [(4,.sptr [.nil]),(5,.I er.1)] [] R (sN (gJ (vs:=[]) wh jJ R gI (aZ R (s_ (cM R R R cX cY R R R (br R (s0 ((Wk.trans (bM [(4,.ptr 104 0),(5,.I er.1)] [(104,.box [.nil])]) (Wk.trans (Wk.bD 104 [.nil] R R R (cc R)) (Wk.eq R R R R))))))))))) (LH.ret (aO ?_))
    obtain rfl:=oI h
    exact aJ (aT Tryz.results27) (dN R cX eT cY R R (bT R (bP ⟨aG mN,R,aN R,(Sub.tup (sd (Sub.agg (jC bl)) (aw bl)))⟩)))
   replace h:=aA h mg
   refine LH.skip (ai (LH.ax [(4,.sptr [.lst 5 (er.2.aa.map ay.lv)]),(5,.I 0)] [] R (cJ.wk (bM [(4,.ptr 104 0),(8,.ptr 811 0)] [(104,.box [.nil]),(811,.box [.arr 812 er.2.aa.length]),(812,gE (er.2.aa.map ay.lv))]) (cJ.wk (Wk.trans (Wk.trans (Wk.oj (f:=ay.lv) 812 179 5 [(1,108,5),(2,4,1),(3,182,3)] er.2.aa R ay.ok) (bM [(4,.ptr 104 0),(8,.ptr 811 0)] [(104,.box [.nil]),(811,.box [.arr 812 er.2.aa.length]),(812,.arr 179 5 (er.2.aa.map ay.lv))])) (Wk.trans (Wk.ez (f:=ay.lv) 812 179 5 er.2.aa 811 R R R (gS gR) R R (cc R)) (bM [(4,.ptr 104 0),(8,.ptr 811 0)] [(104,.box [.nil]),(811,.box [.lst 5 (er.2.aa.map ay.lv)])]))) (sN (kp R R R cX eT cY R R (s_ (cM R R R cX cY R R R (br R (s0 ((Wk.trans (bM [(4,.ptr 104 0),(5,.I 0)] [(104,.box [.lst 5 (er.2.aa.map ay.lv)])]) (Wk.trans (Wk.bD 104 [.lst 5 (er.2.aa.map ay.lv)] R R R (cc R)) (Wk.eq R R R R)))))))))))) (LH.ret ?_)))
   obtain rfl:=oI h
   exact aJ (aT Tryz.results27) (dN R cX eT cY R R (bT R (bP ⟨aG mN,R,aN R,(Sub.tup (aw (aw bl)))⟩)))
  replace FR:=bF FR
  replace h:=aA h FR
  by_cases FU:(p1.Kind == 5)=true
  ·replace h:=aB h FU
   refine LH.du mixed [] [2,0,0,3,0,0,0,0,0] [(2,.sptr [.lst 5 (p0.aa.map ay.lv)]),(3,.sptr (ba.lv p1).cells),(4,.ptr 104 0),(6,.fn 191 [.sptr [.bool true]]),(7,.bool true)] [(104,.box [.nil])] R R (by kernel_rfl) (yt (ej (args:=[]) (ml:=[]) (cS:=[(14501,.map 3 171 (je LV.I dM c8))]) R rS R bl (Bo (F:=F) (r:=c8) R) mN (kE R bX) R (aX (aC dB aD aW R R R ⟨R,aX (bj R aD b5 ⟨R,mX (eY (f:=LV.I) (g:=dM) (xs:=c8) (key:=5) (z:=0) (o:=some 5) ix lM wQ R R (congrArg LV.I (eq_of_beq FU)) kU R) (KT R (aX (fL R R ⟨R,aX (fL R R ⟨R,RH R (LN R zM)⟩)⟩)))⟩)⟩)))) (LH.seq (LH.aj R (bZ R (sN (eM R zQ))) (LH.cond (t:=false) R (fun vM=>?_) (fun vM=>?_))))
   ·cases vM
   refine LH.skip (ai ?_)
   obtain ⟨sA,O3,h⟩:=ae h
   refine LH.aj R (sN (bw R cX eT cY R R (sN (ej (args:=[.agg [.lst 5 (p0.aa.map ay.lv)]]) (ml:=[]) (cS:=[(812,gE (sA.aa.map ay.lv))]) R wL R (aw bl) (xc O3) mN (kE R bX) R (sX (gp 711 R jJ R R) (s_ (cM R R R cX cY R R R zQ))))))) (LH.seq ?_)
   obtain ⟨k9,Il,h⟩:=ae h
   refine LH.aj R (sN (oM (v:=(.fn _ _)) R (sN (bw R eB iv dJ R R (sN (ej (args:=[.ptr 811 0,ba.lv p1,.sptr [.bool true]]) (ml:=[(811,.box [.arr 812 sA.aa.length]),(812,gE (sA.aa.map ay.lv))]) (cS:=[(811,.box [.arr 812 k9.2.aa.length]),(812,gE (k9.2.aa.map ay.lv))]) R yr R (aw (aw (aw bl))) (Ev Il) ⟨R,R,trivial⟩ (bu R (bu R bX)) R (br R zQ))))))) (LH.aj R (aZ R (sN (iC R R zQ))) (LH.cond (t:=(k9.1 != 0)) R (fun tT=>?_) (fun tT=>?_)))
   ·replace h:=aB h tT
    refine LH.ax [(4,.sptr [.nil]),(5,.I k9.1)] [] R (sN (gJ (vs:=[]) wh jJ R gI (aZ R (s_ (cM R R R cX cY R R R (br R (s0 ((Wk.trans (bM [(4,.ptr 104 0),(5,.I k9.1)] [(104,.box [.nil])]) (Wk.trans (Wk.bD 104 [.nil] R R R (cc R)) (Wk.eq R R R R))))))))))) (LH.ret (aO ?_))
    obtain rfl:=oI h
    exact aJ (aT Tryz.results27) (dN R cX eT cY R R (bT R (bP ⟨aG mN,R,aN R,(Sub.tup (sd (Sub.agg (jC bl)) (aw bl)))⟩)))
   replace h:=aA h tT
   refine LH.skip (ai (LH.ax [(4,.sptr [.lst 5 (k9.2.aa.map ay.lv)]),(5,.I 0)] [] R (cJ.wk (bM [(4,.ptr 104 0),(8,.ptr 811 0)] [(104,.box [.nil]),(811,.box [.arr 812 k9.2.aa.length]),(812,gE (k9.2.aa.map ay.lv))]) (cJ.wk (Wk.trans (Wk.trans (Wk.oj (f:=ay.lv) 812 179 5 [(1,108,5),(2,4,1),(3,182,3)] k9.2.aa R ay.ok) (bM [(4,.ptr 104 0),(8,.ptr 811 0)] [(104,.box [.nil]),(811,.box [.arr 812 k9.2.aa.length]),(812,.arr 179 5 (k9.2.aa.map ay.lv))])) (Wk.trans (Wk.ez (f:=ay.lv) 812 179 5 k9.2.aa 811 R R R (gS gR) R R (cc R)) (bM [(4,.ptr 104 0),(8,.ptr 811 0)] [(104,.box [.nil]),(811,.box [.lst 5 (k9.2.aa.map ay.lv)])]))) (sN (kp R R R cX eT cY R R (s_ (cM R R R cX cY R R R (br R (s0 ((Wk.trans (bM [(4,.ptr 104 0),(5,.I 0)] [(104,.box [.lst 5 (k9.2.aa.map ay.lv)])]) (Wk.trans (Wk.bD 104 [.lst 5 (k9.2.aa.map ay.lv)] R R R (cc R)) (Wk.eq R R R R)))))))))))) (LH.ret ?_)))
   obtain rfl:=oI h
   exact aJ (aT Tryz.results27) (dN R cX eT cY R R (bT R (bP ⟨aG mN,R,aN R,(Sub.tup (aw (aw bl)))⟩)))
  replace FU:=bF FU
  replace h:=aA h FU
  by_cases FW:(p1.Kind == 6)=true
  ·replace h:=aB h FW
   refine LH.du mixed [] [2,0,0,3,0,0,0,0,0] [(2,.sptr [.lst 5 (p0.aa.map ay.lv)]),(3,.sptr (ba.lv p1).cells),(4,.ptr 104 0),(6,.fn 191 [.sptr [.bool false]]),(7,.bool true)] [(104,.box [.nil])] R R (by kernel_rfl) (yt (ej (args:=[]) (ml:=[]) (cS:=[(14501,.map 3 171 (je LV.I dM c8))]) R rS R bl (Bo (F:=F) (r:=c8) R) mN (kE R bX) R (aX (aC dB aD aW R R R ⟨R,aX (bj R aD b5 ⟨R,mX (eY (f:=LV.I) (g:=dM) (xs:=c8) (key:=6) (z:=0) (o:=some 6) ix lM wQ R R (congrArg LV.I (eq_of_beq FW)) kU R) (KT R (aX (fL R R ⟨R,aX (fL R R ⟨R,RH R (LN R zM)⟩)⟩)))⟩)⟩)))) (LH.seq (LH.aj R (bZ R (sN (eM R zQ))) (LH.cond (t:=false) R (fun Sg=>?_) (fun Sg=>?_))))
   ·cases Sg
   refine LH.skip (ai ?_)
   obtain ⟨EU,O4,h⟩:=ae h
   refine LH.aj R (sN (bw R cX eT cY R R (sN (ej (args:=[.agg [.lst 5 (p0.aa.map ay.lv)]]) (ml:=[]) (cS:=[(812,gE (EU.aa.map ay.lv))]) R wL R (aw bl) (xc O4) mN (kE R bX) R (sX (gp 711 R jJ R R) (s_ (cM R R R cX cY R R R zQ))))))) (LH.seq ?_)
   obtain ⟨ek,CI,h⟩:=ae h
   refine LH.aj R (sN (oM (v:=(.fn _ _)) R (sN (bw R eB iv dJ R R (sN (ej (args:=[.ptr 811 0,ba.lv p1,.sptr [.bool false]]) (ml:=[(811,.box [.arr 812 EU.aa.length]),(812,gE (EU.aa.map ay.lv))]) (cS:=[(811,.box [.arr 812 ek.2.aa.length]),(812,gE (ek.2.aa.map ay.lv))]) R yr R (aw (aw (aw bl))) (Ev CI) ⟨R,R,trivial⟩ (bu R (bu R bX)) R (br R zQ))))))) (LH.aj R (aZ R (sN (iC R R zQ))) (LH.cond (t:=(ek.1 != 0)) R (fun pt=>?_) (fun pt=>?_)))
   ·replace h:=aB h pt
    refine LH.ax [(4,.sptr [.nil]),(5,.I ek.1)] [] R (sN (gJ (vs:=[]) wh jJ R gI (aZ R (s_ (cM R R R cX cY R R R (br R (s0 ((Wk.trans (bM [(4,.ptr 104 0),(5,.I ek.1)] [(104,.box [.nil])]) (Wk.trans (Wk.bD 104 [.nil] R R R (cc R)) (Wk.eq R R R R))))))))))) (LH.ret (aO ?_))
    obtain rfl:=oI h
    exact aJ (aT Tryz.results27) (dN R cX eT cY R R (bT R (bP ⟨aG mN,R,aN R,(Sub.tup (sd (Sub.agg (jC bl)) (aw bl)))⟩)))
   replace h:=aA h pt
   refine LH.skip (ai (LH.ax [(4,.sptr [.lst 5 (ek.2.aa.map ay.lv)]),(5,.I 0)] [] R (cJ.wk (bM [(4,.ptr 104 0),(8,.ptr 811 0)] [(104,.box [.nil]),(811,.box [.arr 812 ek.2.aa.length]),(812,gE (ek.2.aa.map ay.lv))]) (cJ.wk (Wk.trans (Wk.trans (Wk.oj (f:=ay.lv) 812 179 5 [(1,108,5),(2,4,1),(3,182,3)] ek.2.aa R ay.ok) (bM [(4,.ptr 104 0),(8,.ptr 811 0)] [(104,.box [.nil]),(811,.box [.arr 812 ek.2.aa.length]),(812,.arr 179 5 (ek.2.aa.map ay.lv))])) (Wk.trans (Wk.ez (f:=ay.lv) 812 179 5 ek.2.aa 811 R R R (gS gR) R R (cc R)) (bM [(4,.ptr 104 0),(8,.ptr 811 0)] [(104,.box [.nil]),(811,.box [.lst 5 (ek.2.aa.map ay.lv)])]))) (sN (kp R R R cX eT cY R R (s_ (cM R R R cX cY R R R (br R (s0 ((Wk.trans (bM [(4,.ptr 104 0),(5,.I 0)] [(104,.box [.lst 5 (ek.2.aa.map ay.lv)])]) (Wk.trans (Wk.bD 104 [.lst 5 (ek.2.aa.map ay.lv)] R R R (cc R)) (Wk.eq R R R R)))))))))))) (LH.ret ?_)))
   obtain rfl:=oI h
   exact aJ (aT Tryz.results27) (dN R cX eT cY R R (bT R (bP ⟨aG mN,R,aN R,(Sub.tup (aw (aw bl)))⟩)))
  replace FW:=bF FW
  replace h:=aA h FW
  refine LH.du mixed [] [2,0,0,3,0,0,0,0,0] [(2,.sptr [.lst 5 (p0.aa.map ay.lv)]),(3,.sptr (ba.lv p1).cells),(4,.ptr 104 0),(6,.nilf),(7,.bool false)] [(104,.box [.nil])] R R (by kernel_rfl) (yt (ej (args:=[]) (ml:=[]) (cS:=[(14501,.map 3 171 (je LV.I dM c8))]) R rS R bl (Bo (F:=F) (r:=c8) R) mN (kE R bX) R (aX (aC dB aD aW R R R ⟨R,aX (bj R aD b5 ⟨R,mX (eY (f:=LV.I) (g:=dM) (xs:=c8) (key:=p1.Kind) (z:=0) (o:=none) ix lM wQ R R R kU (G4 Rx (G4 Ry (G4 FP (G4 FR (G4 FU (G4 FW R))))))) (KT R (aX (fL R R ⟨R,aX (fL R R ⟨R,aX (oA (v:=.nilf) R ⟨R,LN R zM⟩)⟩)⟩)))⟩)⟩)))) (LH.seq (LH.aj R (bZ R (sN (eM R zQ))) (LH.cond (t:=true) R (fun FL=>?_) (fun FL=>?_))))
  ·refine LH.ax [(4,.sptr [.nil]),(5,.I 2)] [] R (sN (gJ (vs:=[]) wh jJ R gI (s_ (cM R R R cX cY R R R (br R (s0 ((Wk.trans (bM [(4,.ptr 104 0),(5,.I 2)] [(104,.box [.nil])]) (Wk.trans (Wk.bD 104 [.nil] R R R (cc R)) (Wk.eq R R R R)))))))))) (LH.ret (aO ?_))
   obtain rfl:=oI h
   exact aJ (aT Tryz.results27) (dN R cX eT cY R R (bT R (bP ⟨aG mN,R,aN R,(Sub.tup (sd (Sub.agg (jC bl)) (aw bl)))⟩)))
  ·cases FL
theorem U3 {F:Nat} {p0:List Int} {p1:Int} {r:Bool} (h:lS F p0 p1=some r):aF Tryz.prog 29 [.L p0,.I p1] (Mem.of []) (.bool r) (Mem.of []):=by
  unfold lS at h
  refine bh Tryz.func29 R (nT Tryz.ntmps29 R) (LH.aj R (cr R zQ) (LH.seq (LH.ax [(0,.L p0),(1,.I p1),(5,.I 0)] [] R (br R zS) (LH.block (LH.loop (fun n e m=>∃ (n1:Int),rX p0 p1 n n1=some r∧e=Env.of [(0,.L p0),(1,.I p1),(5,.I n1)]∧m=Mem.of []) F ⟨0,h,R,R⟩ ?_)))))
  clear h
  rintro n e m ⟨n1,h,rfl,rfl⟩
  rcases n with _ | n
  · cases (show Option.none=some _ from h)
  obtain ⟨aH,aI⟩:∃ f,f=rX p0 p1 n:=⟨_,rfl⟩
  replace h:Bd p0 p1 aH n1=some r:=aI ▸ h
  unfold Bd at h
  refine LH.seq (LH.aj R (aZ R (dY R (sN (bW (f:=LV.I) bU R (sN (eG R R zQ)))))) (LH.cond (t:=(decide (n1<(p0.length:Int)))) R (fun dI=>?_) (fun dI=>?_)))
  ·replace h:=aB h dI
   refine LH.skip (ai (LH.seq (LH.block ?_)))
   obtain ⟨x3,fj,h⟩:=ae h
   refine LH.aj R (dY R (aZ R (sN (eF (f:=LV.I) bU aD aW R R jB fj R (sN (bj R aD b5 (aZ R (sN (iX R R zQ))))))))) (LH.cond (t:=(x3 == p1)) R (fun jj=>?_) (fun jj=>?_))
   ·replace h:=aB h jj
    refine LH.aj R (cr R zQ) (LH.ret (bH (aO (dg (bH (aO ?_))))))
    obtain rfl:=oI h
    exact aJ (aT Tryz.results29) (bT R (bP ⟨aG mN,R,aN R,Sub.rfl⟩))
   replace h:=aA h jj
   refine LH.skip (aQ (ai (LH.bd R (aZ R (sN (b8 R R (br R zQ)))) ?_)))
   exact a7 ⟨(i64 (n1+1)),aI ▸ h,R,R⟩ (Wk.eq R R R R)
  replace h:=aA h dI
  refine LH.exit (cg (bO (bK (ai (LH.aj R (cr R zQ) (LH.ret ?_))))))
  obtain rfl:=oI h
  exact aJ (aT Tryz.results29) (bT R (bP ⟨aG mN,R,aN R,Sub.rfl⟩))
theorem Up {F:Nat} {p0:List Int} {p1:Int} {r:Bool} (h:JG F p0 p1=some r):aF Tryz.prog 80 [.L p0,.I p1] (Mem.of []) (.bool r) (Mem.of []):=by
  unfold JG at h
  refine bh Tryz.func80 R (nT Tryz.ntmps80 R) (LH.aj R (cr R zQ) (LH.seq (LH.ax [(0,.L p0),(1,.I p1),(7,.L p0),(8,.I (p0.length:Int)),(9,.I 0)] [] R (dY R (sN (bW (f:=LV.I) bU R (aZ R zS)))) (LH.block (LH.loop (fun n e m=>∃ (n1:Int),Ey p0 p1 n n1=some r∧e=Env.of [(0,.L p0),(1,.I p1),(7,.L p0),(8,.I (p0.length:Int)),(9,.I n1)]∧m=Mem.of []) F ⟨0,h,R,R⟩ ?_)))))
  clear h
  rintro n e m ⟨n1,h,rfl,rfl⟩
  rcases n with _ | n
  · cases (show Option.none=some _ from h)
  obtain ⟨aH,aI⟩:∃ f,f=Ey p0 p1 n:=⟨_,rfl⟩
  replace h:Jz p0 p1 aH n1=some r:=aI ▸ h
  unfold Jz at h
  refine LH.aj R (sN (eG R R zQ)) (LH.seq (LH.cond (t:=(decide (n1<(p0.length:Int)))) R (fun dI=>?_) (fun dI=>?_)))
  ·replace h:=aB h dI
   refine LH.skip (ai (LH.seq (LH.block ?_)))
   obtain ⟨x3,fj,h⟩:=ae h
   refine LH.aj R (aZ R (sN (eF (f:=LV.I) bU aD aW R R jB fj R (sN (bj R aD b5 (br R (br R zQ))))))) ?_
   obtain ⟨w5,hv,h⟩:=ae h
   refine LH.ax [(0,.L p0),(1,.I p1),(7,.L p0),(8,.I (p0.length:Int)),(9,.I n1),(33,.bool w5)] [] R ?_ ?_
   ·refine aZ R (sN (eG R R (bZ R ?_)))
    by_cases bV:(decide (x3<0))=true
    ·replace hv:=aB hv bV
     refine sF R R bV (sF R R bV (sF R R bV (sN (aY (cB bV) (v:=(.bool _)) R (bZ R (sF R R R (sF R R R (sF R R R (sU R R (sU R R (sU R R (sU R R (sU R R (sU R R (sU R R (sF R R R (sN (aY R (v:=(.bool _)) R ?_))))))))))))))))))
     obtain rfl:=oI hv
     exact zS
    ·replace bV:=bF bV
     replace hv:=aA hv bV
     refine sT R (cB bV) (oM (v:=(.int _ _)) R (sT R (cB bV) (oM (v:=(.int _ _)) R (sT R (cB bV) (oY R R (sN (bc (cB bV) (v:=(.bool _)) R (bZ R ?_))))))))
     by_cases cI:(decide (x3 ≥ p1))=true
     ·replace hv:=aB hv cI
      refine sF R R cI (sF R R cI (sF R R cI (sU R R (sU R R (sU R R (sU R R (sU R R (sU R R (sU R R (sF R R cI (sN (aY (cB cI) (v:=(.bool _)) R ?_))))))))))))
      obtain rfl:=oI hv
      exact zS
     ·replace cI:=bF cI
      replace hv:=aA hv cI
      refine sT R (cB cI) (oM (v:=(.int _ _)) R (sT R (cB cI) (jf R R (sT R (cB cI) (oM (v:=(.bool _)) R ?_)))))
      by_cases cA:(decide (n1 > 0))=true
      ·replace hv:=aB hv cA
       refine sT R (cB cA) (oM (v:=(.lst _ _)) R (sT R (cB cA) (oM (v:=(.int _ _)) R (sT R (cB cA) (kq R R ?_)))))
       obtain ⟨x9,yZ,hv⟩:=ae hv
       refine sT R (cB cA) (eF (f:=LV.I) bU aD aW R R jB yZ R (sT R (cB cA) (bj R aD b5 (sT R (cB cA) (oM (v:=(.int _ _)) R (sT R (cB cA) (oY R R (sT R (cB cI) (aY (cB cA) (v:=(.bool _)) R (sN (bc (cB cI) (v:=(.bool _)) R ?_)))))))))))
       obtain rfl:=oI hv
       exact zS
      ·replace cA:=bF cA
       replace hv:=aA hv cA
       refine sF R R cA (sF R R cA (sF R R cA (sF R R cA (sF R R cA (sF R R cA (sF R R cA (sT R (cB cI) (bc (cB cA) (v:=(.bool _)) R (sN (bc (cB cI) (v:=(.bool _)) R ?_))))))))))
       obtain rfl:=oI hv
       exact zS
   clear hv
   refine LH.cond (t:=w5) R (fun gD=>?_) (fun gD=>?_)
   ·replace h:=aB h gD
    refine LH.aj R (cr R zQ) (LH.ret (bH (aO (dg (bH (aO ?_))))))
    obtain rfl:=oI h
    exact aJ (aT Tryz.results80) (bT R (bP ⟨aG mN,R,aN R,Sub.rfl⟩))
   replace h:=aA h gD
   refine LH.skip (aQ (ai (LH.bd R (sN (b8 R R (aZ R zQ))) ?_)))
   exact a7 ⟨(i64 (n1+1)),aI ▸ h,R,R⟩ (Wk.eq R R R R)
  replace h:=aA h dI
  refine LH.exit (cg (bO (bK (ai (LH.aj R (cr R zQ) (LH.ret ?_))))))
  obtain rfl:=oI h
  exact aJ (aT Tryz.results80) (bT R (bP ⟨aG mN,R,aN R,Sub.rfl⟩))
theorem Nn {F:Nat} {p0:nA} {r:Bool} (h:EM F p0=some r):aF Tryz.prog 37 [nA.lv p0] (Mem.of []) (.bool r) (Mem.of []):=by
  unfold EM at h
  refine bh Tryz.func37 R (nT Tryz.ntmps37 R) (LH.aj R (sB (dm R R R R (cr R zQ))) (LH.seq (LH.ax [(1,.sptr (nA.lv p0).cells),(22,.bool ((decide (p0.Code<0)) || ((decide (p0.Code > 31)) || ((decide (p0.Variant<0)) || (decide (p0.Variant ≥ 4))))))] [] R ?_ ?_)))
  ·refine sN (aC s7 aD aW R R R (sN (bj R aD b5 (sN (eG R R (bZ R ?_))))))
   by_cases hb2:(decide (p0.Code<0))=true
   ·exact sF R R hb2 (sF R R hb2 (sF R R hb2 (sN (aY (cB hb2) (v:=(.bool _)) R (bZ R (sF R R R (sF R R R (sF R R R (sN (aY R (v:=(.bool _)) R (bZ R (sF R R R (sF R R R (sF R R R (sN (aY R (v:=(.bool _)) R (s0 (Wk.to (eC R (eC (cB (mq hb2)) eN)) mN R (aN R)))))))))))))))))))
   ·replace hb2:=bF hb2
    refine sT R (cB hb2) (aC s7 aD aW R R R (sT R (cB hb2) (bj R aD b5 (sT R (cB hb2) (jf R R (sN (bc (cB hb2) (v:=(.bool _)) R (bZ R ?_))))))))
    by_cases hb3:(decide (p0.Code > 31))=true
    ·exact sF R R hb3 (sF R R hb3 (sF R R hb3 (sN (aY (cB hb3) (v:=(.bool _)) R (bZ R (sF R R R (sF R R R (sF R R R (sN (aY R (v:=(.bool _)) R (s0 (Wk.to (eC R (eC (cB (Eq.trans (mq hb3) (gN hb2))) eN)) mN R (aN R)))))))))))))
    ·replace hb3:=bF hb3
     refine sT R (cB hb3) (aC s8 aD aW R R R (sT R (cB hb3) (bj R aD b5 (sT R (cB hb3) (eG R R (sN (bc (cB hb3) (v:=(.bool _)) R (bZ R ?_))))))))
     by_cases bY:(decide (p0.Variant<0))=true
     ·exact sF R R bY (sF R R bY (sF R R bY (sN (aY (cB bY) (v:=(.bool _)) R (s0 (Wk.to (eC R (eC (cB (Eq.trans (Eq.trans (mq bY) (gN hb3)) (gN hb2))) eN)) mN R (aN R)))))))
     ·replace bY:=bF bY
      exact sT R (cB bY) (aC s8 aD aW R R R (sT R (cB bY) (bj R aD b5 (sT R (cB bY) (oY R R (sN (bc (cB bY) (v:=(.bool _)) R (s0 (Wk.to (eC R (eC (cB (Eq.trans (Eq.trans (gN bY) (gN hb3)) (gN hb2))) eN)) mN R (aN R))))))))))
  refine LH.cond (t:=((decide (p0.Code<0)) || ((decide (p0.Code > 31)) || ((decide (p0.Variant<0)) || (decide (p0.Variant ≥ 4)))))) R (fun gZ=>?_) (fun gZ=>?_)
  ·replace h:=aB h gZ
   refine LH.aj R (cr R zQ) (LH.ret (aO ?_))
   obtain rfl:=oI h
   exact aJ (aT Tryz.results37) (bT R (bP ⟨aG mN,R,aN R,Sub.rfl⟩))
  replace h:=aA h gZ
  refine LH.skip (ai (LH.seq (LH.ax [(1,.sptr (nA.lv p0).cells),(32,.bool ((decide ((p0.aK.length:Int)<1)) || (decide ((p0.aK.length:Int) > 24))))] [] R ?_ ?_)))
  ·refine sN (aC mE cE dP R R R (sN (bj R cE gf (sN (bW (f:=ag.lv) eP R (sN (eG R R (bZ R ?_))))))))
   by_cases cI:(decide ((p0.aK.length:Int)<1))=true
   ·exact sF R R cI (sF R R cI (sF R R cI (sF R R cI (sN (aY (cB cI) (v:=(.bool _)) R (s0 (Wk.to (eC R (eC (cB (mq cI)) eN)) mN R (aN R))))))))
   ·replace cI:=bF cI
    exact sT R (cB cI) (aC mE cE dP R R R (sT R (cB cI) (bj R cE gf (sT R (cB cI) (bW (f:=ag.lv) eP R (sT R (cB cI) (jf R R (sN (bc (cB cI) (v:=(.bool _)) R (s0 (Wk.to (eC R (eC (cB (gN cI)) eN)) mN R (aN R))))))))))))
  refine LH.cond (t:=((decide ((p0.aK.length:Int)<1)) || (decide ((p0.aK.length:Int) > 24)))) R (fun kf=>?_) (fun kf=>?_)
  ·replace h:=aB h kf
   refine LH.aj R (cr R zQ) (LH.ret (aO ?_))
   obtain rfl:=oI h
   exact aJ (aT Tryz.results37) (bT R (bP ⟨aG mN,R,aN R,Sub.rfl⟩))
  replace h:=aA h kf
  refine LH.skip (ai (LH.seq (LH.ax [(1,.sptr (nA.lv p0).cells),(34,.lst 6 (p0.aK.map ag.lv)),(35,.I (p0.aK.length:Int)),(36,.I 0)] [] R (sN (aC mE cE dP R R R (sN (bj R cE gf (sN (bW (f:=ag.lv) eP R (aZ R zS))))))) (LH.block (LH.loop (fun n e m=>∃ (n9:Int),EE F p0 n n9=some r∧e=Env.of [(1,.sptr (nA.lv p0).cells),(34,.lst 6 (p0.aK.map ag.lv)),(35,.I (p0.aK.length:Int)),(36,.I n9)]∧m=Mem.of []) F ⟨0,h,R,R⟩ ?_)))))
  clear h
  rintro n e m ⟨n9,h,rfl,rfl⟩
  rcases n with _ | n
  · cases (show Option.none=some _ from h)
  obtain ⟨aH,aI⟩:∃ f,f=EE F p0 n:=⟨_,rfl⟩
  replace h:JA F p0 aH n9=some r:=aI ▸ h
  unfold JA at h
  refine LH.aj R (sN (eG R R zQ)) (LH.seq (LH.cond (t:=(decide (n9<(p0.aK.length:Int)))) R (fun gD=>?_) (fun gD=>?_)))
  ·replace h:=aB h gD
   refine LH.skip (ai (LH.seq (LH.block ?_)))
   obtain ⟨lu,pA,h⟩:=ae h
   refine LH.ax [(1,.sptr (nA.lv p0).cells),(4,.sptr (ag.lv lu).cells),(34,.lst 6 (p0.aK.map ag.lv)),(35,.I (p0.aK.length:Int)),(36,.I n9)] [] R (sN (eF (f:=ag.lv) eP cT cF R R ag.ok pA R (sN (bw R cT fb cF R R (sN (hD (id:=104) R sq R R (s_ (cM R R R cT cF R R R (s0 ((Wk.trans (bM [(1,.sptr (nA.lv p0).cells),(4,.ptr 104 0),(34,.lst 6 (p0.aK.map ag.lv)),(35,.I (p0.aK.length:Int)),(36,.I n9)] [(104,.box (ag.lv lu).cells)]) (Wk.trans (Wk.bD 104 (ag.lv lu).cells R R R (cc R)) (Wk.eq R R R R))))))))))))) ?_
   obtain ⟨fx,qZ,h⟩:=ae h
   refine LH.aj R (sN (bw R cT fb cF R R (sN (dq (args:=[ag.lv lu]) R M3 R (aw bl) (Nq qZ) R (sN (eM R zQ)))))) (LH.cond (t:=(!fx)) R (fun jc=>?_) (fun jc=>?_))
   ·replace h:=aB h jc
    refine LH.aj R (cr R zQ) (LH.ret (bH (aO (dg (bH (aO ?_))))))
    obtain rfl:=oI h
    exact aJ (aT Tryz.results37) (bT R (bP ⟨aG mN,R,aN R,Sub.rfl⟩))
   replace h:=aA h jc
   refine LH.skip (aQ (ai (LH.bd R (sN (b8 R R (aZ R zQ))) ?_)))
   exact a7 ⟨(i64 (n9+1)),aI ▸ h,R,R⟩ (Wk.eq R R R R)
  replace h:=aA h gD
  refine LH.exit (cg (bO (bK (ai ?_))))
  obtain ⟨ct,q9,h⟩:=ae h
  refine LH.aj R (sN (aC mE cE dP R R R (sN (bj R cE gf (sN (dq (args:=[.lst 6 (p0.aK.map ag.lv)]) R IZ R (aw bl) (JK q9) R (sN (KV R R (cr R zQ))))))))) (LH.ret ?_)
  obtain rfl:=oI h
  exact aJ (aT Tryz.results37) (bT R (bP ⟨aG mN,R,aN R,Sub.rfl⟩))
theorem UM {F:Nat} {p0:List ab} {p1:List Int} {p2:Int} {p3:Int} {r:nA × Int} (h:EO F p0 p1 p2 p3=some r):aF Tryz.prog 36 [.lst 5 (p0.map ab.lv),.L p1,.I p2,.I p3] (Mem.of []) (.tup [nA.lv r.1,.I r.2]) (Mem.of []):=by
  unfold EO at h
  refine bh Tryz.func36 R (nT Tryz.ntmps36 R) (LH.aj R (sN (hD (id:=108) R vi R R (br R zQ))) (LH.seq ?_))
  obtain ⟨r1,dR,h⟩:=ae h
  refine LH.aj R (dY R (dY R (sN (bW (f:=ab.lv) eR R (sN (dq (args:=[.L p1,.I (p0.length:Int)]) R TF R (aw (aw bl)) (Up dR) R (sN (eM R zQ)))))))) (LH.cond (t:=(!r1)) R (fun dI=>?_) (fun dI=>?_))
  ·replace h:=aB h dI
   refine LH.ax [(8,.sptr [.I 0,.I 0,.nil]),(9,.I 2)] [] R (sN (gJ (vs:=[]) E9 vi R gI (s_ (cM R R R kQ kS R R R (br R (s0 ((Wk.trans (bM [(8,.ptr 108 0),(9,.I 2)] [(108,.box [.I 0,.I 0,.nil])]) (Wk.trans (Wk.bD 108 [.I 0,.I 0,.nil] R R R (cc R)) (Wk.eq R R R R)))))))))) (LH.ret (aO ?_))
   obtain rfl:=oI h
   exact aJ (aT Tryz.results36) (dN R kQ sg kS R R (bT R (bP ⟨aG mN,R,aN R,(Sub.tup (sd (Sub.agg (aw (aw (jC bl)))) (aw bl)))⟩)))
  replace h:=aA h dI
  refine LH.skip (ai (LH.aj R (aZ R (aZ R (sN (gJ (vs:=[(0,.I p2),(1,.I p3)]) E9 vi R (lf s7 aW aD R R R (lf s8 aW aD R R R gI)) (sN (hD (id:=110) R vi R R (s_ (cM R R R kQ kS R R R zQ)))))))) (LH.seq (LH.aj R (dY R (sN (bW (f:=LV.I) bU R (aZ R zQ)))) (LH.block (LH.wk ((Wk.trans (bM [(0,.lst 5 (p0.map ab.lv)),(8,.ptr 108 0),(10,.ptr 110 0),(22,.L p1),(23,.I (p1.length:Int)),(24,.I 0)] [(108,.box [.I 0,.I 0,.nil]),(110,.box [.I p2,.I p3,.nil])]) (Wk.trans (bM [(0,.lst 5 (p0.map ab.lv)),(8,.ptr 108 0),(10,.ptr 110 0),(22,.L p1),(23,.I (p1.length:Int)),(24,.I 0)] [(108,.box [.I 0,.I 0,.nil]),(110,.box [.I p2,.I p3,.nil])]) (Wk.trans (Wk.oa 142 185 6 110 2 R R R R R (cc R)) (bM [(0,.lst 5 (p0.map ab.lv)),(8,.ptr 108 0),(10,.ptr 110 0),(22,.L p1),(23,.I (p1.length:Int)),(24,.I 0)] [(108,.box [.I 0,.I 0,.nil]),(110,.box [.I p2,.I p3,.arr 142 (List.length ([]:List ag))]),(142,.arr 185 6 (List.map ag.lv ([]:List ag)))]))))) (LH.loop (fun n e m=>∃ (n3:Int) (l4:List ag),EH F p0 p1 p2 p3 n n3 l4=some r∧e=Env.of [(0,.lst 5 (p0.map ab.lv)),(8,.ptr 108 0),(10,.ptr 110 0),(22,.L p1),(23,.I (p1.length:Int)),(24,.I n3)]∧m=Mem.of [(108,.box [.I 0,.I 0,.nil]),(110,.box [.I p2,.I p3,.arr 142 l4.length]),(142,.arr 185 6 (l4.map ag.lv))]) F ⟨0,([]:List ag),h,R,R⟩ ?_)))))))
  clear h
  rintro n e m ⟨n3,l4,h,rfl,rfl⟩
  rcases n with _ | n
  · cases (show Option.none=some _ from h)
  obtain ⟨aH,aI⟩:∃ f,f=EH F p0 p1 p2 p3 n:=⟨_,rfl⟩
  replace h:JC F p0 p1 p2 p3 aH n3 l4=some r:=aI ▸ h
  unfold JC at h
  refine LH.aj R (sN (eG R R zQ)) (LH.seq (LH.cond (t:=(decide (n3<(p1.length:Int)))) R (fun gZ=>?_) (fun gZ=>?_)))
  ·replace h:=aB h gZ
   refine LH.skip (ai (LH.seq (LH.block ?_)))
   obtain ⟨x6,wF,h⟩:=ae h
   refine LH.aj R (sN (eF (f:=LV.I) bU aD aW R R jB wF R (sN (bj R aD b5 (br R zQ))))) (LH.seq ?_)
   obtain ⟨x7,vA,h⟩:=ae h
   obtain ⟨r8,O8,h⟩:=ae h
   refine LH.aj R (dY R (aZ R (sN (eF (f:=ab.lv) eR bA bn R R ab.ok vA R (sN (bw R bA c7 bn R R (sN (dq (args:=[ab.lv x7]) R qj R (aw bl) (yF O8) R (sN (iC R R zQ)))))))))) (LH.cond (t:=(r8 != 0)) R (fun ng=>?_) (fun ng=>?_))
   ·replace h:=aB h ng
    refine LH.ax [(8,.sptr [.I 0,.I 0,.nil]),(9,.I 1)] [] R (sN (gJ (vs:=[]) E9 vi R gI (s_ (cM R R R kQ kS R R R (br R (s0 ((Wk.trans (bM [(8,.ptr 108 0),(9,.I 1)] [(108,.box [.I 0,.I 0,.nil])]) (Wk.trans (Wk.bD 108 [.I 0,.I 0,.nil] R R R (cc R)) (Wk.eq R R R R)))))))))) (LH.ret (aO (bH (aO (dg (bH (aO ?_)))))))
    obtain rfl:=oI h
    exact aJ (aT Tryz.results36) (dN R kQ sg kS R R (bT R (bP ⟨aG mN,R,aN R,(Sub.tup (sd (Sub.agg (aw (aw (jC bl)))) (aw bl)))⟩)))
   replace h:=aA h ng
   refine LH.skip (ai ?_)
   obtain ⟨lr,oV,h⟩:=ae h
   obtain ⟨v11,Pf,h⟩:=ae h
   refine LH.pE mixed [] [0,1110,0,0,0,0,0,2,0,100110] [(0,.lst 5 (p0.map ab.lv)),(8,.ptr 108 0),(10,.ptr 110 0),(22,.L p1),(23,.I (p1.length:Int)),(24,.I n3)] [(108,.box [.I 0,.I 0,.nil]),(110,.box [.I p2,.I p3,.arr 142 v11.length]),(142,.arr 185 6 (v11.map ag.lv))] R R (by kernel_rfl) (aX (fo mE cE dP R R ⟨R,mD R R R (fun _ b _ d=>dv R b R R cE gf d) (vX R (iT R (aX (eF (f:=ab.lv) eR bA bn R R ab.ok oV R ⟨R,aX (aC dA cE dP R R R ⟨R,aX (bj R cE gf ⟨R,yt (rT (f:=ag.lv) eP sm cF R R (cc R) R Pf (aX (fo mE cE dP R R ⟨R,mS R R R (fun _ b _ d=>cM R R R cE dP b R R d) zM⟩)))⟩)⟩)⟩))))⟩)) (aQ (ai (LH.bd R (sN (b8 R R (aZ R zQ))) ?_)))
   exact a7 ⟨(i64 (n3+1)),v11,aI ▸ h,R,R⟩ (Wk.eq R R R R)
  replace h:=aA h gZ
  refine LH.exit (cg (bO (bK (ai (LH.wk ((Wk.trans (bM [(8,.ptr 108 0),(10,.ptr 110 0)] [(108,.box [.I 0,.I 0,.nil]),(110,.box [.I p2,.I p3,.arr 142 l4.length]),(142,.arr 185 6 (l4.map ag.lv))]) (Wk.trans (bM [(8,.ptr 108 0),(10,.ptr 110 0)] [(108,.box [.I 0,.I 0,.nil]),(110,.box [.I p2,.I p3,.arr 142 l4.length]),(142,.arr 185 6 (l4.map ag.lv))]) (Wk.trans (Wk.trans (Wk.ez (f:=ag.lv) 142 185 6 l4 110 R R R (cC R (cC R (gS gR))) R R (cc R)) (bM [(8,.ptr 108 0),(10,.ptr 110 0)] [(108,.box [.I 0,.I 0,.nil]),(110,.box [.I p2,.I p3,.lst 6 (l4.map ag.lv)])])) (Wk.trans (Wk.bD 110 [.I p2,.I p3,.lst 6 (l4.map ag.lv)] R R R (cc R)) (bM [(8,.ptr 108 0),(10,.sptr [.I p2,.I p3,.lst 6 (l4.map ag.lv)])] [(108,.box [.I 0,.I 0,.nil])])))))) (LH.seq ?_))))))
  obtain ⟨fx,qZ,h⟩:=ae h
  refine LH.aj R (sN (bw R kQ sg kS R R (sN (dq (args:=[.agg [.I p2,.I p3,.lst 6 (l4.map ag.lv)]]) R MX R (aw bl) (Nn qZ) R (sN (eM R zQ)))))) (LH.cond (t:=(!fx)) R (fun jc=>?_) (fun jc=>?_))
  ·replace h:=aB h jc
   refine LH.ax [(8,.sptr [.I 0,.I 0,.nil]),(9,.I 1)] [] R (sN (gJ (vs:=[]) E9 vi R gI (s_ (cM R R R kQ kS R R R (br R (s0 ((Wk.trans (bM [(8,.ptr 108 0),(9,.I 1)] [(108,.box [.I 0,.I 0,.nil])]) (Wk.trans (Wk.bD 108 [.I 0,.I 0,.nil] R R R (cc R)) (Wk.eq R R R R)))))))))) (LH.ret (aO ?_))
   obtain rfl:=oI h
   exact aJ (aT Tryz.results36) (dN R kQ sg kS R R (bT R (bP ⟨aG mN,R,aN R,(Sub.tup (sd (Sub.agg (aw (aw (jC bl)))) (aw bl)))⟩)))
  replace h:=aA h jc
  refine LH.skip (ai (LH.ax [(8,.sptr [.I p2,.I p3,.lst 6 (l4.map ag.lv)]),(9,.I 0)] [] R (sN (bw R kQ sg kS R R (s_ (cM R R R kQ kS R R R (br R (s0 ((Wk.trans (bM [(8,.ptr 108 0),(9,.I 0)] [(108,.box [.I p2,.I p3,.lst 6 (l4.map ag.lv)])]) (Wk.trans (Wk.bD 108 [.I p2,.I p3,.lst 6 (l4.map ag.lv)] R R R (cc R)) (Wk.eq R R R R)))))))))) (LH.ret ?_)))
  obtain rfl:=oI h
  exact aJ (aT Tryz.results36) (dN R kQ sg kS R R (bT R (bP ⟨aG mN,R,aN R,(Sub.tup (aw (aw bl)))⟩)))
theorem UE {F:Nat} {p0:nA} {r:Int} (h:EL F p0=some r):aF Tryz.prog 79 [nA.lv p0] (Mem.of []) (.I r) (Mem.of []):=by
  unfold EL at h
  refine bh Tryz.func79 R (nT Tryz.ntmps79 R) (LH.aj R (sB (dm R R R R (br R zQ))) (LH.seq ?_))
  obtain ⟨r1,dR,h⟩:=ae h
  refine LH.aj R (sN (bw R kQ sg kS R R (sN (dq (args:=[nA.lv p0]) R MX R (aw bl) (Nn dR) R (sN (eM R zQ)))))) (LH.cond (t:=(!r1)) R (fun dI=>?_) (fun dI=>?_))
  ·replace h:=aB h dI
   refine LH.aj R (br R zQ) (LH.ret (aO ?_))
   obtain rfl:=oI h
   exact aJ (aT Tryz.results79) (bT R (bP ⟨aG mN,R,aN R,Sub.rfl⟩))
  replace h:=aA h dI
  refine LH.skip (ai ?_)
  obtain ⟨r3,hr3,h⟩:=ae h
  refine LH.aj R (sN (aC mE cE dP R R R (sN (bj R cE gf (sN (dq (args:=[.lst 6 (p0.aK.map ag.lv)]) R IZ R (aw bl) (JK hr3) R (br R zQ))))))) (LH.ret ?_)
  obtain rfl:=oI h
  exact aJ (aT Tryz.results79) (bT R (bP ⟨aG mN,R,aN R,Sub.rfl⟩))
theorem UW {F:Nat} {r:Bool} (h:Bk F=some r):aF Tryz.prog 30 [] (Mem.of []) (.bool r) (Mem.of []):=by
  unfold Bk at h
  refine bh Tryz.func30 R (nT Tryz.ntmps30 R) (LH.aj R (cr R zQ) (LH.ax [(1,.sptr [.I 4,.I 1,.str (ByteArray.mk #[113]),.lst 6 (List.map ag.lv [(ag.mk 1 3 0 0 0 0)]),.nil])] [] R (sN (gJ (vs:=[(0,.I 1),(1,.I 3)]) NU sq R (lf qx aW aD R R R (lf kO aW aD R R R gI)) (sN (jU (f:=ag.lv) (ys:=[(ag.mk 1 3 0 0 0 0)]) eP sm cF R R R ag.ok (sN (gJ (vs:=[(0,.I 4),(1,.I 1),(2,.str (ByteArray.mk #[113])),(3,.lst 6 (List.map ag.lv [(ag.mk 1 3 0 0 0 0)]))]) E7 jO R (lf dZ aW aD R R R (lf gh aW aD R R R (lf kN Kw B8 R R R (lf dA dP cE R R R gI)))) (sN (hD (id:=101) R jO R R (s_ (cM R R R bA bn R R R (s0 ((Wk.trans (bM [(1,.ptr 101 0)] [(101,.box [.I 4,.I 1,.str (ByteArray.mk #[113]),.lst 6 (List.map ag.lv [(ag.mk 1 3 0 0 0 0)]),.nil])]) (Wk.trans (Wk.bD 101 [.I 4,.I 1,.str (ByteArray.mk #[113]),.lst 6 (List.map ag.lv [(ag.mk 1 3 0 0 0 0)]),.nil] R R R (cc R)) (Wk.eq R R R R))))))))))))))) ?_))
  obtain ⟨r1,dR,h⟩:=ae h
  refine LH.ax [(2,.sptr [.lst 5 (r1.1.aa.map ay.lv)]),(4,.I r1.2.2)] [] R ?_ ?_
  ·exact sN (bw R bA c7 bn R R (sN (gJ (vs:=[(1,.I 1),(2,.agg [.I 4,.I 1,.str (ByteArray.mk #[113]),.lst 6 (List.map ag.lv [(ag.mk 1 3 0 0 0 0)]),.nil])]) E8 so R (lf dB aW aD R R R (lf fu bn bA R R R gI)) (sN (gJ (vs:=[(0,.I 1),(2,.I 1)]) Mj yS R (lf ky aW aD R R R (lf gy aW aD R R R gI)) (sN (gJ (vs:=[(0,.I 4),(1,.I 1)]) xP xQ R (lf jo aW aD R R R (lf fq aW aD R R R gI)) (sN (gJ (vs:=[(0,.agg [.I 1,.I 0,.I 1]),(1,.I 3),(3,.agg [.I 4,.I 1])]) E8 so R (lf dE dh di R R R (lf dB aW aD R R R (lf fI dW eA R R R gI))) (sX (QB (f:=ba.lv) (ys:=[(ba.mk (bE.mk 0 0 0) 1 (ab.mk 4 1 (ByteArray.mk #[113]) [(ag.mk 1 3 0 0 0 0)] []) (aS.mk 0 0) 0),(ba.mk (bE.mk 1 0 1) 3 (ab.mk 0 0 (ByteArray.mk #[]) [] []) (aS.mk 4 1) 0)]) lg xN dJ R R R (ZM R R R (ZM R R R okN)) (sd (Sub.agg (aw (aw (aw (aw (aw (aw (aw (aw (jC (aw (aw (aw bl))))))))))))) (sd (Sub.agg (aw (aw (aw (aw (aw (aw (aw (jC (jC (aw (aw (aw bl))))))))))))) bl)) ba.ok) (sN (dq (args:=[.lst 12 (List.map ba.lv ([(ba.mk (bE.mk 0 0 0) 1 (ab.mk 4 1 (ByteArray.mk #[113]) [(ag.mk 1 3 0 0 0 0)] []) (aS.mk 0 0) 0),(ba.mk (bE.mk 1 0 1) 3 (ab.mk 0 0 (ByteArray.mk #[]) [] []) (aS.mk 4 1) 0)])),.I 9]) R MY R (aw (aw bl)) (NB dR) R (sE R (sN (fL R R (sN (fL R R (sN (fL R R (sN (hD (id:=102) R jJ R R (s_ (cM R R R cX cY R R R (sD R (br R (s0 ((Wk.trans (bM [(2,.ptr 102 0),(4,.I r1.2.2)] [(102,.box [.lst 5 (r1.1.aa.map ay.lv)])]) (Wk.trans (Wk.bD 102 [.lst 5 (r1.1.aa.map ay.lv)] R R R (cc R)) (Wk.eq R R R R))))))))))))))))))))))))))))))
  obtain ⟨r2,hr2,h⟩:=ae h
  refine LH.aj R (sN (bw R cX eT cY R R (sN (dq (args:=[.agg [.lst 5 (r1.1.aa.map ay.lv)],.I 9,.I 0,.I 9]) R Ej R (aw (aw (aw (aw bl)))) (EJ hr2) R (sD R zQ))))) (LH.seq (LH.ax [(2,.sptr [.lst 5 (r1.1.aa.map ay.lv)]),(5,.lst 2 (r2.map aS.lv)),(32,.bool ((r1.2.2 != 0) || ((r2.length:Int) != 1)))] [] R ?_ ?_))
  ·refine aZ R (sN (iC R R (bZ R ?_)))
   by_cases bY:(r1.2.2 != 0)=true
   ·exact sF R R bY (sF R R bY (sF R R bY (sN (aY (cB bY) (v:=(.bool _)) R (s0 (Wk.to (eC R (eC R (eC (cB (mq bY)) eN))) mN R (aN R)))))))
   ·replace bY:=bF bY
    exact sT R (cB bY) (oM (v:=(.lst _ _)) R (sT R (cB bY) (bW (f:=aS.lv) mA R (sT R (cB bY) (iC R R (sN (bc (cB bY) (v:=(.bool _)) R (s0 (Wk.to (eC R (eC R (eC (cB (gN bY)) eN))) mN R (aN R))))))))))
  refine LH.cond (t:=((r1.2.2 != 0) || ((r2.length:Int) != 1))) R (fun gZ=>?_) (fun gZ=>?_)
  ·replace h:=aB h gZ
   refine LH.aj R (cr R zQ) (LH.ret (aO ?_))
   obtain rfl:=oI h
   exact aJ (aT Tryz.results30) (bT R (bP ⟨aG mN,R,aN R,Sub.rfl⟩))
  replace h:=aA h gZ
  refine LH.skip (ai ?_)
  obtain ⟨x6,wF,h⟩:=ae h
  obtain ⟨r7,CJ,h⟩:=ae h
  refine LH.du mixed [] [0,0,0,0,0,0,0,0,2,100106,0] [(6,.sptr (ab.lv r7.1).cells),(7,.bool r7.2)] [] R R (by kernel_rfl) (aX (bw R cX eT cY R R ⟨R,vX R (aX (eF (f:=aS.lv) mA eA dW R R aS.ok wF R ⟨R,aX (bw R eA o6 dW R R ⟨R,aX (dq (args:=[.agg [.lst 5 (r1.1.aa.map ay.lv)],.agg [.I x6.ID,.I x6.Version]]) R MZ R (aw (aw bl)) (Nt CJ) R ⟨R,KT R (aX (fL R R ⟨R,aX (fL R R ⟨R,yt (hD (id:=106) R jO R R (mS R R R (fun _ b _ d=>cM R R R bA bn b R R d) (LN R (m0 ((Wk.trans (bM [(6,.ptr 106 0),(7,.bool r7.2)] [(106,.box (ab.lv r7.1).cells)]) (Wk.trans (Wk.bD 106 (ab.lv r7.1).cells R R R (cc R)) (Wk.eq R R R R))))))))⟩)⟩))⟩)⟩)⟩))⟩)) ?_
  obtain ⟨r8,O8,h⟩:=ae h
  refine LH.ax [(7,.bool r7.2),(8,.sptr (nA.lv r8.1).cells),(9,.I r8.2)] [] R (sN (bw R bA c7 bn R R (sN (jU (f:=ab.lv) (ys:=[r7.1]) eR u9 bn R R R ab.ok (sN (jU (f:=LV.I) (ys:=[0]) bU qL aW R R R jB (sN (dq (args:=[.lst 5 (List.map ab.lv [r7.1]),.L [0],.I 2,.I 1]) R Tt R (aw (aw (aw (aw bl)))) (UM O8) R (sE R (sN (fL R R (sN (fL R R (sN (hD (id:=108) R vi R R (s_ (cM R R R kQ kS R R R (br R (s0 ((Wk.trans (bM [(7,.bool r7.2),(8,.ptr 108 0),(9,.I r8.2)] [(108,.box (nA.lv r8.1).cells)]) (Wk.trans (Wk.bD 108 (nA.lv r8.1).cells R R R (cc R)) (Wk.eq R R R R))))))))))))))))))))))) ?_
  obtain ⟨N1,hv,h⟩:=ae h
  refine LH.ax [(0,.bool N1)] [] R ?_ ?_
  ·refine bZ R (bZ R ?_)
   by_cases dj:r7.2=true
   ·replace hv:=aB hv dj
    refine sT R (cB dj) (oM (v:=(.int _ _)) R (sT R (cB dj) (iX R R (sN (aY (cB dj) (v:=(.bool _)) R (bZ R ?_))))))
    by_cases cR:(r8.2 == 0)=true
    ·replace hv:=aB hv cR
     refine sT R (cB cR) (bw R kQ sg kS R R ?_)
     obtain ⟨ew,CF,hv⟩:=ae hv
     refine sT R (cB cR) (dq (args:=[nA.lv r8.1]) R TE R (aw bl) (UE CF) R (sT R (cB cR) (iX R R (sN (aY (cB cR) (v:=(.bool _)) R (bZ R ?_))))))
     by_cases c9:(ew == 3)=true
     ·replace hv:=aB hv c9
      refine sT R (cB c9) (aC s7 aD aW R R R (sT R (cB c9) (bj R aD b5 (sT R (cB c9) (iX R R (sN (aY (cB c9) (v:=(.bool _)) R (bZ R ?_))))))))
      by_cases cd:(r8.1.Code == 2)=true
      ·replace hv:=aB hv cd
       refine sT R (cB cd) (aC s8 aD aW R R R (sT R (cB cd) (bj R aD b5 (sT R (cB cd) (iX R R (sN (aY (cB cd) (v:=(.bool _)) R (cr R ?_))))))))
       obtain rfl:=oI hv
       exact zS
      ·replace cd:=bF cd
       replace hv:=aA hv cd
       refine sF R R cd (sF R R cd (sF R R cd (sN (bc (cB cd) (v:=(.bool _)) R (cr R ?_)))))
       obtain rfl:=oI hv
       exact zS
     ·replace c9:=bF c9
      replace hv:=aA hv c9
      refine sF R R c9 (sF R R c9 (sF R R c9 (sN (bc (cB c9) (v:=(.bool _)) R (bZ R (sF R R R (sF R R R (sF R R R (sN (bc R (v:=(.bool _)) R (cr R ?_)))))))))))
      obtain rfl:=oI hv
      exact zS
    ·replace cR:=bF cR
     replace hv:=aA hv cR
     refine sF R R cR (sF R R cR (sF R R cR (sN (bc (cB cR) (v:=(.bool _)) R (bZ R (sF R R R (sF R R R (sF R R R (sN (bc R (v:=(.bool _)) R (bZ R (sF R R R (sF R R R (sF R R R (sN (bc R (v:=(.bool _)) R (cr R ?_)))))))))))))))))
     obtain rfl:=oI hv
     exact zS
   ·replace dj:=bF dj
    replace hv:=aA hv dj
    refine sF R R dj (sF R R dj (sN (bc (cB dj) (v:=(.bool _)) R (bZ R (sF R R R (sF R R R (sF R R R (sN (bc R (v:=(.bool _)) R (bZ R (sF R R R (sF R R R (sF R R R (sN (bc R (v:=(.bool _)) R (bZ R (sF R R R (sF R R R (sF R R R (sN (bc R (v:=(.bool _)) R (cr R ?_))))))))))))))))))))))
    obtain rfl:=oI hv
    exact zS
  clear hv
  refine LH.ret ?_
  obtain rfl:=oI h
  exact aJ (aT Tryz.results30) (bT R (bP ⟨aG mN,R,aN R,Sub.rfl⟩))
set_option maxHeartbeats 4000000 in
theorem ZP {F:Nat} {p0:List Int} {p1:Int} {r:Bool} (h:EP F p0 p1=some r):aF Tryz.prog 4 [.L p0,.I p1] (Mem.of []) (.bool r) (Mem.of []):=by
  unfold EP at h
  refine bh Tryz.func4 R (nT Tryz.ntmps4 R) (LH.aj R (cr R zQ) ?_)
  obtain ⟨r1,dR,h⟩:=ae h
  refine LH.aj R (dY R (sN (ej (args:=[.L p0]) (ml:=[]) (cS:=[(7,.box [.L r1.L,.I r1.At])]) R X7 R (aw bl) (U4 dR) mN (kE R bX) R (Yu R zQ)))) ?_
  obtain ⟨r2,hr2,h⟩:=ae h
  refine LH.aj R (iA R (sN (ej (args:=[.ptr 7 0,.I 18,.I 0]) (ml:=[(7,.box [.L r1.L,.I r1.At])]) (cS:=[(7,.box [.L r2.2.L,.I r2.2.At])]) R Tm R (aw (aw (aw bl))) (V4 hr2) (mC R mN) (bu R bX) R (sD R zQ)))) ?_
  obtain ⟨r3,hr3,h⟩:=ae h
  refine LH.aj R (dY R (sN (dq (args:=[.lst 12 (r2.1.map ba.lv),.I 100,.I 0,.I 9]) R Tn R (aw (aw (aw (aw bl)))) (Um hr3) R (sE R (sN (fL R R (sN (fL R R (sN (fL R R (sN (hD (id:=107) R jJ R R (s_ (cM R R R cX cY R R R (sD R (cr R zQ)))))))))))))))) (LH.seq (LH.aj R (bZ R (sN (eM R zQ))) (LH.cond (t:=(!r3.2.2)) R (fun jj=>?_) (fun jj=>?_))))
  ·replace h:=aB h jj
   refine LH.aj R (cr R zQ) (LH.ret (aO ?_))
   obtain rfl:=oI h
   exact aJ (aT Tryz.results4) (bT R (bP ⟨aG mN,R,aN R,Sub.rfl⟩))
  replace h:=aA h jj
  refine LH.skip (ai (LH.aj R (pU R zQ) (LH.seq (LH.aj R (br R zQ) (LH.block (LH.wk ((Wk.trans (bM [(1,.I p1),(5,.ptr 7 0),(7,.ptr 107 0),(8,.lst 5 (r3.2.1.map ab.lv)),(10,.nil),(11,.I 0)] [(7,.box [.L r2.2.L,.I r2.2.At]),(107,.box [.lst 5 (r3.1.aa.map ay.lv)])]) (Wk.trans (bM [(1,.I p1),(5,.ptr 7 0),(7,.ptr 107 0),(8,.lst 5 (r3.2.1.map ab.lv)),(10,.nil),(11,.I 0)] [(7,.box [.L r2.2.L,.I r2.2.At]),(107,.box [.lst 5 (r3.1.aa.map ay.lv)])]) (Wk.trans (Wk.Ac (iP:=[(1,.I p1),(5,.ptr 7 0),(7,.ptr 107 0),(8,.lst 5 (r3.2.1.map ab.lv)),(10,.arr 151 (List.length ([]:List Int))),(11,.I 0)]) 151 3 1 R R (wK (wK (wK (wK (wO (wK wN))))))) (bM [(1,.I p1),(5,.ptr 7 0),(7,.ptr 107 0),(8,.lst 5 (r3.2.1.map ab.lv)),(10,.arr 151 (List.length ([]:List Int))),(11,.I 0)] [(7,.box [.L r2.2.L,.I r2.2.At]),(107,.box [.lst 5 (r3.1.aa.map ay.lv)]),(151,.arr 3 1 (List.map LV.I ([]:List Int)))]))))) (LH.loop (fun n e m=>∃ (n5:Int) (l6:List Int) (n7:Int) (l8:List Int),Bq F p1 r3 n n5 l6 n7 l8=some r∧e=Env.of [(1,.I p1),(5,.ptr 7 0),(7,.ptr 107 0),(8,.lst 5 (r3.2.1.map ab.lv)),(10,.arr 151 l8.length),(11,.I n5)]∧m=Mem.of [(7,.box [.L l6,.I n7]),(107,.box [.lst 5 (r3.1.aa.map ay.lv)]),(151,.arr 3 1 (l8.map LV.I))]) F ⟨0,r2.2.L,r2.2.At,([]:List Int),h,R,R⟩ ?_)))))))
  clear h
  rintro n e m ⟨n5,l6,n7,l8,h,rfl,rfl⟩
  rcases n with _ | n
  · cases (show Option.none=some _ from h)
  obtain ⟨aH,aI⟩:∃ f,f=Bq F p1 r3 n:=⟨_,rfl⟩
  replace h:AK F p1 r3 aH n5 l6 n7 l8=some r:=aI ▸ h
  unfold AK at h
  refine LH.seq (LH.aj R (aZ R (dY R (sN (bW (f:=ab.lv) eR R (sN (eG R R zQ)))))) (LH.cond (t:=(decide (n5<(r3.2.1.length:Int)))) R (fun ng=>?_) (fun ng=>?_)))
  ·replace h:=aB h ng
   refine LH.skip (ai (LH.seq (LH.block ?_)))
   obtain ⟨ea,pz,h⟩:=ae h
   obtain ⟨v11,Pf,h⟩:=ae h
   refine LH.bd R (lq R (iA R (sN (ej (args:=[.ptr 7 0,.I 5]) (ml:=[(7,.box [.L l6,.I n7])]) (cS:=[(7,.box [.L ea.2.L,.I ea.2.At])]) R iu R (aw (aw bl)) (lz pz) (mC R mN) (bu R bX) R (sN (jU (f:=LV.I) (ys:=[ea.1]) bU qL aW R R R jB (sN (rT (f:=LV.I) bU qL aW R R (cc R) R Pf (uT R zQ))))))))) (aQ (ai (LH.bd R (aZ R (sN (b8 R R (br R zQ)))) ?_)))
   exact a7 ⟨(i64 (n5+1)),ea.2.L,ea.2.At,v11,aI ▸ h,R,R⟩ (Wk.eq R R R R)
  replace h:=aA h ng
  refine LH.exit (cg (bO (bK (ai (LH.wk ((Wk.trans (bM [(1,.I p1),(7,.ptr 107 0),(8,.lst 5 (r3.2.1.map ab.lv)),(10,.arr 151 l8.length)] [(107,.box [.lst 5 (r3.1.aa.map ay.lv)]),(151,.arr 3 1 (l8.map LV.I))]) (Wk.trans (Wk.pj (f:=LV.I) (iP:=[(1,.I p1),(7,.ptr 107 0),(8,.lst 5 (r3.2.1.map ab.lv)),(10,.L l8)]) 151 3 1 l8 R R (cc R) (fK R (fK R (fK R (fZ fN))))) (bM [(1,.I p1),(7,.ptr 107 0),(8,.lst 5 (r3.2.1.map ab.lv)),(10,.L l8)] [(107,.box [.lst 5 (r3.1.aa.map ay.lv)])])))) (LH.aj R (sN (gJ (vs:=[(0,.I 1),(1,.I 2),(3,.I 200)]) YE Vr R (lf DE aW aD R R R (lf DF aW aD R R R (lf DG aW aD R R R gI))) (sN (hD (id:=112) R Vr R R (s_ (cM R R R Kt Kv R R R zQ)))))) ?_))))))
  obtain ⟨fx,qZ,h⟩:=ae h
  refine LH.ax [(1,.I p1),(7,.ptr 107 0),(8,.lst 5 (r3.2.1.map ab.lv)),(10,.L l8),(12,.ptr 112 0),(13,.sptr [.L fx.1.al,.lst 3 (fx.1.Rows.map aq.lv)]),(14,.I fx.2)] [(107,.box [.lst 5 (r3.1.aa.map ay.lv)]),(112,.box [.I 1,.I 2,.I 0,.I 200,.nil,.nil,.nil,.nil,.I 0])] R (sN (kp R R R Kt Mb Kv R R (dY R (dY R (sN (dq (args:=[.agg [.I 1,.I 2,.I 0,.I 200,.nil,.nil,.nil,.nil,.I 0],.lst 5 (r3.2.1.map ab.lv),.L l8]) R MV R (sd (Sub.agg (aw (aw (aw (aw (jC (jC (jC (jC (aw bl)))))))))) (aw (aw bl))) (Nj qZ) R (sE R (sN (fL R R (sN (fL R R (sN (hD (id:=113) R DQ R R (s_ (cM R R R lj lk R R R (br R (s0 ((Wk.trans (bM [(1,.I p1),(7,.ptr 107 0),(8,.lst 5 (r3.2.1.map ab.lv)),(10,.L l8),(12,.ptr 112 0),(13,.ptr 113 0),(14,.I fx.2)] [(107,.box [.lst 5 (r3.1.aa.map ay.lv)]),(112,.box [.I 1,.I 2,.I 0,.I 200,.nil,.nil,.nil,.nil,.I 0]),(113,.box [.L fx.1.al,.lst 3 (fx.1.Rows.map aq.lv)])]) (Wk.trans (Wk.bD 113 [.L fx.1.al,.lst 3 (fx.1.Rows.map aq.lv)] R R R (cc R)) (Wk.eq R R R R))))))))))))))))))))) ?_
  obtain ⟨ew,CF,h⟩:=ae h
  refine LH.ax [(1,.I p1),(7,.ptr 107 0),(8,.lst 5 (r3.2.1.map ab.lv)),(10,.L l8),(12,.ptr 112 0),(14,.I fx.2),(15,.sptr (bk.lv ew.1).cells),(16,.I ew.2)] [(107,.box [.lst 5 (r3.1.aa.map ay.lv)]),(112,.box [.I 1,.I 2,.I 0,.I 200,.nil,.nil,.nil,.nil,.I 0])] R (sN (bw R lj pM lk R R (sN (dq (args:=[.agg [.L fx.1.al,.lst 3 (fx.1.Rows.map aq.lv)]]) R MW R (aw bl) (No CF) R (sE R (sN (fL R R (sN (fL R R (sN (hD (id:=115) R KB R R (s_ (cM R R R DN DP R R R (br R (s0 ((Wk.trans (bM [(1,.I p1),(7,.ptr 107 0),(8,.lst 5 (r3.2.1.map ab.lv)),(10,.L l8),(12,.ptr 112 0),(14,.I fx.2),(15,.ptr 115 0),(16,.I ew.2)] [(107,.box [.lst 5 (r3.1.aa.map ay.lv)]),(112,.box [.I 1,.I 2,.I 0,.I 200,.nil,.nil,.nil,.nil,.I 0]),(115,.box (bk.lv ew.1).cells)]) (Wk.trans (Wk.bD 115 (bk.lv ew.1).cells R R R (cc R)) (Wk.eq R R R R))))))))))))))))))) ?_
  obtain ⟨ct,q9,h⟩:=ae h
  refine LH.ax [(1,.I p1),(7,.ptr 107 0),(8,.lst 5 (r3.2.1.map ab.lv)),(10,.L l8),(12,.ptr 112 0),(14,.I fx.2),(15,.sptr (bk.lv ew.1).cells),(16,.I ew.2),(17,.sptr [.I ct.1.Code,.lst 2 (ct.1.Items.map aS.lv)]),(18,.I ct.2)] [(107,.box [.lst 5 (r3.1.aa.map ay.lv)]),(112,.box [.I 1,.I 2,.I 0,.I 200,.nil,.nil,.nil,.nil,.I 0])] R (dY R (sN (aC rE cm dQ R R R (sN (bj R cm eu (sN (dq (args:=[.lst 5 (r3.2.1.map ab.lv),.L ew.1.cN,.I 900]) R To R (aw (aw (aw bl))) (UO q9) R (sE R (sN (fL R R (sN (fL R R (sN (hD (id:=117) R DR R R (s_ (cM R R R rF qC R R R (br R (s0 ((Wk.trans (bM [(1,.I p1),(7,.ptr 107 0),(8,.lst 5 (r3.2.1.map ab.lv)),(10,.L l8),(12,.ptr 112 0),(14,.I fx.2),(15,.sptr (bk.lv ew.1).cells),(16,.I ew.2),(17,.ptr 117 0),(18,.I ct.2)] [(107,.box [.lst 5 (r3.1.aa.map ay.lv)]),(112,.box [.I 1,.I 2,.I 0,.I 200,.nil,.nil,.nil,.nil,.I 0]),(117,.box [.I ct.1.Code,.lst 2 (ct.1.Items.map aS.lv)])]) (Wk.trans (Wk.bD 117 [.I ct.1.Code,.lst 2 (ct.1.Items.map aS.lv)] R R R (cc R)) (Wk.eq R R R R)))))))))))))))))))))) (LH.seq (LH.ax [(1,.I p1),(7,.ptr 107 0),(8,.lst 5 (r3.2.1.map ab.lv)),(10,.L l8),(12,.ptr 112 0),(15,.sptr (bk.lv ew.1).cells),(17,.sptr [.I ct.1.Code,.lst 2 (ct.1.Items.map aS.lv)]),(98,.bool ((fx.2 != 0) || ((ew.2 != 0) || ((ct.2 != 0) || ((!(ew.1.Found == (decide ((r3.2.1.length:Int) > 0)))) || ((ct.1.Items.length:Int) != (ew.1.cN.length:Int)))))))] [(107,.box [.lst 5 (r3.1.aa.map ay.lv)]),(112,.box [.I 1,.I 2,.I 0,.I 200,.nil,.nil,.nil,.nil,.I 0])] R ?_ ?_))
  ·refine aZ R (sN (iC R R (bZ R ?_)))
   by_cases iQ:(fx.2 != 0)=true
   ·exact sF R R iQ (sF R R iQ (sN (aY (cB iQ) (v:=(.bool _)) R (bZ R (sF R R R (sF R R R (sN (aY R (v:=(.bool _)) R (bZ R (sF R R R (sF R R R (sF R R R (sF R R R (sF R R R (sF R R R (sN (aY R (v:=(.bool _)) R (bZ R (sF R R R (sF R R R (sF R R R (sF R R R (sF R R R (sF R R R (sF R R R (sN (aY R (v:=(.bool _)) R (s0 (Wk.to (eC R (eC R (eC R (eC R (eC R (eC R (eC R (eC (cB (mq iQ)) eN)))))))) ⟨R,R,trivial⟩ R (aN R))))))))))))))))))))))))))))))
   ·replace iQ:=bF iQ
    refine sT R (cB iQ) (oM (v:=(.int _ _)) R (sT R (cB iQ) (iC R R (sN (bc (cB iQ) (v:=(.bool _)) R (bZ R ?_))))))
    by_cases jb:(ew.2 != 0)=true
    ·exact sF R R jb (sF R R jb (sN (aY (cB jb) (v:=(.bool _)) R (bZ R (sF R R R (sF R R R (sF R R R (sF R R R (sF R R R (sF R R R (sN (aY R (v:=(.bool _)) R (bZ R (sF R R R (sF R R R (sF R R R (sF R R R (sF R R R (sF R R R (sF R R R (sN (aY R (v:=(.bool _)) R (s0 (Wk.to (eC R (eC R (eC R (eC R (eC R (eC R (eC R (eC (cB (Eq.trans (mq jb) (gN iQ))) eN)))))))) ⟨R,R,trivial⟩ R (aN R)))))))))))))))))))))))))
    ·replace jb:=bF jb
     refine sT R (cB jb) (oM (v:=(.int _ _)) R (sT R (cB jb) (iC R R (sN (bc (cB jb) (v:=(.bool _)) R (bZ R ?_))))))
     by_cases me:(ct.2 != 0)=true
     ·exact sF R R me (sF R R me (sF R R me (sF R R me (sF R R me (sF R R me (sN (aY (cB me) (v:=(.bool _)) R (bZ R (sF R R R (sF R R R (sF R R R (sF R R R (sF R R R (sF R R R (sF R R R (sN (aY R (v:=(.bool _)) R (s0 (Wk.to (eC R (eC R (eC R (eC R (eC R (eC R (eC R (eC (cB (Eq.trans (Eq.trans (mq me) (gN jb)) (gN iQ))) eN)))))))) ⟨R,R,trivial⟩ R (aN R))))))))))))))))))))
     ·replace me:=bF me
      refine sT R (cB me) (aC u5 nq sM R R R (sT R (cB me) (bj R nq B7 (sT R (cB me) (oM (v:=(.lst _ _)) R (sT R (cB me) (bW (f:=ab.lv) eR R (sT R (cB me) (jf R R (sT R (cB me) (Yi R R Yy (sN (bc (cB me) (v:=(.bool _)) R (bZ R ?_))))))))))))))
      by_cases dX:(!(ew.1.Found == (decide ((r3.2.1.length:Int) > 0))))=true
      ·exact sF R R dX (sF R R dX (sF R R dX (sF R R dX (sF R R dX (sF R R dX (sF R R dX (sN (aY (cB dX) (v:=(.bool _)) R (s0 (Wk.to (eC R (eC R (eC R (eC R (eC R (eC R (eC R (eC (cB (Eq.trans (Eq.trans (Eq.trans (mq dX) (gN me)) (gN jb)) (gN iQ))) eN)))))))) ⟨R,R,trivial⟩ R (aN R)))))))))))
      ·replace dX:=bF dX
       exact sT R (cB dX) (aC og oZ yR R R R (sT R (cB dX) (bj R oZ DD (sT R (cB dX) (bW (f:=aS.lv) mA R (sT R (cB dX) (aC rE cm dQ R R R (sT R (cB dX) (bj R cm eu (sT R (cB dX) (bW (f:=LV.I) bU R (sT R (cB dX) (iC R R (sN (bc (cB dX) (v:=(.bool _)) R (s0 (Wk.to (eC R (eC R (eC R (eC R (eC R (eC R (eC R (eC (cB (Eq.trans (Eq.trans (Eq.trans (gN dX) (gN me)) (gN jb)) (gN iQ))) eN)))))))) ⟨R,R,trivial⟩ R (aN R))))))))))))))))))
  refine LH.cond (t:=((fx.2 != 0) || ((ew.2 != 0) || ((ct.2 != 0) || ((!(ew.1.Found == (decide ((r3.2.1.length:Int) > 0)))) || ((ct.1.Items.length:Int) != (ew.1.cN.length:Int))))))) R (fun jz=>?_) (fun jz=>?_)
  ·replace h:=aB h jz
   refine LH.aj R (cr R zQ) (LH.ret (aO ?_))
   obtain rfl:=oI h
   exact aJ (aT Tryz.results4) (bT R (bP ⟨aG mN,R,aN R,Sub.rfl⟩))
  replace h:=aA h jz
  refine LH.skip (ai ?_)
  obtain ⟨er,yp,h⟩:=ae h
  refine LH.aj R (aZ R (sN (dq (args:=[.I p1,.I 50]) R MU R (aw (aw bl)) (NF yp) R (sN (b8 R R (br R zQ)))))) (LH.seq (LH.ax [(1,.I (i64 (1+er))),(7,.ptr 107 0),(8,.lst 5 (r3.2.1.map ab.lv)),(10,.L l8),(12,.ptr 112 0),(15,.sptr (bk.lv ew.1).cells),(17,.sptr [.I ct.1.Code,.lst 2 (ct.1.Items.map aS.lv)]),(19,.I 0)] [(107,.box [.lst 5 (r3.1.aa.map ay.lv)]),(112,.box [.I 1,.I 2,.I 0,.I 200,.nil,.nil,.nil,.nil,.I 0])] R (br R zS) (LH.block (LH.loop (fun n e m=>∃ (n22:Int) (BY:List ay),Br F r3 l8 ew ct er n n22 BY=some r∧e=Env.of [(1,.I (i64 (1+er))),(7,.ptr 107 0),(8,.lst 5 (r3.2.1.map ab.lv)),(10,.L l8),(12,.ptr 112 0),(15,.sptr (bk.lv ew.1).cells),(17,.sptr [.I ct.1.Code,.lst 2 (ct.1.Items.map aS.lv)]),(19,.I n22)]∧m=Mem.of [(107,.box [.lst 5 (BY.map ay.lv)]),(112,.box [.I 1,.I 2,.I 0,.I 200,.nil,.nil,.nil,.nil,.I 0])]) F ⟨0,r3.1.aa,h,R,R⟩ ?_))))
  clear h
  rintro n e m ⟨n22,BY,h,rfl,rfl⟩
  rcases n with _ | n
  · cases (show Option.none=some _ from h)
  obtain ⟨fH,eU⟩:∃ f,f=Br F r3 l8 ew ct er n:=⟨_,rfl⟩
  replace h:AL F r3 l8 ew ct er fH n22 BY=some r:=eU ▸ h
  unfold AL at h
  refine LH.seq (LH.aj R (aZ R (sN (aC og oZ yR R R R (sN (bj R oZ DD (sN (bW (f:=aS.lv) mA R (sN (eG R R zQ))))))))) (LH.cond (t:=(decide (n22<(ct.1.Items.length:Int)))) R (fun vM=>?_) (fun vM=>?_)))
  ·replace h:=aB h vM
   refine LH.skip (ai (LH.seq (LH.block ?_)))
   obtain ⟨Ca,Ix,h⟩:=ae h
   obtain ⟨k9,Il,h⟩:=ae h
   refine LH.du mixed [] [1107,0,0,0,0,0,0,0,0,0,0,0,2,100120,0] [(1,.I (i64 (1+er))),(7,.ptr 107 0),(8,.lst 5 (r3.2.1.map ab.lv)),(10,.L l8),(12,.ptr 112 0),(15,.sptr (bk.lv ew.1).cells),(17,.sptr [.I ct.1.Code,.lst 2 (ct.1.Items.map aS.lv)]),(19,.I n22),(20,.sptr [.lst 5 (k9.1.aa.map ay.lv)]),(21,.I k9.2)] [(107,.box [.lst 5 (BY.map ay.lv)]),(112,.box [.I 1,.I 2,.I 0,.I 200,.nil,.nil,.nil,.nil,.I 0])] R R (by kernel_rfl) ?_ ?_
   ·exact mD R R R (fun _ b _ d=>kp R b R cX eT cY R R d) (aX (gJ (vs:=[(0,.I 200)]) Mj yS R (lf ky aW aD R R R gI) ⟨R,aX (aC og oZ yR R R R ⟨R,aX (bj R oZ DD ⟨R,iT R (aX (eF (f:=aS.lv) mA eA dW R R aS.ok Ix R ⟨R,aX (bw R eA o6 dW R R ⟨R,aX (gJ (vs:=[(0,.agg [.I 200,.I 0,.I 0]),(1,.I 4),(3,.agg [.I Ca.ID,.I Ca.Version]),(4,.I 900)]) E8 so R (lf dE dh di R R R (lf dB aW aD R R R (lf fI dW eA R R R (lf mB aW aD R R R gI)))) ⟨R,aX (dq (args:=[.agg [.lst 5 (BY.map ay.lv)],.agg [.I 200,.I 0,.I 0,.I 4,.I 0,.I 0,.str (ByteArray.mk #[]),.nil,.nil,.I Ca.ID,.I Ca.Version,.I 900]]) R Tq R (aw (sd (Sub.agg (aw (aw (aw (aw (aw (aw (aw (jC (jC (aw (aw (aw bl))))))))))))) bl)) (UX Il) R ⟨R,KT R (aX (fL R R ⟨R,aX (fL R R ⟨R,yt (hD (id:=120) R jJ R R (mS R R R (fun _ b _ d=>cM R R R cX cY b R R d) (Qr R (m0 ((Wk.trans (bM [(1,.I (i64 (1+er))),(7,.ptr 107 0),(8,.lst 5 (r3.2.1.map ab.lv)),(10,.L l8),(12,.ptr 112 0),(15,.sptr (bk.lv ew.1).cells),(17,.sptr [.I ct.1.Code,.lst 2 (ct.1.Items.map aS.lv)]),(19,.I n22),(20,.ptr 120 0),(21,.I k9.2)] [(107,.box [.lst 5 (BY.map ay.lv)]),(112,.box [.I 1,.I 2,.I 0,.I 200,.nil,.nil,.nil,.nil,.I 0]),(120,.box [.lst 5 (k9.1.aa.map ay.lv)])]) (Wk.trans (Wk.bD 120 [.lst 5 (k9.1.aa.map ay.lv)] R R R (cc R)) (Wk.eq R R R R))))))))⟩)⟩))⟩)⟩)⟩)⟩))⟩)⟩)⟩))
   refine LH.seq (LH.aj R (aZ R (sN (iC R R zQ))) (LH.cond (t:=(k9.2 != 0)) R (fun tT=>?_) (fun tT=>?_)))
   ·replace h:=aB h tT
    refine LH.aj R (cr R zQ) (LH.ret (aO (bH (aO (dg (bH (aO ?_)))))))
    obtain rfl:=oI h
    exact aJ (aT Tryz.results4) (bT R (bP ⟨aG mN,R,aN R,Sub.rfl⟩))
   replace h:=aA h tT
   refine LH.skip (ai (LH.bd R (sN (bw R cX eT cY R R (s_ (cM R R R cX cY R R R zQ)))) (aQ (ai (LH.bd R (aZ R (sN (b8 R R (br R zQ)))) ?_)))))
   exact a7 ⟨(i64 (n22+1)),k9.1.aa,eU ▸ h,R,R⟩ (Wk.eq R R R R)
  replace h:=aA h vM
  refine LH.exit (cg (bO (bK (ai (LH.wk ((Wk.trans (bM [(1,.I (i64 (1+er))),(7,.ptr 107 0),(8,.lst 5 (r3.2.1.map ab.lv)),(10,.L l8),(12,.ptr 112 0),(15,.sptr (bk.lv ew.1).cells),(17,.sptr [.I ct.1.Code,.lst 2 (ct.1.Items.map aS.lv)])] [(107,.box [.lst 5 (BY.map ay.lv)]),(112,.box [.I 1,.I 2,.I 0,.I 200,.nil,.nil,.nil,.nil,.I 0])]) (Wk.trans (Wk.bD 107 [.lst 5 (BY.map ay.lv)] R R R (cc R)) (bM [(1,.I (i64 (1+er))),(7,.sptr [.lst 5 (BY.map ay.lv)]),(8,.lst 5 (r3.2.1.map ab.lv)),(10,.L l8),(12,.ptr 112 0),(15,.sptr (bk.lv ew.1).cells),(17,.sptr [.I ct.1.Code,.lst 2 (ct.1.Items.map aS.lv)])] [(112,.box [.I 1,.I 2,.I 0,.I 200,.nil,.nil,.nil,.nil,.I 0])])))) ?_)))))
  obtain ⟨pT,Im,h⟩:=ae h
  obtain ⟨oH,CH,h⟩:=ae h
  refine LH.du mixed [] [0,0,0,0,0,0,0,0,0,0,0,0] [(8,.lst 5 (r3.2.1.map ab.lv)),(10,.L l8),(12,.ptr 112 0),(15,.sptr (bk.lv ew.1).cells),(17,.sptr [.I ct.1.Code,.lst 2 (ct.1.Items.map aS.lv)]),(22,.lst 2 (pT.map aS.lv)),(23,.lst 2 (oH.map aS.lv))] [(112,.box [.I 1,.I 2,.I 0,.I 200,.nil,.nil,.nil,.nil,.I 0])] R R (by kernel_rfl) (aX (bw R cX eT cY R R ⟨R,iT R (aX (b8 R R ⟨R,iT R (aX (dq (args:=[.agg [.lst 5 (BY.map ay.lv)],.I (i64 (199+(i64 (1+er)))),.I (i64 (1+er)),.I 99]) R Ej R (aw (aw (aw (aw bl)))) (EJ Im) R ⟨R,aX (bw R cX eT cY R R ⟨R,iT R (aX (b8 R R ⟨R,iT R (aX (dq (args:=[.agg [.lst 5 (BY.map ay.lv)],.I (i64 (200+(i64 (1+er)))),.I (i64 (1+er)),.I 99]) R Ej R (aw (aw (aw (aw bl)))) (EJ CH) R ⟨R,ZI R (ZI R zM)⟩))⟩))⟩)⟩))⟩))⟩)) (LH.seq (LH.ax [(8,.lst 5 (r3.2.1.map ab.lv)),(10,.L l8),(12,.ptr 112 0),(15,.sptr (bk.lv ew.1).cells),(17,.sptr [.I ct.1.Code,.lst 2 (ct.1.Items.map aS.lv)]),(149,.bool (((oH.length:Int) != (r3.2.1.length:Int)) || ((pT.length:Int) != (i64 ((r3.2.1.length:Int) - (ct.1.Items.length:Int))))))] [(112,.box [.I 1,.I 2,.I 0,.I 200,.nil,.nil,.nil,.nil,.I 0])] R ?_ ?_))
  ·refine dY R (sN (bW (f:=aS.lv) mA R (dY R (sN (bW (f:=ab.lv) eR R (sN (iC R R (bZ R ?_))))))))
   by_cases jR:((oH.length:Int) != (r3.2.1.length:Int))=true
   ·exact sF R R jR (sF R R jR (sF R R jR (sF R R jR (sF R R jR (sF R R jR (sF R R jR (sF R R jR (sF R R jR (sN (aY (cB jR) (v:=(.bool _)) R (s0 (Wk.to (eC R (eC R (eC R (eC R (eC R (eC (cB (mq jR)) eN)))))) ⟨R,trivial⟩ R (aN R)))))))))))))
   ·replace jR:=bF jR
    exact sT R (cB jR) (oM (v:=(.lst _ _)) R (sT R (cB jR) (bW (f:=aS.lv) mA R (sT R (cB jR) (oM (v:=(.lst _ _)) R (sT R (cB jR) (bW (f:=ab.lv) eR R (sT R (cB jR) (aC og oZ yR R R R (sT R (cB jR) (bj R oZ DD (sT R (cB jR) (bW (f:=aS.lv) mA R (sT R (cB jR) (kq R R (sT R (cB jR) (iC R R (sN (bc (cB jR) (v:=(.bool _)) R (s0 (Wk.to (eC R (eC R (eC R (eC R (eC R (eC (cB (gN jR)) eN)))))) ⟨R,trivial⟩ R (aN R))))))))))))))))))))))
  refine LH.cond (t:=(((oH.length:Int) != (r3.2.1.length:Int)) || ((pT.length:Int) != (i64 ((r3.2.1.length:Int) - (ct.1.Items.length:Int)))))) R (fun pt=>?_) (fun pt=>?_)
  ·replace h:=aB h pt
   refine LH.aj R (cr R zQ) (LH.ret (aO ?_))
   obtain rfl:=oI h
   exact aJ (aT Tryz.results4) (bT R (bP ⟨aG mN,R,aN R,Sub.rfl⟩))
  replace h:=aA h pt
  refine LH.skip (ai (LH.ax [(8,.lst 5 (r3.2.1.map ab.lv)),(10,.L l8),(12,.sptr [.I 1,.I 2,.I 0,.I 200,.nil,.nil,.nil,.lst 2 (List.map bG.lv [ct.1]),.I 0]),(15,.sptr (bk.lv ew.1).cells),(17,.sptr [.I ct.1.Code,.lst 2 (ct.1.Items.map aS.lv)])] [] R (sN (bw R rF GK qC R R (sN (jU (f:=bG.lv) (ys:=[ct.1]) Mc YB qC R R R bG.ok (sN (fo DJ GL Mi R R (s_ (cM R R R GL Mi R R R (s0 ((Wk.trans (bM [(8,.lst 5 (r3.2.1.map ab.lv)),(10,.L l8),(12,.ptr 112 0),(15,.sptr (bk.lv ew.1).cells),(17,.sptr [.I ct.1.Code,.lst 2 (ct.1.Items.map aS.lv)])] [(112,.box [.I 1,.I 2,.I 0,.I 200,.nil,.nil,.nil,.lst 2 (List.map bG.lv [ct.1]),.I 0])]) (Wk.trans (Wk.bD 112 [.I 1,.I 2,.I 0,.I 200,.nil,.nil,.nil,.lst 2 (List.map bG.lv [ct.1]),.I 0] R R R (cc R)) (Wk.eq R R R R))))))))))))) ?_))
  obtain ⟨ga,Io,h⟩:=ae h
  refine LH.ax [(8,.lst 5 (r3.2.1.map ab.lv)),(15,.sptr (bk.lv ew.1).cells),(17,.sptr [.I ct.1.Code,.lst 2 (ct.1.Items.map aS.lv)]),(24,.sptr [.L ga.1.al,.lst 3 (ga.1.Rows.map aq.lv)]),(25,.I ga.2)] [] R (sN (bw R Kt Mb Kv R R (dY R (dY R (sN (dq (args:=[.agg [.I 1,.I 2,.I 0,.I 200,.nil,.nil,.nil,.lst 2 (List.map bG.lv [ct.1]),.I 0],.lst 5 (r3.2.1.map ab.lv),.L l8]) R MV R (sd (Sub.agg (aw (aw (aw (aw (jC (jC (jC (aw (aw bl)))))))))) (aw (aw bl))) (Nj Io) R (sE R (sN (fL R R (sN (fL R R (sN (hD (id:=124) R DQ R R (s_ (cM R R R lj lk R R R (br R (s0 ((Wk.trans (bM [(8,.lst 5 (r3.2.1.map ab.lv)),(15,.sptr (bk.lv ew.1).cells),(17,.sptr [.I ct.1.Code,.lst 2 (ct.1.Items.map aS.lv)]),(24,.ptr 124 0),(25,.I ga.2)] [(124,.box [.L ga.1.al,.lst 3 (ga.1.Rows.map aq.lv)])]) (Wk.trans (Wk.bD 124 [.L ga.1.al,.lst 3 (ga.1.Rows.map aq.lv)] R R R (cc R)) (Wk.eq R R R R))))))))))))))))))))) ?_
  obtain ⟨nk,Xc,h⟩:=ae h
  refine LH.ax [(8,.lst 5 (r3.2.1.map ab.lv)),(15,.sptr (bk.lv ew.1).cells),(17,.sptr [.I ct.1.Code,.lst 2 (ct.1.Items.map aS.lv)]),(25,.I ga.2),(26,.sptr (bk.lv nk.1).cells),(27,.I nk.2)] [] R (sN (bw R lj pM lk R R (sN (dq (args:=[.agg [.L ga.1.al,.lst 3 (ga.1.Rows.map aq.lv)]]) R MW R (aw bl) (No Xc) R (sE R (sN (fL R R (sN (fL R R (sN (hD (id:=126) R KB R R (s_ (cM R R R DN DP R R R (br R (s0 ((Wk.trans (bM [(8,.lst 5 (r3.2.1.map ab.lv)),(15,.sptr (bk.lv ew.1).cells),(17,.sptr [.I ct.1.Code,.lst 2 (ct.1.Items.map aS.lv)]),(25,.I ga.2),(26,.ptr 126 0),(27,.I nk.2)] [(126,.box (bk.lv nk.1).cells)]) (Wk.trans (Wk.bD 126 (bk.lv nk.1).cells R R R (cc R)) (Wk.eq R R R R))))))))))))))))))) (LH.seq (LH.ax [(8,.lst 5 (r3.2.1.map ab.lv)),(15,.sptr (bk.lv ew.1).cells),(17,.sptr [.I ct.1.Code,.lst 2 (ct.1.Items.map aS.lv)]),(25,.I ga.2),(26,.sptr (bk.lv nk.1).cells),(27,.I nk.2),(28,.I 0)] [] R (br R zS) (LH.block (LH.loop (fun n e m=>∃ (n35:Int),Bs F r3 ew ct ga nk n n35=some r∧e=Env.of [(8,.lst 5 (r3.2.1.map ab.lv)),(15,.sptr (bk.lv ew.1).cells),(17,.sptr [.I ct.1.Code,.lst 2 (ct.1.Items.map aS.lv)]),(25,.I ga.2),(26,.sptr (bk.lv nk.1).cells),(27,.I nk.2),(28,.I n35)]∧m=Mem.of []) F ⟨0,h,R,R⟩ ?_))))
  clear h
  rintro n e m ⟨n35,h,rfl,rfl⟩
  rcases n with _ | n
  · cases (show Option.none=some _ from h)
  obtain ⟨rv,o4⟩:∃ f,f=Bs F r3 ew ct ga nk n:=⟨_,rfl⟩
  replace h:AM F r3 ew ct ga nk rv n35=some r:=o4 ▸ h
  unfold AM at h
  refine LH.seq (LH.aj R (aZ R (sN (aC rE cm dQ R R R (sN (bj R cm eu (sN (bW (f:=LV.I) bU R (sN (eG R R zQ))))))))) (LH.cond (t:=(decide (n35<(nk.1.cN.length:Int)))) R (fun Cs=>?_) (fun Cs=>?_)))
  ·replace h:=aB h Cs
   refine LH.skip (ai (LH.seq (LH.block ?_)))
   obtain ⟨YQ,XY,h⟩:=ae h
   obtain ⟨VW,Xd,h⟩:=ae h
   refine LH.du mixed [] [0,0,0,0,0,0,0,0] [(8,.lst 5 (r3.2.1.map ab.lv)),(15,.sptr (bk.lv ew.1).cells),(17,.sptr [.I ct.1.Code,.lst 2 (ct.1.Items.map aS.lv)]),(25,.I ga.2),(26,.sptr (bk.lv nk.1).cells),(27,.I nk.2),(28,.I n35),(179,.bool VW)] [] R R (by kernel_rfl) (aX (aC rE cm dQ R R R ⟨R,aX (bj R cm eu ⟨R,aX (aC rE cm dQ R R R ⟨R,aX (bj R cm eu ⟨R,iT R (aX (eF (f:=LV.I) bU aD aW R R jB XY R ⟨R,aX (bj R aD b5 ⟨R,aX (dq (args:=[.L ew.1.cN,.I YQ]) R Tr R (aw (aw bl)) (U3 Xd) R ⟨R,zM⟩)⟩)⟩))⟩)⟩)⟩)⟩)) (LH.cond (t:=VW) R (fun vN=>?_) (fun vN=>?_))
   ·replace h:=aB h vN
    refine LH.aj R (cr R zQ) (LH.ret (bH (aO (dg (bH (aO ?_))))))
    obtain rfl:=oI h
    exact aJ (aT Tryz.results4) (bT R (bP ⟨aG mN,R,aN R,Sub.rfl⟩))
   replace h:=aA h vN
   refine LH.skip (aQ (ai (LH.bd R (aZ R (sN (b8 R R (br R zQ)))) ?_)))
   exact a7 ⟨(i64 (n35+1)),o4 ▸ h,R,R⟩ (Wk.eq R R R R)
  replace h:=aA h Cs
  refine LH.exit (cg (bO (bK (ai ?_))))
  obtain ⟨YO,hv,h⟩:=ae h
  refine LH.ax [(4,.bool YO)] [] R ?_ ?_
  ·refine aZ R (sN (iX R R (bZ R ?_)))
   by_cases vL:(ga.2 == 0)=true
   ·replace hv:=aB hv vL
    refine sT R (cB vL) (oM (v:=(.int _ _)) R (sT R (cB vL) (iX R R (sN (aY (cB vL) (v:=(.bool _)) R (bZ R ?_))))))
    by_cases jS:(nk.2 == 0)=true
    ·replace hv:=aB hv jS
     refine sT R (cB jS) (aC u5 nq sM R R R (sT R (cB jS) (bj R nq B7 (sT R (cB jS) (oM (v:=(.lst _ _)) R (sT R (cB jS) (bW (f:=ab.lv) eR R (sT R (cB jS) (aC og oZ yR R R R (sT R (cB jS) (bj R oZ DD (sT R (cB jS) (bW (f:=aS.lv) mA R (sT R (cB jS) (jf R R (sT R (cB jS) (TT R R Yy (sN (aY (cB jS) (v:=(.bool _)) R (bZ R ?_))))))))))))))))))))
     by_cases zy:(nk.1.Found == (decide ((r3.2.1.length:Int) > (ct.1.Items.length:Int))))=true
     ·replace hv:=aB hv zy
      obtain ⟨ZQ,Xh,hv⟩:=ae hv
      refine sT R (cB zy) (dq (args:=[]) R Ts R bl (UW Xh) R (sN (aY (cB zy) (v:=(.bool _)) R (cr R ?_))))
      obtain rfl:=oI hv
      exact zS
     ·replace zy:=bF zy
      replace hv:=aA hv zy
      refine sF R R zy (sN (bc (cB zy) (v:=(.bool _)) R (cr R ?_)))
      obtain rfl:=oI hv
      exact zS
    ·replace jS:=bF jS
     replace hv:=aA hv jS
     refine sF R R jS (sF R R jS (sF R R jS (sF R R jS (sF R R jS (sF R R jS (sF R R jS (sF R R jS (sF R R jS (sN (bc (cB jS) (v:=(.bool _)) R (bZ R (sF R R R (sN (bc R (v:=(.bool _)) R (cr R ?_)))))))))))))))
     obtain rfl:=oI hv
     exact zS
   ·replace vL:=bF vL
    replace hv:=aA hv vL
    refine sF R R vL (sF R R vL (sN (bc (cB vL) (v:=(.bool _)) R (bZ R (sF R R R (sF R R R (sF R R R (sF R R R (sF R R R (sF R R R (sF R R R (sF R R R (sF R R R (sN (bc R (v:=(.bool _)) R (bZ R (sF R R R (sN (bc R (v:=(.bool _)) R (cr R ?_))))))))))))))))))))
    obtain rfl:=oI hv
    exact zS
  clear hv
  refine LH.ret ?_
  obtain rfl:=oI h
  exact aJ (aT Tryz.results4) (bT R (bP ⟨aG mN,R,aN R,Sub.rfl⟩))
end Go.Proofs.YtiinmaihgmfniaaGreat
