import Derived.Test.YtiinmaihgmfniaaGreatZW2
set_option linter.unusedVariables false
set_option linter.unusedSimpArgs false
set_option maxRecDepth 100000
set_option maxHeartbeats 1000000
namespace Go.Proofs.YtiinmaihgmfniaaGreat
open Go.L Go.Sh
theorem q160q {F:Nat} {p0:List Int} {p1:(Int→Option Bool)} {r:Int} {p1_f:Nat} {p1_c:List LV} (p1_i:IsF Tryz.prog p1_f) (p1_q:LV.pureL p1_c=true) (p1_k:∀ (x0:Int) (q:Bool),p1 x0=some q→LCall Tryz.prog p1_f ([.I x0]++p1_c) (Mem.of []) (.bool q) (Mem.of [])) (h:q44q F p0 p1=some r):LCall Tryz.prog 109 [.L p0,.fn p1_f p1_c] (Mem.of []) (.I r) (Mem.of []):=by
  have p1_p:∀ {l:List LV},LV.pureL l=true→LV.pureL (l++p1_c)=true:=pnC p1_q
  have p1_r:LV.refsL p1_c=[]:=refsL_pure p1_q
  unfold q44q at h
  refine bodyT Tryz.func109 R (nT Tryz.ntmps109 R) (LH.wk (Wk.to (el:=[(0,.L p0),(1,.fn p1_f p1_c)]) (ml:=[]) (eQ ⟨R,R,trivial⟩) mN (by simp [keptRefs,LV.refs,LV.refsL,LV.cells,lev,Env.args,Env.of,Env.put,Env.drop,p1_r]) (prK R)) (LH.seqT [(0,.L p0),(1,.fn p1_f p1_c)] [] R (sAi R (s0 (Wk.to (eQ ⟨R,R,trivial⟩) mN (by simp [keptRefs,LV.refs,LV.refsL,LV.cells,lev,Env.args,Env.of,Env.put,Env.drop,p1_r]) (prK R)))) (LH.seq (LH.seqT [(0,.L p0),(1,.fn p1_f p1_c),(7,.I (p0.length:Int)),(8,.I 0)] [] R (sMl R (sN (oLnL (f:=LV.I) te22 R (sMi R (s0 (Wk.to (eQ ⟨R,R,R,R,trivial⟩) mN (by simp [keptRefs,LV.refs,LV.refsL,LV.cells,lev,Env.args,Env.of,Env.put,Env.drop,p1_r]) (prK R))))))) (LH.block (LH.loop (fun n e m=>∃ (n1:Int),q14q p0 p1 n n1=some r∧e=Env.of [(0,.L p0),(1,.fn p1_f p1_c),(7,.I (p0.length:Int)),(8,.I n1)]∧m=Mem.of []) F ⟨0,h,R,R⟩ ?_))))))
  clear h
  rintro n e m ⟨n1,h,rfl,rfl⟩
  rcases n with _ | n
  · cases (show Option.none=some _ from h)
  obtain ⟨rec1,hrec1⟩:∃ f,f=q14q p0 p1 n:=⟨_,rfl⟩
  replace h:q17q p0 p1 rec1 n1=some r:=hrec1 ▸ h
  unfold q17q at h
  refine LH.seqT [(0,.L p0),(1,.fn p1_f p1_c),(7,.I (p0.length:Int)),(8,.I n1),(9,.bool (decide (n1<(p0.length:Int))))] [] R (sN (oLt R R (s0 (Wk.to (eQ ⟨R,R,R,R,R,trivial⟩) mN (by simp [keptRefs,LV.refs,LV.refsL,LV.cells,lev,Env.args,Env.of,Env.put,Env.drop,p1_r]) (prK R))))) (LH.seq (LH.cond (t:=(decide (n1<(p0.length:Int)))) R (fun hc2=>?_) (fun hc2=>?_)))
  ·replace h:=iteT h hc2
   refine LH.skip (thenN (LH.wk (Wk.to (el:=[(0,.L p0),(1,.fn p1_f p1_c),(7,.I (p0.length:Int)),(8,.I n1)]) (ml:=[]) (eQ ⟨R,R,R,R,trivial⟩) mN (by simp [keptRefs,LV.refs,LV.refsL,LV.cells,lev,Env.args,Env.of,Env.put,Env.drop,p1_r]) (prK R)) (LH.seq (LH.block (LH.seqT [(0,.L p0),(1,.fn p1_f p1_c),(5,.I n1),(7,.I (p0.length:Int)),(8,.I n1)] [] R (sMi R (sAi R (s0 (Wk.to (eQ ⟨R,R,R,R,R,trivial⟩) mN (by simp [keptRefs,LV.refs,LV.refsL,LV.cells,lev,Env.args,Env.of,Env.put,Env.drop,p1_r]) (prK R))))) ?_)))))
   obtain ⟨x3,hx3,h⟩:=bindS h
   obtain ⟨r4,hr4,h⟩:=bindS h
   refine LH.seqT [(0,.L p0),(1,.fn p1_f p1_c),(5,.I n1),(7,.I (p0.length:Int)),(8,.I n1),(16,.bool r4)] [] R ?_ ?_
   ·refine sN (oM (v:=(.fn _ _)) R (sMl R (sMi R (sN (oIx (f:=LV.I) te22 tk3 ts3 R R okI hx3 R (sN (oLd R tk3 ta3 (sN (oCP (args:=[.I x3]++p1_c) (args':=[.I x3]++p1_c) R p1_i R SubL.rfl (p1_k _ _ hr4) (p1_p R) ?_)))))))))
    exact s0 (Wk.to (eQ ⟨R,R,R,R,R,R,trivial⟩) mN (by simp [keptRefs,LV.refs,LV.refsL,LV.cells,lev,Env.args,Env.of,Env.put,Env.drop,p1_r]) (prK R))
   refine LH.cond (t:=r4) R (fun hc5=>?_) (fun hc5=>?_)
   ·replace h:=iteT h hc5
    refine LH.seqT [(4,.I n1)] [] R (sMi R (sAi R (s0 (Wk.to (eQ ⟨R,trivial⟩) mN (by simp [keptRefs,LV.refs,LV.refsL,LV.cells,lev,Env.args,Env.of,Env.put,Env.drop,p1_r]) (prK R))))) (LH.ret (blockR (thenR (roundR (blockR (thenR ?_))))))
    obtain rfl:=oI h
    exact retE (aT Tryz.results109) (lrT R (lr0 ⟨memN mN,R,prK R,Sub.rfl⟩))
   replace h:=iteF h hc5
   refine LH.skip (blockN (thenN (LH.loneT [(0,.L p0),(1,.fn p1_f p1_c),(7,.I (p0.length:Int)),(8,.I (i64 (n1+1)))] [] R (sN (oAdd R R (sMi R (s0 (Wk.to (eQ ⟨R,R,R,R,trivial⟩) mN (by simp [keptRefs,LV.refs,LV.refsL,LV.cells,lev,Env.args,Env.of,Env.put,Env.drop,p1_r]) (prK R)))))) ?_)))
   exact roundI ⟨(i64 (n1+1)),hrec1 ▸ h,R,R⟩ (Wk.to (eQ ⟨R,R,R,R,trivial⟩) mN (by simp [keptRefs,LV.refs,LV.refsL,LV.cells,lev,Env.args,Env.of,Env.put,Env.drop,p1_r]) (prK R))
  replace h:=iteF h hc2
  refine LH.exit (thenX (roundX (blockH (thenN (LH.seqT [(4,.I (-1))] [] R (sAi R (s0 (Wk.to (eQ ⟨R,trivial⟩) mN (by simp [keptRefs,LV.refs,LV.refsL,LV.cells,lev,Env.args,Env.of,Env.put,Env.drop,p1_r]) (prK R)))) (LH.ret ?_))))))
  obtain rfl:=oI h
  exact retE (aT Tryz.results109) (lrT R (lr0 ⟨memN mN,R,prK R,Sub.rfl⟩))

theorem q155q {F:Nat} {p0:List Int} {p1:(Int→Option Bool)} {r:Bool} {p1_f:Nat} {p1_c:List LV} (p1_i:IsF Tryz.prog p1_f) (p1_q:LV.pureL p1_c=true) (p1_k:∀ (x0:Int) (q:Bool),p1 x0=some q→LCall Tryz.prog p1_f ([.I x0]++p1_c) (Mem.of []) (.bool q) (Mem.of [])) (h:q24q F p0 p1=some r):LCall Tryz.prog 60 [.L p0,.fn p1_f p1_c] (Mem.of []) (.bool r) (Mem.of []):=by
  have p1_p:∀ {l:List LV},LV.pureL l=true→LV.pureL (l++p1_c)=true:=pnC p1_q
  have p1_r:LV.refsL p1_c=[]:=refsL_pure p1_q
  unfold q24q at h
  refine bodyT Tryz.func60 R (nT Tryz.ntmps60 R) (LH.wk (Wk.to (el:=[(0,.L p0),(1,.fn p1_f p1_c)]) (ml:=[]) (eQ ⟨R,R,trivial⟩) mN (by simp [keptRefs,LV.refs,LV.refsL,LV.cells,lev,Env.args,Env.of,Env.put,Env.drop,p1_r]) (prK R)) (LH.seqT [(0,.L p0),(1,.fn p1_f p1_c)] [] R (sAb R (s0 (Wk.to (eQ ⟨R,R,trivial⟩) mN (by simp [keptRefs,LV.refs,LV.refsL,LV.cells,lev,Env.args,Env.of,Env.put,Env.drop,p1_r]) (prK R)))) ?_))
  obtain ⟨r1,hr1,h⟩:=bindS h
  refine LH.seqT [(4,.bool (decide (r1 ≥ 0)))] [] R (sMl R (sN (oM (v:=(.fn _ _)) R (sN (oCP (args:=[.L p0,.fn p1_f p1_c]) R isF109 R (sbR (sbR sbN)) (q160q p1_i p1_q p1_k hr1) (by simp [LV.pure,LV.pureL,p1_q]) (sN (oGe R R (sAb R (s0 (Wk.to (eQ ⟨R,trivial⟩) mN (by simp [keptRefs,LV.refs,LV.refsL,LV.cells,lev,Env.args,Env.of,Env.put,Env.drop,p1_r]) (prK R))))))))))) (LH.ret ?_)
  obtain rfl:=oI h
  exact retE (aT Tryz.results60) (lrT R (lr0 ⟨memN mN,R,prK R,Sub.rfl⟩))

theorem q191q {F:Nat} {p0:List GRoom} {p1:List GNeed} {p2:List Int} {r:Bool} (h:q135q F p0 p1 p2=some r):LCall Tryz.prog 18 [.lst 3 (List.map GRoom.lv p0),.lst 2 (List.map GNeed.lv p1),.L p2] (Mem.of []) (.bool r) (Mem.of []):=by
  unfold q135q at h
  refine bodyT Tryz.func18 R (nT Tryz.ntmps18 R) (LH.wk (Wk.eq (el:=[(0,.lst 3 (List.map GRoom.lv p0)),(1,.lst 2 (List.map GNeed.lv p1)),(2,.L p2)]) (ml:=[]) R R R R) (LH.seqT [(0,.lst 3 (List.map GRoom.lv p0)),(2,.L p2),(4,.sptr [.lst 2 (List.map GNeed.lv p1)])] [] R (sB (oBxR R R R R (sAb R zS))) (LH.seq ?_)))
  obtain ⟨w2,hv,h⟩:=bindS h
  refine LH.seqT [(0,.lst 3 (List.map GRoom.lv p0)),(2,.L p2),(4,.sptr [.lst 2 (List.map GNeed.lv p1)]),(20,.bool w2)] [] R ?_ ?_
  ·refine sMl R (sN (oLd R tk37 ta37 ?_))
   obtain ⟨r3,hr3,hv⟩:=bindS hv
   refine sN (oCP (args:=[.lst 3 (List.map GRoom.lv p0),.lst 2 (List.map GNeed.lv p1),.I 2]) R isF53 R (sbR (sbR (sbR sbN))) (q151q hr3) R (sN (oNe R R (sMb R ?_))))
   by_cases hb4:(r3 != 0)=true
   ·replace hv:=iteT hv hb4
    refine sF R R hb4 (sF R R hb4 (sF R R hb4 (sF R R hb4 (sF R R hb4 (sN (oPkT (cB hb4) (v:=(.bool _)) R ?_))))))
    obtain rfl:=oI hv
    exact zS
   ·replace hb4:=bF hb4
    replace hv:=iteF hv hb4
    refine sT R (cB hb4) (oM (v:=(.lst _ _)) R (sT R (cB hb4) (oLd R tk37 ta37 (sT R (cB hb4) (oLnL (f:=GNeed.lv) te37 R ?_)))))
    obtain ⟨r5,hr5,hv⟩:=bindS hv
    refine sT R (cB hb4) (oCP (args:=[.L p2,.I (p1.length:Int)]) R isF59 R (sbR (sbR sbN)) (q192q hr5) R (sT R (cB hb4) (oNot R (sN (oPkF (cB hb4) (v:=(.bool _)) R ?_)))))
    obtain rfl:=oI hv
    exact zS
  clear hv
  refine LH.cond (t:=w2) R (fun hc6=>?_) (fun hc6=>?_)
  ·replace h:=iteT h hc6
   refine LH.seqT [(6,.bool false)] [] R (sAb R zS) (LH.ret (thenR ?_))
   obtain rfl:=oI h
   exact retE (aT Tryz.results18) (lrT R (lr0 ⟨memN mN,R,prK R,Sub.rfl⟩))
  replace h:=iteF h hc6
  refine LH.skip (thenN (LH.seqT [(0,.lst 3 (List.map GRoom.lv p0)),(2,.L p2),(4,.sptr [.lst 2 (List.map GNeed.lv p1)]),(7,.I 0)] [] R (sAi R zS) (LH.seq (LH.seqT [(2,.L p2),(4,.sptr [.lst 2 (List.map GNeed.lv p1)]),(7,.I 0),(21,.lst 3 (List.map GRoom.lv p0)),(22,.I (p0.length:Int)),(23,.I 0)] [] R (sMl R (sN (oLnL (f:=GRoom.lv) te34 R (sMi R zS)))) (LH.block (LH.loop (fun n e m=>∃ (n7:Int) (n8:Int),q58q F p0 p1 p2 n n7 n8=some r∧e=Env.of [(2,.L p2),(4,.sptr [.lst 2 (List.map GNeed.lv p1)]),(7,.I n7),(21,.lst 3 (List.map GRoom.lv p0)),(22,.I (p0.length:Int)),(23,.I n8)]∧m=Mem.of []) F ⟨0,0,h,R,R⟩ ?_))))))
  clear h
  rintro n e m ⟨n7,n8,h,rfl,rfl⟩
  rcases n with _ | n
  · cases (show Option.none=some _ from h)
  obtain ⟨rec1,hrec1⟩:∃ f,f=q58q F p0 p1 p2 n:=⟨_,rfl⟩
  replace h:q72q F p0 p1 p2 rec1 n7 n8=some r:=hrec1 ▸ h
  unfold q72q at h
  refine LH.seqT [(2,.L p2),(4,.sptr [.lst 2 (List.map GNeed.lv p1)]),(7,.I n7),(21,.lst 3 (List.map GRoom.lv p0)),(22,.I (p0.length:Int)),(23,.I n8),(24,.bool (decide (n8<(p0.length:Int))))] [] R (sN (oLt R R zS)) (LH.seq (LH.cond (t:=(decide (n8<(p0.length:Int)))) R (fun hc9=>?_) (fun hc9=>?_)))
  ·replace h:=iteT h hc9
   refine LH.skip (thenN (LH.wk (Wk.eq (el:=[(2,.L p2),(4,.sptr [.lst 2 (List.map GNeed.lv p1)]),(7,.I n7),(21,.lst 3 (List.map GRoom.lv p0)),(22,.I (p0.length:Int)),(23,.I n8)]) (ml:=[]) R R R R) (LH.seq (LH.block ?_))))
   obtain ⟨x10,hx10,h⟩:=bindS h
   refine LH.seqT [(2,.L p2),(4,.sptr [.lst 2 (List.map GNeed.lv p1)]),(7,.I n7),(9,.sptr [.I x10.Rows,.I x10.Cols,.I x10.Offers]),(21,.lst 3 (List.map GRoom.lv p0)),(22,.I (p0.length:Int)),(23,.I n8)] [] R (sN (oIx (f:=GRoom.lv) te34 tk72 ts72 R R GRoom.ok hx10 R (sN (oLdA R tk72 ta72 ts72 R R (sN (oAl (id:=109) R tz72 R R (s_ (oSt R R R tk72 ts72 R R R (s0 ((Wk.trans (Wk.eq (el:=[(2,.L p2),(4,.sptr [.lst 2 (List.map GNeed.lv p1)]),(7,.I n7),(9,.ptr 109 0),(21,.lst 3 (List.map GRoom.lv p0)),(22,.I (p0.length:Int)),(23,.I n8)]) (ml:=[(109,.box [.I x10.Rows,.I x10.Cols,.I x10.Offers])]) R R R R) (Wk.trans (Wk.frzB 109 [.I x10.Rows,.I x10.Cols,.I x10.Offers] R R R (prN R)) (Wk.eq R R R R))))))))))))) ?_
   obtain ⟨r11,hr11,h⟩:=bindS h
   refine LH.seqT [(2,.L p2),(4,.sptr [.lst 2 (List.map GNeed.lv p1)]),(7,.I n7),(9,.sptr [.I x10.Rows,.I x10.Cols,.I x10.Offers]),(21,.lst 3 (List.map GRoom.lv p0)),(22,.I (p0.length:Int)),(23,.I n8),(29,.bool r11)] [] R (sMl R (sN (oMF (vs:=[.sptr [.I x10.Rows,.I x10.Cols,.I x10.Offers],.sptr [.lst 2 (List.map GNeed.lv p1)]]) R (sN (oCP (args:=[.L p2,.fn 61 [.sptr [.I x10.Rows,.I x10.Cols,.I x10.Offers],.sptr [.lst 2 (List.map GNeed.lv p1)]]]) R isF60 R (sbR (sbR sbN)) (q155q (p1_f:=61) (p1_c:=[.sptr [.I x10.Rows,.I x10.Cols,.I x10.Offers],.sptr [.lst 2 (List.map GNeed.lv p1)]]) isF61 R (fun _ _ h=>q181q h) hr11) R zS))))) (LH.cond (t:=r11) R (fun hc12=>?_) (fun hc12=>?_))
   ·replace h:=iteT h hc12
    obtain ⟨r13,hr13,h⟩:=bindS h
    refine LH.loneT [(2,.L p2),(4,.sptr [.lst 2 (List.map GNeed.lv p1)]),(7,.I (i64 (n7+r13))),(21,.lst 3 (List.map GRoom.lv p0)),(22,.I (p0.length:Int)),(23,.I n8)] [] R (sMi R (sN (oLdA R tk72 ta72 ts72 R R (sN (oCP (args:=[.agg [.I x10.Rows,.I x10.Cols,.I x10.Offers]]) R isF56 R (sbR sbN) (q134q hr13) R (sN (oAdd R R (sAi R zS)))))))) (blockN (thenN (LH.loneT [(2,.L p2),(4,.sptr [.lst 2 (List.map GNeed.lv p1)]),(7,.I (i64 (n7+r13))),(21,.lst 3 (List.map GRoom.lv p0)),(22,.I (p0.length:Int)),(23,.I (i64 (n8+1)))] [] R (sN (oAdd R R (sMi R zS))) ?_)))
    exact roundI ⟨(i64 (n7+r13)),(i64 (n8+1)),hrec1 ▸ h,R,R⟩ (Wk.eq R R R R)
   replace h:=iteF h hc12
   refine LH.skip (blockN (thenN (LH.loneT [(2,.L p2),(4,.sptr [.lst 2 (List.map GNeed.lv p1)]),(7,.I n7),(21,.lst 3 (List.map GRoom.lv p0)),(22,.I (p0.length:Int)),(23,.I (i64 (n8+1)))] [] R (sN (oAdd R R (sMi R zS))) ?_)))
   exact roundI ⟨n7,(i64 (n8+1)),hrec1 ▸ h,R,R⟩ (Wk.eq R R R R)
  replace h:=iteF h hc9
  refine LH.exit (thenX (roundX (blockH (thenN (LH.seqT [(6,.bool (decide (n7<(p2.length:Int))))] [] R (sMi R (sMl R (sN (oLnL (f:=LV.I) te22 R (sN (oLt R R (sAb R zS))))))) (LH.ret ?_))))))
  obtain rfl:=oI h
  exact retE (aT Tryz.results18) (lrT R (lr0 ⟨memN mN,R,prK R,Sub.rfl⟩))

theorem q172q {F:Nat} {r:Bool} (h:q140q F=some r):LCall Tryz.prog 19 [] (Mem.of []) (.bool r) (Mem.of []):=by
  unfold q140q at h
  refine bodyT Tryz.func19 R (nT Tryz.ntmps19 R) (LH.wk (Wk.eq (el:=[]) (ml:=[]) R R R R) (LH.seqT [] [] R (sAb R zS) (LH.seqT [(1,.sptr [.I 1,.I 2,.I 0])] [] R (sN (oBd (vs:=[(0,.I 1),(1,.I 2)]) tu42 tz42 R (lf tf42_0 ts3 tk3 R R R (lf tf42_1 ts3 tk3 R R R lf0)) (sN (oAl (id:=101) R tz42 R R (s_ (oSt R R R tk42 ts42 R R R (s0 ((Wk.trans (Wk.eq (el:=[(1,.ptr 101 0)]) (ml:=[(101,.box [.I 1,.I 2,.I 0])]) R R R R) (Wk.trans (Wk.frzB 101 [.I 1,.I 2,.I 0] R R R (prN R)) (Wk.eq R R R R))))))))))) (LH.seqT [(1,.sptr [.I 1,.I 2,.I 0]),(2,.sptr [.I 4,.I 2,.I 0])] [] R (sN (oBd (vs:=[(0,.I 4),(1,.I 2)]) tu42 tz42 R (lf tf42_0 ts3 tk3 R R R (lf tf42_1 ts3 tk3 R R R lf0)) (sN (oAl (id:=102) R tz42 R R (s_ (oSt R R R tk42 ts42 R R R (s0 ((Wk.trans (Wk.eq (el:=[(1,.sptr [.I 1,.I 2,.I 0]),(2,.ptr 102 0)]) (ml:=[(102,.box [.I 4,.I 2,.I 0])]) R R R R) (Wk.trans (Wk.frzB 102 [.I 4,.I 2,.I 0] R R R (prN R)) (Wk.eq R R R R))))))))))) ?_))))
  obtain ⟨r1,hr1,h⟩:=bindS h
  refine LH.seqT [(1,.sptr [.I 1,.I 2,.I 0]),(3,.lst 4 (List.map Gq3.lv r1.1)),(5,.I r1.2.2)] [] R ?_ ?_
  ·exact sN (oBd (vs:=[(2,.I 1)]) tu40 tz40 R (lf tf40_2 ts3 tk3 R R R lf0) (sN (oLdA R tk42 ta42 ts42 R R (sN (oBd (vs:=[(0,.agg [.I 0,.I 0,.I 1]),(1,.I 1),(2,.agg [.I 4,.I 2,.I 0])]) tu44 tz44 R (lf tf44_0 ts40 tk40 R R R (lf tf44_1 ts3 tk3 R R R (lf tf44_2 ts42 tk42 R R R lf0))) (sN (oLdA R tk42 ta42 ts42 R R (sN (oBd (vs:=[(1,.I 1),(2,.agg [.I 1,.I 2,.I 0])]) tu44 tz44 R (lf tf44_1 ts3 tk3 R R R (lf tf44_2 ts42 tk42 R R R lf0)) (sN (oBS (f:=Gq5.lv) (ys:=[(Gq5.mk (Gq10.mk 0 0 1) 1 (Gq4.mk 4 2 0) 0),(Gq5.mk (Gq10.mk 0 0 0) 1 (Gq4.mk 1 2 0) 0)]) te28 tr44 ts44 R R R Gq5.ok (sN (oBd (vs:=[(0,.I 5),(1,.I 5)]) tu26 tz26 R (lf tf26_0 ts3 tk3 R R R (lf tf26_1 ts3 tk3 R R R lf0)) (sN (oCP (args:=[.lst 8 (List.map Gq5.lv [(Gq5.mk (Gq10.mk 0 0 1) 1 (Gq4.mk 4 2 0) 0),(Gq5.mk (Gq10.mk 0 0 0) 1 (Gq4.mk 1 2 0) 0)]),.agg [.I 5,.I 5],.I 5]) R isF14 R (sbR (sbR (sbR sbN))) (q176q hr1) R (sMt R (sN (oEx R R (sN (oEx R R (sN (oEx R R (sAl R (sAl R (sAi R zS)))))))))))))))))))))))))
  refine LH.seq ?_
  obtain ⟨w3,hv,h⟩:=bindS h
  refine LH.seqJM mixed [] [0,0,0,0,0,0,0,0,0,0,0,0,0,0,0] [(37,.bool w3)] [] R R (by kernel_rfl) ?_ ?_
  ·refine mMi R (mN0 (oNe R R ⟨R,mMb R ?_⟩))
   by_cases hb4:(r1.2.2 != 0)=true
   ·replace hv:=iteT hv hb4
    refine mF R R hb4 (mF R R hb4 (mF R R hb4 (mN0 (oPkT (cB hb4) (v:=(.bool _)) R ⟨R,mMb R (mF R R R (mF R R R (mF R R R (mF R R R (mF R R R (mF R R R (mN0 (oPkT R (v:=(.bool _)) R ⟨R,?_⟩))))))))⟩))))
    obtain rfl:=oI hv
    exact zM
   ·replace hb4:=bF hb4
    replace hv:=iteF hv hb4
    refine mT R (cB hb4) (mMl R (mT R (cB hb4) (mN0 (oLnL (f:=Gq3.lv) te47 R ⟨R,mT R (cB hb4) (mN0 (oNe R R ⟨R,mN0 (oPkF (cB hb4) (v:=(.bool _)) R ⟨R,mMb R ?_⟩)⟩))⟩))))
    by_cases hb5:((r1.1.length:Int) != 2)=true
    ·replace hv:=iteT hv hb5
     refine mF R R hb5 (mF R R hb5 (mF R R hb5 (mF R R hb5 (mF R R hb5 (mF R R hb5 (mN0 (oPkT (cB hb5) (v:=(.bool _)) R ⟨R,?_⟩)))))))
     obtain rfl:=oI hv
     exact zM
    ·replace hb5:=bF hb5
     replace hv:=iteF hv hb5
     refine mT R (cB hb5) (mMl R ?_)
     obtain ⟨x6,hx6,hv⟩:=bindS hv
     refine mT R (cB hb5) (mN0 (oIx (f:=Gq3.lv) te47 tk58 ts58 R R Gq3.ok hx6 R ⟨R,mT R (cB hb5) (mN0 (oFaS tf58_0 tk42 ts42 R R R ⟨R,mT R (cB hb5) (mN0 (oLdA R tk42 ta42 ts42 R R ⟨R,mT R (cB hb5) (mN0 (oLdA R tk42 ta42 ts42 R R ⟨R,mT R (cB hb5) (mN0 (oNeA R R (ae42 x6.Entry (Gq4.mk 1 2 0)) ⟨R,mN0 (oPkF (cB hb5) (v:=(.bool _)) R ⟨R,?_⟩)⟩))⟩))⟩))⟩))⟩))
     obtain rfl:=oI hv
     exact zM
  clear hv
  refine LH.cond (t:=w3) R (fun hc7=>?_) (fun hc7=>?_)
  ·replace h:=iteT h hc7
   refine LH.seqT [(0,.bool false)] [] R (sAb R zS) (LH.ret (thenR ?_))
   obtain rfl:=oI h
   exact retE (aT Tryz.results19) (lrT R (lr0 ⟨memN mN,R,prK R,Sub.rfl⟩))
  replace h:=iteF h hc7
  refine LH.skip (thenN ?_)
  obtain ⟨r8,hr8,h⟩:=bindS h
  refine LH.seqT [(6,.lst 5 (List.map Gq8.lv r8.1)),(8,.I r8.2.2)] [] R (sN (oBd (vs:=[(0,.I 1),(1,.I 2)]) tu72 tz72 R (lf tf72_0 ts3 tk3 R R R (lf tf72_1 ts3 tk3 R R R lf0)) (sN (oBS (f:=GRoom.lv) (ys:=[(GRoom.mk 1 2 0)]) te34 tr72 ts72 R R R GRoom.ok (sN (oBd (vs:=[(0,.I 1)]) tu60 tz60 R (lf tf60_0 ts3 tk3 R R R lf0) (sN (oBd (vs:=[(0,.I 4)]) tu60 tz60 R (lf tf60_0 ts3 tk3 R R R lf0) (sN (oBS (f:=GNeed.lv) (ys:=[(GNeed.mk 1 0),(GNeed.mk 4 0)]) te37 tr60 ts60 R R R GNeed.ok (sN (oCP (args:=[.lst 3 (List.map GRoom.lv [(GRoom.mk 1 2 0)]),.lst 2 (List.map GNeed.lv [(GNeed.mk 1 0),(GNeed.mk 4 0)]),.I 2]) R isF17 R (sbR (sbR (sbR sbN))) (q165q hr8) R (sMt R (sN (oEx R R (sN (oEx R R (sN (oEx R R (sAl R (sAl R (sAi R zS)))))))))))))))))))))) ?_
  obtain ⟨w10,hv,h⟩:=bindS h
  refine LH.seqJM mixed [] [0,0,0,0,0,0,0,0,0,0,0,0,0,0,0,0,0,0,0] [(0,.bool w10)] [] R R (by kernel_rfl) ?_ ?_
  ·refine mMi R (mN0 (oEq R R ⟨R,mMb R ?_⟩))
   by_cases hb11:(r8.2.2 == 0)=true
   ·replace hv:=iteT hv hb11
    refine mT R (cB hb11) (mMl R (mT R (cB hb11) (mN0 (oLnL (f:=Gq8.lv) te61 R ⟨R,mT R (cB hb11) (mN0 (oEq R R ⟨R,mN0 (oPkT (cB hb11) (v:=(.bool _)) R ⟨R,mMb R ?_⟩)⟩))⟩))))
    by_cases hb12:((r8.1.length:Int) == 2)=true
    ·replace hv:=iteT hv hb12
     refine mT R (cB hb12) (mMl R ?_)
     obtain ⟨x13,hx13,hv⟩:=bindS hv
     refine mT R (cB hb12) (mN0 (oIx (f:=Gq8.lv) te61 tk69 ts69 R R Gq8.ok hx13 R ⟨R,mT R (cB hb12) (mN0 (oFaS tf69_2 tk3 ts3 R R R ⟨R,mT R (cB hb12) (mN0 (oLd R tk3 ta3 ⟨R,mT R (cB hb12) (mMl R ?_)⟩))⟩))⟩))
     obtain ⟨x14,hx14,hv⟩:=bindS hv
     refine mT R (cB hb12) (mN0 (oIx (f:=Gq8.lv) te61 tk69 ts69 R R Gq8.ok hx14 R ⟨R,mT R (cB hb12) (mN0 (oFaS tf69_2 tk3 ts3 R R R ⟨R,mT R (cB hb12) (mN0 (oLd R tk3 ta3 ⟨R,mT R (cB hb12) (mN0 (oNe R R ⟨R,mN0 (oPkT (cB hb12) (v:=(.bool _)) R ⟨R,mAb R ?_⟩)⟩))⟩))⟩))⟩))
     obtain rfl:=oI hv
     exact zM
    ·replace hb12:=bF hb12
     replace hv:=iteF hv hb12
     refine mF R R hb12 (mF R R hb12 (mF R R hb12 (mF R R hb12 (mF R R hb12 (mF R R hb12 (mF R R hb12 (mF R R hb12 (mF R R hb12 (mN0 (oPkF (cB hb12) (v:=(.bool _)) R ⟨R,mAb R ?_⟩))))))))))
     obtain rfl:=oI hv
     exact zM
   ·replace hb11:=bF hb11
    replace hv:=iteF hv hb11
    refine mF R R hb11 (mF R R hb11 (mF R R hb11 (mN0 (oPkF (cB hb11) (v:=(.bool _)) R ⟨R,mMb R (mF R R R (mF R R R (mF R R R (mF R R R (mF R R R (mF R R R (mF R R R (mF R R R (mF R R R (mN0 (oPkF R (v:=(.bool _)) R ⟨R,mAb R ?_⟩)))))))))))⟩))))
    obtain rfl:=oI hv
    exact zM
  clear hv
  refine LH.ret ?_
  obtain rfl:=oI h
  exact retE (aT Tryz.results19) (lrT R (lr0 ⟨memN mN,R,prK R,Sub.rfl⟩))

set_option maxHeartbeats 4000000 in
theorem q194q {F:Nat} {p0:List Int} {p1:Int} {r:Bool} (h:q137q F p0 p1=some r):LCall Tryz.prog 3 [.L p0,.I p1] (Mem.of []) (.bool r) (Mem.of []):=by
  unfold q137q at h
  refine bodyT Tryz.func3 R (nT Tryz.ntmps3 R) (LH.wk (Wk.eq (el:=[(0,.L p0),(1,.I p1)]) (ml:=[]) R R R R) (LH.seqT [(0,.L p0),(1,.I p1)] [] R (sAb R zS) ?_))
  obtain ⟨r1,hr1,h⟩:=bindS h
  refine LH.seqT [(1,.I p1),(5,.ptr 7 0)] [(7,.box [.L r1.L,.I r1.At])] R (sMl R (sN (oCM (args:=[.L p0]) (ml:=[]) (ml':=[(7,.box [.L r1.L,.I r1.At])]) R isF6 R (sbR sbN) (q208q hr1) mN (newF R newN) R (sAp R zS)))) ?_
  obtain ⟨r2,hr2,h⟩:=bindS h
  refine LH.seqT [(1,.I p1),(5,.ptr 7 0),(6,.sptr [.I r2.1.Close,.I r2.1.Late])] [(7,.box [.L r2.2.L,.I r2.2.At])] R (sMp R (sN (oCM (args:=[.ptr 7 0,.I 0]) (ml:=[(7,.box [.L r1.L,.I r1.At])]) (ml':=[(7,.box [.L r2.2.L,.I r2.2.At])]) R isF7 R (sbR (sbR sbN)) (Gq12 hr2) (mC R mN) (newI R newN) R (sN (oAl (id:=106) R tz26 R R (s_ (oSt R R R tk26 ts26 R R R (s0 ((Wk.trans (Wk.eq (el:=[(1,.I p1),(5,.ptr 7 0),(6,.ptr 106 0)]) (ml:=[(7,.box [.L r2.2.L,.I r2.2.At]),(106,.box [.I r2.1.Close,.I r2.1.Late])]) R R R R) (Wk.trans (Wk.frzB 106 [.I r2.1.Close,.I r2.1.Late] R R R (prN R)) (Wk.eq R R R R)))))))))))) ?_
  obtain ⟨r3,hr3,h⟩:=bindS h
  refine LH.seqT [(1,.I p1),(5,.ptr 7 0),(6,.sptr [.I r2.1.Close,.I r2.1.Late]),(7,.lst 8 (List.map Gq5.lv r3.1))] [(7,.box [.L r3.2.L,.I r3.2.At])] R (sMp R (sN (oCM (args:=[.ptr 7 0,.I 10,.I 0]) (ml:=[(7,.box [.L r2.2.L,.I r2.2.At])]) (ml':=[(7,.box [.L r3.2.L,.I r3.2.At])]) R isF8 R (sbR (sbR (sbR sbN))) (Gq19 hr3) (mC R mN) (newI R newN) R (sAl R zS)))) ?_
  obtain ⟨r4,hr4,h⟩:=bindS h
  obtain ⟨r5,hr5,h⟩:=bindS h
  obtain ⟨r6,hr6,h⟩:=bindS h
  refine LH.seqT [(1,.I p1),(5,.ptr 7 0),(6,.sptr [.I r2.1.Close,.I r2.1.Late]),(7,.lst 8 (List.map Gq5.lv r3.1)),(8,.lst 4 (List.map Gq1.lv r4.1)),(9,.lst 5 (List.map Gq6.lv r5.1)),(10,.lst 3 (List.map GRoom.lv r6.1))] [(7,.box [.L r6.2.L,.I r6.2.At])] R (sMp R (sN (oCM (args:=[.ptr 7 0,.I 0]) (ml:=[(7,.box [.L r3.2.L,.I r3.2.At])]) (ml':=[(7,.box [.L r4.2.L,.I r4.2.At])]) R isF9 R (sbR (sbR sbN)) (Gq49 hr4) (mC R mN) (newI R newN) R (sMp R (sN (oCM (args:=[.ptr 7 0]) (ml:=[(7,.box [.L r4.2.L,.I r4.2.At])]) (ml':=[(7,.box [.L r5.2.L,.I r5.2.At])]) R isF10 R (sbR sbN) (Gq23 hr5) (mC R mN) (newI R newN) R (sMp R (sN (oCM (args:=[.ptr 7 0,.I 0]) (ml:=[(7,.box [.L r5.2.L,.I r5.2.At])]) (ml':=[(7,.box [.L r6.2.L,.I r6.2.At])]) R isF11 R (sbR (sbR sbN)) (Gq45 hr6) (mC R mN) (newI R newN) R (sAl R (sAl R (sAl R zS)))))))))))) ?_
  obtain ⟨r7,hr7,h⟩:=bindS h
  refine LH.seqT [(1,.I r7),(5,.ptr 7 0),(6,.sptr [.I r2.1.Close,.I r2.1.Late]),(7,.lst 8 (List.map Gq5.lv r3.1)),(8,.lst 4 (List.map Gq1.lv r4.1)),(9,.lst 5 (List.map Gq6.lv r5.1)),(10,.lst 3 (List.map GRoom.lv r6.1))] [(7,.box [.L r6.2.L,.I r6.2.At])] R (sMi R (sN (oCP (args:=[.I p1,.I 30]) R isF12 R (sbR (sbR sbN)) (q169q hr7) R (sAi R zS)))) (LH.seqT [(1,.I r7),(5,.ptr 7 0),(6,.sptr [.I r2.1.Close,.I r2.1.Late]),(7,.lst 8 (List.map Gq5.lv r3.1)),(8,.lst 4 (List.map Gq1.lv r4.1)),(9,.lst 5 (List.map Gq6.lv r5.1)),(10,.lst 3 (List.map GRoom.lv r6.1)),(11,.nil)] [(7,.box [.L r6.2.L,.I r6.2.At])] R (sAn R zS) (LH.seq (LH.seqT [(1,.I r7),(5,.ptr 7 0),(6,.sptr [.I r2.1.Close,.I r2.1.Late]),(7,.lst 8 (List.map Gq5.lv r3.1)),(8,.lst 4 (List.map Gq1.lv r4.1)),(9,.lst 5 (List.map Gq6.lv r5.1)),(10,.lst 3 (List.map GRoom.lv r6.1)),(11,.nil),(12,.I 0)] [(7,.box [.L r6.2.L,.I r6.2.At])] R (sAi R zS) (LH.block (LH.wk (Wk.to (el:=[(1,.I r7),(5,.ptr 7 0),(6,.sptr [.I r2.1.Close,.I r2.1.Late]),(7,.lst 8 (List.map Gq5.lv r3.1)),(8,.lst 4 (List.map Gq1.lv r4.1)),(9,.lst 5 (List.map Gq6.lv r5.1)),(10,.lst 3 (List.map GRoom.lv r6.1)),(11,.lst 2 (List.map GNeed.lv ([]:List GNeed))),(12,.I 0)]) (ml:=[(7,.box [.L r6.2.L,.I r6.2.At])]) (eC R (eC R (eC R (eC R (eC R (eC R (eC R (eL R (eC R eN))))))))) ⟨R,trivial⟩ R (prK R)) (LH.loop (fun n e m=>∃ (l8:List Gq5) (l9:List Gq6) (l10:List GNeed) (n11:Int) (l12:List Int) (n13:Int),q13q F r2 r4 r6 r7 n l8 l9 l10 n11 l12 n13=some r∧e=Env.of [(1,.I r7),(5,.ptr 7 0),(6,.sptr [.I r2.1.Close,.I r2.1.Late]),(7,.lst 8 (List.map Gq5.lv l8)),(8,.lst 4 (List.map Gq1.lv r4.1)),(9,.lst 5 (List.map Gq6.lv l9)),(10,.lst 3 (List.map GRoom.lv r6.1)),(11,.lst 2 (List.map GNeed.lv l10)),(12,.I n11)]∧m=Mem.of [(7,.box [.L l12,.I n13])]) F ⟨r3.1,r5.1,([]:List GNeed),0,r6.2.L,r6.2.At,h,R,R⟩ ?_))))))
  clear h
  rintro n e m ⟨l8,l9,l10,n11,l12,n13,h,rfl,rfl⟩
  rcases n with _ | n
  · cases (show Option.none=some _ from h)
  obtain ⟨rec1,hrec1⟩:∃ f,f=q13q F r2 r4 r6 r7 n:=⟨_,rfl⟩
  replace h:q16q F r2 r4 r6 r7 rec1 l8 l9 l10 n11 l12 n13=some r:=hrec1 ▸ h
  unfold q16q at h
  refine LH.seq (LH.seqT [(1,.I r7),(5,.ptr 7 0),(6,.sptr [.I r2.1.Close,.I r2.1.Late]),(7,.lst 8 (List.map Gq5.lv l8)),(8,.lst 4 (List.map Gq1.lv r4.1)),(9,.lst 5 (List.map Gq6.lv l9)),(10,.lst 3 (List.map GRoom.lv r6.1)),(11,.lst 2 (List.map GNeed.lv l10)),(12,.I n11),(52,.bool (decide (n11<2)))] [(7,.box [.L l12,.I n13])] R (sMi R (sN (oLt R R zS))) (LH.cond (t:=(decide (n11<2))) R (fun hc14=>?_) (fun hc14=>?_)))
  ·replace h:=iteT h hc14
   refine LH.skip (thenN (LH.wk (Wk.eq (el:=[(1,.I r7),(5,.ptr 7 0),(6,.sptr [.I r2.1.Close,.I r2.1.Late]),(7,.lst 8 (List.map Gq5.lv l8)),(8,.lst 4 (List.map Gq1.lv r4.1)),(9,.lst 5 (List.map Gq6.lv l9)),(10,.lst 3 (List.map GRoom.lv r6.1)),(11,.lst 2 (List.map GNeed.lv l10)),(12,.I n11)]) (ml:=[(7,.box [.L l12,.I n13])]) R R R R) (LH.seq (LH.block (LH.mid (fun e m=>∃ (l15:List Gq5) (l16:List Gq6) (l17:List Int) (n18:Int),q61q rec1 F r2 r4 r7 l10 n11 l15 l16 l17 n18=some r∧Wk (fun id=>Mem.of [] id ≠ .none) e m (Env.of [(1,.I r7),(5,.ptr 7 0),(6,.sptr [.I r2.1.Close,.I r2.1.Late]),(7,.lst 8 (List.map Gq5.lv l15)),(8,.lst 4 (List.map Gq1.lv r4.1)),(9,.lst 5 (List.map Gq6.lv l16)),(10,.lst 3 (List.map GRoom.lv r6.1)),(11,.lst 2 (List.map GNeed.lv l10)),(12,.I n11)]) (Mem.of [(7,.box [.L l17,.I n18])])) ?_ ?_)))))
   ·refine LH.seqT [(1,.I r7),(5,.ptr 7 0),(6,.sptr [.I r2.1.Close,.I r2.1.Late]),(7,.lst 8 (List.map Gq5.lv l8)),(8,.lst 4 (List.map Gq1.lv r4.1)),(9,.lst 5 (List.map Gq6.lv l9)),(10,.lst 3 (List.map GRoom.lv r6.1)),(11,.lst 2 (List.map GNeed.lv l10)),(12,.I n11),(56,.bool (n11 == 1))] [(7,.box [.L l12,.I n13])] R (sMi R (sN (oEq R R zS))) (LH.cond (t:=(n11 == 1)) R (fun hc38=>?_) (fun hc38=>?_))
    ·replace h:=iteT h hc38
     obtain ⟨r39,hr39,h⟩:=bindS h
     obtain ⟨r40,hr40,h⟩:=bindS h
     refine LH.seqT [(1,.I r7),(5,.ptr 7 0),(6,.sptr [.I r2.1.Close,.I r2.1.Late]),(7,.lst 8 (List.map Gq5.lv l8)),(8,.lst 4 (List.map Gq1.lv r4.1)),(9,.lst 5 (List.map Gq6.lv l9)),(10,.lst 3 (List.map GRoom.lv r6.1)),(11,.lst 2 (List.map GNeed.lv l10)),(12,.I n11),(13,.L r39.1),(14,.L r40.1)] [(7,.box [.L r40.2.L,.I r40.2.At])] R (sMp R (sMl R (sN (oLnL (f:=Gq5.lv) te28 R (sN (oCM (args:=[.ptr 7 0,.I (l8.length:Int)]) (ml:=[(7,.box [.L l12,.I n13])]) (ml':=[(7,.box [.L r39.2.L,.I r39.2.At])]) R isF13 R (sbR (sbR sbN)) (Gq27 hr39) (mC R mN) (newI R newN) R (sMp R (sMl R (sN (oLnL (f:=Gq6.lv) te32 R (sN (oCM (args:=[.ptr 7 0,.I (l9.length:Int)]) (ml:=[(7,.box [.L r39.2.L,.I r39.2.At])]) (ml':=[(7,.box [.L r40.2.L,.I r40.2.At])]) R isF13 R (sbR (sbR sbN)) (Gq27 hr40) (mC R mN) (newI R newN) R (sAl R (sAl R zS)))))))))))))) (LH.seqT [(1,.I r7),(5,.ptr 7 0),(6,.sptr [.I r2.1.Close,.I r2.1.Late]),(7,.lst 8 (List.map Gq5.lv l8)),(8,.lst 4 (List.map Gq1.lv r4.1)),(9,.lst 5 (List.map Gq6.lv l9)),(10,.lst 3 (List.map GRoom.lv r6.1)),(11,.lst 2 (List.map GNeed.lv l10)),(12,.I n11),(13,.L r39.1),(14,.L r40.1),(15,.nil)] [(7,.box [.L r40.2.L,.I r40.2.At])] R (sAn R zS) (LH.seqT [(1,.I r7),(5,.ptr 7 0),(6,.sptr [.I r2.1.Close,.I r2.1.Late]),(7,.lst 8 (List.map Gq5.lv l8)),(8,.lst 4 (List.map Gq1.lv r4.1)),(9,.lst 5 (List.map Gq6.lv l9)),(10,.lst 3 (List.map GRoom.lv r6.1)),(11,.lst 2 (List.map GNeed.lv l10)),(12,.I n11),(13,.L r39.1),(14,.L r40.1),(15,.nil),(16,.nil)] [(7,.box [.L r40.2.L,.I r40.2.At])] R (sAn R zS) (LH.seq (LH.seqT [(1,.I r7),(5,.ptr 7 0),(6,.sptr [.I r2.1.Close,.I r2.1.Late]),(7,.lst 8 (List.map Gq5.lv l8)),(8,.lst 4 (List.map Gq1.lv r4.1)),(9,.lst 5 (List.map Gq6.lv l9)),(10,.lst 3 (List.map GRoom.lv r6.1)),(11,.lst 2 (List.map GNeed.lv l10)),(12,.I n11),(13,.L r39.1),(14,.L r40.1),(15,.nil),(16,.nil),(17,.I 0)] [(7,.box [.L r40.2.L,.I r40.2.At])] R (sAi R zS) (LH.block (LH.wk ((Wk.trans (Wk.eq (el:=[(1,.I r7),(5,.ptr 7 0),(6,.sptr [.I r2.1.Close,.I r2.1.Late]),(7,.lst 8 (List.map Gq5.lv l8)),(8,.lst 4 (List.map Gq1.lv r4.1)),(9,.lst 5 (List.map Gq6.lv l9)),(10,.lst 3 (List.map GRoom.lv r6.1)),(11,.lst 2 (List.map GNeed.lv l10)),(12,.I n11),(13,.L r39.1),(14,.L r40.1),(15,.nil),(16,.nil),(17,.I 0)]) (ml:=[(7,.box [.L r40.2.L,.I r40.2.At])]) R R R R) (Wk.trans (Wk.eq (el:=[(1,.I r7),(5,.ptr 7 0),(6,.sptr [.I r2.1.Close,.I r2.1.Late]),(7,.lst 8 (List.map Gq5.lv l8)),(8,.lst 4 (List.map Gq1.lv r4.1)),(9,.lst 5 (List.map Gq6.lv l9)),(10,.lst 3 (List.map GRoom.lv r6.1)),(11,.lst 2 (List.map GNeed.lv l10)),(12,.I n11),(13,.L r39.1),(14,.L r40.1),(15,.nil),(16,.nil),(17,.I 0)]) (ml:=[(7,.box [.L r40.2.L,.I r40.2.At])]) R R R R) (Wk.trans (Wk.ownL (el':=[(1,.I r7),(5,.ptr 7 0),(6,.sptr [.I r2.1.Close,.I r2.1.Late]),(7,.lst 8 (List.map Gq5.lv l8)),(8,.lst 4 (List.map Gq1.lv r4.1)),(9,.lst 5 (List.map Gq6.lv l9)),(10,.lst 3 (List.map GRoom.lv r6.1)),(11,.lst 2 (List.map GNeed.lv l10)),(12,.I n11),(13,.L r39.1),(14,.L r40.1),(15,.arr 180 (List.length ([]:List Gq5))),(16,.nil),(17,.I 0)]) 180 44 8 R R (wK (wK (wK (wK (wK (wK (wK (wK (wK (wK (wK (wO (wK (wK wN))))))))))))))) (Wk.eq (el:=[(1,.I r7),(5,.ptr 7 0),(6,.sptr [.I r2.1.Close,.I r2.1.Late]),(7,.lst 8 (List.map Gq5.lv l8)),(8,.lst 4 (List.map Gq1.lv r4.1)),(9,.lst 5 (List.map Gq6.lv l9)),(10,.lst 3 (List.map GRoom.lv r6.1)),(11,.lst 2 (List.map GNeed.lv l10)),(12,.I n11),(13,.L r39.1),(14,.L r40.1),(15,.arr 180 (List.length ([]:List Gq5))),(16,.nil),(17,.I 0)]) (ml:=[(7,.box [.L r40.2.L,.I r40.2.At]),(180,.arr 44 8 (List.map Gq5.lv ([]:List Gq5)))]) R R R R))))) (LH.loop (fun n e m=>∃ (n41:Int) (l42:List Gq5),q117q rec1 F r2 r4 r7 l8 l9 l10 n11 r39 r40 n n41 l42=some r∧e=Env.of [(1,.I r7),(5,.ptr 7 0),(6,.sptr [.I r2.1.Close,.I r2.1.Late]),(7,.lst 8 (List.map Gq5.lv l8)),(8,.lst 4 (List.map Gq1.lv r4.1)),(9,.lst 5 (List.map Gq6.lv l9)),(10,.lst 3 (List.map GRoom.lv r6.1)),(11,.lst 2 (List.map GNeed.lv l10)),(12,.I n11),(13,.L r39.1),(14,.L r40.1),(15,.arr 180 (List.length l42)),(16,.nil),(17,.I n41)]∧m=Mem.of [(7,.box [.L r40.2.L,.I r40.2.At]),(180,.arr 44 8 (List.map Gq5.lv l42))]) F ⟨0,([]:List Gq5),h,R,R⟩ ?_)))))))
     clear h
     rintro n e m ⟨n41,l42,h,rfl,rfl⟩
     rcases n with _ | n
     · cases (show Option.none=some _ from h)
     obtain ⟨rec5,hrec5⟩:∃ f,f=q117q rec1 F r2 r4 r7 l8 l9 l10 n11 r39 r40 n:=⟨_,rfl⟩
     replace h:q76q rec1 F r2 r4 r7 l8 l9 l10 n11 r39 r40 rec5 n41 l42=some r:=hrec5 ▸ h
     unfold q76q at h
     refine LH.seq (LH.seqT [(1,.I r7),(5,.ptr 7 0),(6,.sptr [.I r2.1.Close,.I r2.1.Late]),(7,.lst 8 (List.map Gq5.lv l8)),(8,.lst 4 (List.map Gq1.lv r4.1)),(9,.lst 5 (List.map Gq6.lv l9)),(10,.lst 3 (List.map GRoom.lv r6.1)),(11,.lst 2 (List.map GNeed.lv l10)),(12,.I n11),(13,.L r39.1),(14,.L r40.1),(15,.arr 180 (List.length l42)),(16,.nil),(17,.I n41),(68,.bool (decide (n41<(r39.1.length:Int))))] [(7,.box [.L r40.2.L,.I r40.2.At]),(180,.arr 44 8 (List.map Gq5.lv l42))] R (sMi R (sMl R (sN (oLnL (f:=LV.I) te22 R (sN (oLt R R zS)))))) (LH.cond (t:=(decide (n41<(r39.1.length:Int)))) R (fun hc43=>?_) (fun hc43=>?_)))
     ·replace h:=iteT h hc43
      refine LH.skip (thenN (LH.wk (Wk.eq (el:=[(1,.I r7),(5,.ptr 7 0),(6,.sptr [.I r2.1.Close,.I r2.1.Late]),(7,.lst 8 (List.map Gq5.lv l8)),(8,.lst 4 (List.map Gq1.lv r4.1)),(9,.lst 5 (List.map Gq6.lv l9)),(10,.lst 3 (List.map GRoom.lv r6.1)),(11,.lst 2 (List.map GNeed.lv l10)),(12,.I n11),(13,.L r39.1),(14,.L r40.1),(15,.arr 180 (List.length l42)),(16,.nil),(17,.I n41)]) (ml:=[(7,.box [.L r40.2.L,.I r40.2.At]),(180,.arr 44 8 (List.map Gq5.lv l42))]) R R R R) (LH.seq (LH.block ?_))))
      obtain ⟨x44,hx44,h⟩:=bindS h
      obtain ⟨x45,hx45,h⟩:=bindS h
      obtain ⟨v46,hv46,h⟩:=bindS h
      refine LH.loneT [(1,.I r7),(5,.ptr 7 0),(6,.sptr [.I r2.1.Close,.I r2.1.Late]),(7,.lst 8 (List.map Gq5.lv l8)),(8,.lst 4 (List.map Gq1.lv r4.1)),(9,.lst 5 (List.map Gq6.lv l9)),(10,.lst 3 (List.map GRoom.lv r6.1)),(11,.lst 2 (List.map GNeed.lv l10)),(12,.I n11),(13,.L r39.1),(14,.L r40.1),(15,.arr 180 (List.length v46)),(16,.nil),(17,.I n41)] [(7,.box [.L r40.2.L,.I r40.2.At]),(180,.arr 44 8 (List.map Gq5.lv v46))] R (sMa R (sMl R (sMl R (sMi R (sN (oIx (f:=LV.I) te22 tk3 ts3 R R okI hx44 R (sN (oLd R tk3 ta3 (sN (oIx (f:=Gq5.lv) te28 tk44 ts44 R R Gq5.ok hx45 R (sN (oLdA R tk44 ta44 ts44 R R (sN (oBS (f:=Gq5.lv) (ys:=[x45]) te28 tr44 ts44 R R R Gq5.ok (sN (oAp (f:=Gq5.lv) te28 tr44 ts44 R R (prN R) R hv46 (sAa R zS))))))))))))))))) (blockN (thenN (LH.loneT [(1,.I r7),(5,.ptr 7 0),(6,.sptr [.I r2.1.Close,.I r2.1.Late]),(7,.lst 8 (List.map Gq5.lv l8)),(8,.lst 4 (List.map Gq1.lv r4.1)),(9,.lst 5 (List.map Gq6.lv l9)),(10,.lst 3 (List.map GRoom.lv r6.1)),(11,.lst 2 (List.map GNeed.lv l10)),(12,.I n11),(13,.L r39.1),(14,.L r40.1),(15,.arr 180 (List.length v46)),(16,.nil),(17,.I (i64 (n41+1)))] [(7,.box [.L r40.2.L,.I r40.2.At]),(180,.arr 44 8 (List.map Gq5.lv v46))] R (sMi R (sN (oAdd R R (sAi R zS)))) ?_)))
      exact roundI ⟨(i64 (n41+1)),v46,hrec5 ▸ h,R,R⟩ (Wk.eq R R R R)
     replace h:=iteF h hc43
     refine LH.exit (thenX (roundX (blockH (thenN (LH.wk ((Wk.trans (Wk.eq (el:=[(1,.I r7),(5,.ptr 7 0),(6,.sptr [.I r2.1.Close,.I r2.1.Late]),(8,.lst 4 (List.map Gq1.lv r4.1)),(9,.lst 5 (List.map Gq6.lv l9)),(10,.lst 3 (List.map GRoom.lv r6.1)),(11,.lst 2 (List.map GNeed.lv l10)),(12,.I n11),(14,.L r40.1),(15,.arr 180 (List.length l42)),(16,.nil)]) (ml:=[(7,.box [.L r40.2.L,.I r40.2.At]),(180,.arr 44 8 (List.map Gq5.lv l42))]) R R R R) (Wk.trans (Wk.frzL (f:=Gq5.lv) (el':=[(1,.I r7),(5,.ptr 7 0),(6,.sptr [.I r2.1.Close,.I r2.1.Late]),(8,.lst 4 (List.map Gq1.lv r4.1)),(9,.lst 5 (List.map Gq6.lv l9)),(10,.lst 3 (List.map GRoom.lv r6.1)),(11,.lst 2 (List.map GNeed.lv l10)),(12,.I n11),(14,.L r40.1),(15,.lst 8 (List.map Gq5.lv l42)),(16,.nil)]) 180 44 8 l42 R R (prN R) (fK R (fK R (fK R (fK R (fK R (fK R (fK R (fK R (fK R (fZ (fK R fN)))))))))))) (Wk.eq (el:=[(1,.I r7),(5,.ptr 7 0),(6,.sptr [.I r2.1.Close,.I r2.1.Late]),(8,.lst 4 (List.map Gq1.lv r4.1)),(9,.lst 5 (List.map Gq6.lv l9)),(10,.lst 3 (List.map GRoom.lv r6.1)),(11,.lst 2 (List.map GNeed.lv l10)),(12,.I n11),(14,.L r40.1),(15,.lst 8 (List.map Gq5.lv l42)),(16,.nil)]) (ml:=[(7,.box [.L r40.2.L,.I r40.2.At])]) R R R R)))) (LH.seq (LH.seqT [(1,.I r7),(5,.ptr 7 0),(6,.sptr [.I r2.1.Close,.I r2.1.Late]),(8,.lst 4 (List.map Gq1.lv r4.1)),(9,.lst 5 (List.map Gq6.lv l9)),(10,.lst 3 (List.map GRoom.lv r6.1)),(11,.lst 2 (List.map GNeed.lv l10)),(12,.I n11),(14,.L r40.1),(15,.lst 8 (List.map Gq5.lv l42)),(16,.nil),(18,.I 0)] [(7,.box [.L r40.2.L,.I r40.2.At])] R (sAi R zS) (LH.block (LH.wk ((Wk.trans (Wk.eq (el:=[(1,.I r7),(5,.ptr 7 0),(6,.sptr [.I r2.1.Close,.I r2.1.Late]),(8,.lst 4 (List.map Gq1.lv r4.1)),(9,.lst 5 (List.map Gq6.lv l9)),(10,.lst 3 (List.map GRoom.lv r6.1)),(11,.lst 2 (List.map GNeed.lv l10)),(12,.I n11),(14,.L r40.1),(15,.lst 8 (List.map Gq5.lv l42)),(16,.nil),(18,.I 0)]) (ml:=[(7,.box [.L r40.2.L,.I r40.2.At])]) R R R R) (Wk.trans (Wk.eq (el:=[(1,.I r7),(5,.ptr 7 0),(6,.sptr [.I r2.1.Close,.I r2.1.Late]),(8,.lst 4 (List.map Gq1.lv r4.1)),(9,.lst 5 (List.map Gq6.lv l9)),(10,.lst 3 (List.map GRoom.lv r6.1)),(11,.lst 2 (List.map GNeed.lv l10)),(12,.I n11),(14,.L r40.1),(15,.lst 8 (List.map Gq5.lv l42)),(16,.nil),(18,.I 0)]) (ml:=[(7,.box [.L r40.2.L,.I r40.2.At])]) R R R R) (Wk.trans (Wk.ownL (el':=[(1,.I r7),(5,.ptr 7 0),(6,.sptr [.I r2.1.Close,.I r2.1.Late]),(8,.lst 4 (List.map Gq1.lv r4.1)),(9,.lst 5 (List.map Gq6.lv l9)),(10,.lst 3 (List.map GRoom.lv r6.1)),(11,.lst 2 (List.map GNeed.lv l10)),(12,.I n11),(14,.L r40.1),(15,.lst 8 (List.map Gq5.lv l42)),(16,.arr 196 (List.length ([]:List Gq6))),(18,.I 0)]) 196 46 5 R R (wK (wK (wK (wK (wK (wK (wK (wK (wK (wK (wO (wK wN))))))))))))) (Wk.eq (el:=[(1,.I r7),(5,.ptr 7 0),(6,.sptr [.I r2.1.Close,.I r2.1.Late]),(8,.lst 4 (List.map Gq1.lv r4.1)),(9,.lst 5 (List.map Gq6.lv l9)),(10,.lst 3 (List.map GRoom.lv r6.1)),(11,.lst 2 (List.map GNeed.lv l10)),(12,.I n11),(14,.L r40.1),(15,.lst 8 (List.map Gq5.lv l42)),(16,.arr 196 (List.length ([]:List Gq6))),(18,.I 0)]) (ml:=[(7,.box [.L r40.2.L,.I r40.2.At]),(196,.arr 46 5 (List.map Gq6.lv ([]:List Gq6)))]) R R R R))))) (LH.loop (fun n e m=>∃ (n47:Int) (l48:List Gq6),q118q rec1 F r2 r4 r7 l9 l10 n11 r40 l42 n n47 l48=some r∧e=Env.of [(1,.I r7),(5,.ptr 7 0),(6,.sptr [.I r2.1.Close,.I r2.1.Late]),(8,.lst 4 (List.map Gq1.lv r4.1)),(9,.lst 5 (List.map Gq6.lv l9)),(10,.lst 3 (List.map GRoom.lv r6.1)),(11,.lst 2 (List.map GNeed.lv l10)),(12,.I n11),(14,.L r40.1),(15,.lst 8 (List.map Gq5.lv l42)),(16,.arr 196 (List.length l48)),(18,.I n47)]∧m=Mem.of [(7,.box [.L r40.2.L,.I r40.2.At]),(196,.arr 46 5 (List.map Gq6.lv l48))]) F ⟨0,([]:List Gq6),h,R,R⟩ ?_))))))))))
     clear h
     rintro n e m ⟨n47,l48,h,rfl,rfl⟩
     rcases n with _ | n
     · cases (show Option.none=some _ from h)
     obtain ⟨rec6,hrec6⟩:∃ f,f=q118q rec1 F r2 r4 r7 l9 l10 n11 r40 l42 n:=⟨_,rfl⟩
     replace h:q77q rec1 F r2 r4 r7 l9 l10 n11 r40 l42 rec6 n47 l48=some r:=hrec6 ▸ h
     unfold q77q at h
     refine LH.seq (LH.seqT [(1,.I r7),(5,.ptr 7 0),(6,.sptr [.I r2.1.Close,.I r2.1.Late]),(8,.lst 4 (List.map Gq1.lv r4.1)),(9,.lst 5 (List.map Gq6.lv l9)),(10,.lst 3 (List.map GRoom.lv r6.1)),(11,.lst 2 (List.map GNeed.lv l10)),(12,.I n11),(14,.L r40.1),(15,.lst 8 (List.map Gq5.lv l42)),(16,.arr 196 (List.length l48)),(18,.I n47),(84,.bool (decide (n47<(r40.1.length:Int))))] [(7,.box [.L r40.2.L,.I r40.2.At]),(196,.arr 46 5 (List.map Gq6.lv l48))] R (sMi R (sMl R (sN (oLnL (f:=LV.I) te22 R (sN (oLt R R zS)))))) (LH.cond (t:=(decide (n47<(r40.1.length:Int)))) R (fun hc49=>?_) (fun hc49=>?_)))
     ·replace h:=iteT h hc49
      refine LH.skip (thenN (LH.wk (Wk.eq (el:=[(1,.I r7),(5,.ptr 7 0),(6,.sptr [.I r2.1.Close,.I r2.1.Late]),(8,.lst 4 (List.map Gq1.lv r4.1)),(9,.lst 5 (List.map Gq6.lv l9)),(10,.lst 3 (List.map GRoom.lv r6.1)),(11,.lst 2 (List.map GNeed.lv l10)),(12,.I n11),(14,.L r40.1),(15,.lst 8 (List.map Gq5.lv l42)),(16,.arr 196 (List.length l48)),(18,.I n47)]) (ml:=[(7,.box [.L r40.2.L,.I r40.2.At]),(196,.arr 46 5 (List.map Gq6.lv l48))]) R R R R) (LH.seq (LH.block ?_))))
      obtain ⟨x50,hx50,h⟩:=bindS h
      obtain ⟨x51,hx51,h⟩:=bindS h
      obtain ⟨v52,hv52,h⟩:=bindS h
      refine LH.loneT [(1,.I r7),(5,.ptr 7 0),(6,.sptr [.I r2.1.Close,.I r2.1.Late]),(8,.lst 4 (List.map Gq1.lv r4.1)),(9,.lst 5 (List.map Gq6.lv l9)),(10,.lst 3 (List.map GRoom.lv r6.1)),(11,.lst 2 (List.map GNeed.lv l10)),(12,.I n11),(14,.L r40.1),(15,.lst 8 (List.map Gq5.lv l42)),(16,.arr 196 (List.length v52)),(18,.I n47)] [(7,.box [.L r40.2.L,.I r40.2.At]),(196,.arr 46 5 (List.map Gq6.lv v52))] R (sMa R (sMl R (sMl R (sMi R (sN (oIx (f:=LV.I) te22 tk3 ts3 R R okI hx50 R (sN (oLd R tk3 ta3 (sN (oIx (f:=Gq6.lv) te32 tk46 ts46 R R Gq6.ok hx51 R (sN (oLdA R tk46 ta46 ts46 R R (sN (oBS (f:=Gq6.lv) (ys:=[x51]) te32 tr46 ts46 R R R Gq6.ok (sN (oAp (f:=Gq6.lv) te32 tr46 ts46 R R (prN R) R hv52 (sAa R zS))))))))))))))))) (blockN (thenN (LH.loneT [(1,.I r7),(5,.ptr 7 0),(6,.sptr [.I r2.1.Close,.I r2.1.Late]),(8,.lst 4 (List.map Gq1.lv r4.1)),(9,.lst 5 (List.map Gq6.lv l9)),(10,.lst 3 (List.map GRoom.lv r6.1)),(11,.lst 2 (List.map GNeed.lv l10)),(12,.I n11),(14,.L r40.1),(15,.lst 8 (List.map Gq5.lv l42)),(16,.arr 196 (List.length v52)),(18,.I (i64 (n47+1)))] [(7,.box [.L r40.2.L,.I r40.2.At]),(196,.arr 46 5 (List.map Gq6.lv v52))] R (sMi R (sN (oAdd R R (sAi R zS)))) ?_)))
      exact roundI ⟨(i64 (n47+1)),v52,hrec6 ▸ h,R,R⟩ (Wk.eq R R R R)
     replace h:=iteF h hc49
     exact LH.exit (thenX (roundX (blockH (thenN (LH.wk ((Wk.trans (Wk.eq (el:=[(1,.I r7),(5,.ptr 7 0),(6,.sptr [.I r2.1.Close,.I r2.1.Late]),(8,.lst 4 (List.map Gq1.lv r4.1)),(10,.lst 3 (List.map GRoom.lv r6.1)),(11,.lst 2 (List.map GNeed.lv l10)),(12,.I n11),(15,.lst 8 (List.map Gq5.lv l42)),(16,.arr 196 (List.length l48))]) (ml:=[(7,.box [.L r40.2.L,.I r40.2.At]),(196,.arr 46 5 (List.map Gq6.lv l48))]) R R R R) (Wk.trans (Wk.frzL (f:=Gq6.lv) (el':=[(1,.I r7),(5,.ptr 7 0),(6,.sptr [.I r2.1.Close,.I r2.1.Late]),(8,.lst 4 (List.map Gq1.lv r4.1)),(10,.lst 3 (List.map GRoom.lv r6.1)),(11,.lst 2 (List.map GNeed.lv l10)),(12,.I n11),(15,.lst 8 (List.map Gq5.lv l42)),(16,.lst 5 (List.map Gq6.lv l48))]) 196 46 5 l48 R R (prN R) (fK R (fK R (fK R (fK R (fK R (fK R (fK R (fK R (fZ fN)))))))))) (Wk.eq (el:=[(1,.I r7),(5,.ptr 7 0),(6,.sptr [.I r2.1.Close,.I r2.1.Late]),(8,.lst 4 (List.map Gq1.lv r4.1)),(10,.lst 3 (List.map GRoom.lv r6.1)),(11,.lst 2 (List.map GNeed.lv l10)),(12,.I n11),(15,.lst 8 (List.map Gq5.lv l42)),(16,.lst 5 (List.map Gq6.lv l48))]) (ml:=[(7,.box [.L r40.2.L,.I r40.2.At])]) R R R R)))) (LH.loneT [(1,.I r7),(5,.ptr 7 0),(6,.sptr [.I r2.1.Close,.I r2.1.Late]),(7,.lst 8 (List.map Gq5.lv l42)),(8,.lst 4 (List.map Gq1.lv r4.1)),(9,.lst 5 (List.map Gq6.lv l48)),(10,.lst 3 (List.map GRoom.lv r6.1)),(11,.lst 2 (List.map GNeed.lv l10)),(12,.I n11)] [(7,.box [.L r40.2.L,.I r40.2.At])] R (sMl R (sMl R (sAl R (sAl R zS)))) (thenN ⟨l42,l48,r40.2.L,r40.2.At,h,Wk.eq R R R R⟩)))))))
    replace h:=iteF h hc38
    exact LH.skip (thenN ⟨l8,l9,l12,n13,h,Wk.eq R R R R⟩)
   clear h
   rintro e m ⟨l15,l16,l17,n18,h,hw⟩
   refine LH.wk hw ?_
   clear hw
   unfold q61q at h
   obtain ⟨r19,hr19,h⟩:=bindS h
   refine LH.seqT [(1,.I r7),(5,.ptr 7 0),(6,.sptr [.I r2.1.Close,.I r2.1.Late]),(7,.lst 8 (List.map Gq5.lv l15)),(8,.lst 4 (List.map Gq1.lv r4.1)),(9,.lst 5 (List.map Gq6.lv l16)),(10,.lst 3 (List.map GRoom.lv r6.1)),(11,.lst 2 (List.map GNeed.lv l10)),(12,.I n11),(19,.lst 4 (List.map Gq3.lv r19.1)),(21,.I r19.2.2)] [(7,.box [.L l17,.I n18])] R (sMl R (sN (oLdA R tk26 ta26 ts26 R R (sN (oCP (args:=[.lst 8 (List.map Gq5.lv l15),.agg [.I r2.1.Close,.I r2.1.Late],.I 1000000]) R isF14 R (sbR (sbR (sbR sbN))) (q176q hr19) R (sMt R (sN (oEx R R (sN (oEx R R (sN (oEx R R (sAl R (sAl R (sAi R zS))))))))))))))) ?_
   obtain ⟨r20,hr20,h⟩:=bindS h
   refine LH.seqT [(1,.I r7),(5,.ptr 7 0),(6,.sptr [.I r2.1.Close,.I r2.1.Late]),(7,.lst 8 (List.map Gq5.lv l15)),(8,.lst 4 (List.map Gq1.lv r4.1)),(9,.lst 5 (List.map Gq6.lv l16)),(10,.lst 3 (List.map GRoom.lv r6.1)),(11,.lst 2 (List.map GNeed.lv l10)),(12,.I n11),(21,.I r19.2.2),(22,.lst 4 (List.map Gq3.lv r20))] [(7,.box [.L l17,.I n18])] R (sMl R (sN (oCP (args:=[.lst 4 (List.map Gq3.lv r19.1),.I 0]) R isF15 R (sbR (sbR sbN)) (q202q hr20) R (sAl R zS)))) (LH.seqT [(1,.I r7),(5,.ptr 7 0),(6,.sptr [.I r2.1.Close,.I r2.1.Late]),(7,.lst 8 (List.map Gq5.lv l15)),(8,.lst 4 (List.map Gq1.lv r4.1)),(9,.lst 5 (List.map Gq6.lv l16)),(10,.lst 3 (List.map GRoom.lv r6.1)),(11,.lst 2 (List.map GNeed.lv l10)),(12,.I n11),(21,.I r19.2.2),(22,.lst 4 (List.map Gq3.lv r20)),(23,.nil)] [(7,.box [.L l17,.I n18])] R (sAn R zS) (LH.seq (LH.seqT [(1,.I r7),(5,.ptr 7 0),(6,.sptr [.I r2.1.Close,.I r2.1.Late]),(7,.lst 8 (List.map Gq5.lv l15)),(8,.lst 4 (List.map Gq1.lv r4.1)),(9,.lst 5 (List.map Gq6.lv l16)),(10,.lst 3 (List.map GRoom.lv r6.1)),(11,.lst 2 (List.map GNeed.lv l10)),(12,.I n11),(21,.I r19.2.2),(22,.lst 4 (List.map Gq3.lv r20)),(23,.nil),(24,.I 0)] [(7,.box [.L l17,.I n18])] R (sAi R zS) (LH.block (LH.wk ((Wk.trans (Wk.eq (el:=[(1,.I r7),(5,.ptr 7 0),(6,.sptr [.I r2.1.Close,.I r2.1.Late]),(7,.lst 8 (List.map Gq5.lv l15)),(8,.lst 4 (List.map Gq1.lv r4.1)),(9,.lst 5 (List.map Gq6.lv l16)),(10,.lst 3 (List.map GRoom.lv r6.1)),(11,.lst 2 (List.map GNeed.lv l10)),(12,.I n11),(21,.I r19.2.2),(22,.lst 4 (List.map Gq3.lv r20)),(23,.nil),(24,.I 0)]) (ml:=[(7,.box [.L l17,.I n18])]) R R R R) (Wk.trans (Wk.eq (el:=[(1,.I r7),(5,.ptr 7 0),(6,.sptr [.I r2.1.Close,.I r2.1.Late]),(7,.lst 8 (List.map Gq5.lv l15)),(8,.lst 4 (List.map Gq1.lv r4.1)),(9,.lst 5 (List.map Gq6.lv l16)),(10,.lst 3 (List.map GRoom.lv r6.1)),(11,.lst 2 (List.map GNeed.lv l10)),(12,.I n11),(21,.I r19.2.2),(22,.lst 4 (List.map Gq3.lv r20)),(23,.nil),(24,.I 0)]) (ml:=[(7,.box [.L l17,.I n18])]) R R R R) (Wk.trans (Wk.ownL (el':=[(1,.I r7),(5,.ptr 7 0),(6,.sptr [.I r2.1.Close,.I r2.1.Late]),(7,.lst 8 (List.map Gq5.lv l15)),(8,.lst 4 (List.map Gq1.lv r4.1)),(9,.lst 5 (List.map Gq6.lv l16)),(10,.lst 3 (List.map GRoom.lv r6.1)),(11,.lst 2 (List.map GNeed.lv l10)),(12,.I n11),(21,.I r19.2.2),(22,.lst 4 (List.map Gq3.lv r20)),(23,.arr 240 (List.length ([]:List GNeed))),(24,.I 0)]) 240 60 2 R R (wK (wK (wK (wK (wK (wK (wK (wK (wK (wK (wK (wO (wK wN)))))))))))))) (Wk.eq (el:=[(1,.I r7),(5,.ptr 7 0),(6,.sptr [.I r2.1.Close,.I r2.1.Late]),(7,.lst 8 (List.map Gq5.lv l15)),(8,.lst 4 (List.map Gq1.lv r4.1)),(9,.lst 5 (List.map Gq6.lv l16)),(10,.lst 3 (List.map GRoom.lv r6.1)),(11,.lst 2 (List.map GNeed.lv l10)),(12,.I n11),(21,.I r19.2.2),(22,.lst 4 (List.map Gq3.lv r20)),(23,.arr 240 (List.length ([]:List GNeed))),(24,.I 0)]) (ml:=[(7,.box [.L l17,.I n18]),(240,.arr 60 2 (List.map GNeed.lv ([]:List GNeed)))]) R R R R))))) (LH.loop (fun n e m=>∃ (n21:Int) (l22:List GNeed),q115q rec1 F r4 r7 l10 n11 l15 l16 l17 n18 r19 r20 n n21 l22=some r∧e=Env.of [(1,.I r7),(5,.ptr 7 0),(6,.sptr [.I r2.1.Close,.I r2.1.Late]),(7,.lst 8 (List.map Gq5.lv l15)),(8,.lst 4 (List.map Gq1.lv r4.1)),(9,.lst 5 (List.map Gq6.lv l16)),(10,.lst 3 (List.map GRoom.lv r6.1)),(11,.lst 2 (List.map GNeed.lv l10)),(12,.I n11),(21,.I r19.2.2),(22,.lst 4 (List.map Gq3.lv r20)),(23,.arr 240 (List.length l22)),(24,.I n21)]∧m=Mem.of [(7,.box [.L l17,.I n18]),(240,.arr 60 2 (List.map GNeed.lv l22))]) F ⟨0,([]:List GNeed),h,R,R⟩ ?_))))))
   clear h
   rintro n e m ⟨n21,l22,h,rfl,rfl⟩
   rcases n with _ | n
   · cases (show Option.none=some _ from h)
   obtain ⟨rec3,hrec3⟩:∃ f,f=q115q rec1 F r4 r7 l10 n11 l15 l16 l17 n18 r19 r20 n:=⟨_,rfl⟩
   replace h:q74q rec1 F r4 r7 l10 n11 l15 l16 l17 n18 r19 r20 rec3 n21 l22=some r:=hrec3 ▸ h
   unfold q74q at h
   refine LH.seq (LH.seqT [(1,.I r7),(5,.ptr 7 0),(6,.sptr [.I r2.1.Close,.I r2.1.Late]),(7,.lst 8 (List.map Gq5.lv l15)),(8,.lst 4 (List.map Gq1.lv r4.1)),(9,.lst 5 (List.map Gq6.lv l16)),(10,.lst 3 (List.map GRoom.lv r6.1)),(11,.lst 2 (List.map GNeed.lv l10)),(12,.I n11),(21,.I r19.2.2),(22,.lst 4 (List.map Gq3.lv r20)),(23,.arr 240 (List.length l22)),(24,.I n21),(111,.bool (decide (n21<(r20.length:Int))))] [(7,.box [.L l17,.I n18]),(240,.arr 60 2 (List.map GNeed.lv l22))] R (sMi R (sMl R (sN (oLnL (f:=Gq3.lv) te47 R (sN (oLt R R zS)))))) (LH.cond (t:=(decide (n21<(r20.length:Int)))) R (fun hc23=>?_) (fun hc23=>?_)))
   ·replace h:=iteT h hc23
    refine LH.skip (thenN (LH.wk (Wk.eq (el:=[(1,.I r7),(5,.ptr 7 0),(6,.sptr [.I r2.1.Close,.I r2.1.Late]),(7,.lst 8 (List.map Gq5.lv l15)),(8,.lst 4 (List.map Gq1.lv r4.1)),(9,.lst 5 (List.map Gq6.lv l16)),(10,.lst 3 (List.map GRoom.lv r6.1)),(11,.lst 2 (List.map GNeed.lv l10)),(12,.I n11),(21,.I r19.2.2),(22,.lst 4 (List.map Gq3.lv r20)),(23,.arr 240 (List.length l22)),(24,.I n21)]) (ml:=[(7,.box [.L l17,.I n18]),(240,.arr 60 2 (List.map GNeed.lv l22))]) R R R R) (LH.seq (LH.block ?_))))
    obtain ⟨x24,hx24,h⟩:=bindS h
    obtain ⟨r25,hr25,h⟩:=bindS h
    refine LH.seqT [(1,.I r7),(5,.ptr 7 0),(6,.sptr [.I r2.1.Close,.I r2.1.Late]),(7,.lst 8 (List.map Gq5.lv l15)),(8,.lst 4 (List.map Gq1.lv r4.1)),(9,.lst 5 (List.map Gq6.lv l16)),(10,.lst 3 (List.map GRoom.lv r6.1)),(11,.lst 2 (List.map GNeed.lv l10)),(12,.I n11),(21,.I r19.2.2),(22,.lst 4 (List.map Gq3.lv r20)),(23,.arr 240 (List.length l22)),(24,.I n21),(25,.sptr [.I r25.1.Extra,.I r25.1.Needs]),(26,.I r25.2)] [(7,.box [.L l17,.I n18]),(240,.arr 60 2 (List.map GNeed.lv l22))] R ?_ ?_
    ·exact sMl R (sMl R (sMl R (sMi R (sN (oIx (f:=Gq3.lv) te47 tk58 ts58 R R Gq3.ok hx24 R (sN (oFaS tf58_0 tk42 ts42 R R R (sN (oFaS tf42_0 tk3 ts3 R R R (sN (oLd R tk3 ta3 (sMi R (sN (oCP (args:=[.lst 4 (List.map Gq1.lv r4.1),.lst 5 (List.map Gq6.lv l16),.I x24.Entry.Candidate,.I r7]) R isF16 R (sbR (sbR (sbR (sbR sbN)))) (q195q hr25) R (sMt R (sN (oEx R R (sN (oEx R R (sN (oAl (id:=125) R tz54 R R (s_ (oSt R R R tk54 ts54 R R R (sAi R (s0 ((Wk.trans (Wk.eq (el:=[(1,.I r7),(5,.ptr 7 0),(6,.sptr [.I r2.1.Close,.I r2.1.Late]),(7,.lst 8 (List.map Gq5.lv l15)),(8,.lst 4 (List.map Gq1.lv r4.1)),(9,.lst 5 (List.map Gq6.lv l16)),(10,.lst 3 (List.map GRoom.lv r6.1)),(11,.lst 2 (List.map GNeed.lv l10)),(12,.I n11),(21,.I r19.2.2),(22,.lst 4 (List.map Gq3.lv r20)),(23,.arr 240 (List.length l22)),(24,.I n21),(25,.ptr 125 0),(26,.I r25.2)]) (ml:=[(7,.box [.L l17,.I n18]),(125,.box [.I r25.1.Extra,.I r25.1.Needs]),(240,.arr 60 2 (List.map GNeed.lv l22))]) R R R R) (Wk.trans (Wk.frzB 125 [.I r25.1.Extra,.I r25.1.Needs] R R R (prN R)) (Wk.eq R R R R)))))))))))))))))))))))))))))
    refine LH.seq (LH.seqT [(1,.I r7),(5,.ptr 7 0),(6,.sptr [.I r2.1.Close,.I r2.1.Late]),(7,.lst 8 (List.map Gq5.lv l15)),(8,.lst 4 (List.map Gq1.lv r4.1)),(9,.lst 5 (List.map Gq6.lv l16)),(10,.lst 3 (List.map GRoom.lv r6.1)),(11,.lst 2 (List.map GNeed.lv l10)),(12,.I n11),(21,.I r19.2.2),(22,.lst 4 (List.map Gq3.lv r20)),(23,.arr 240 (List.length l22)),(24,.I n21),(25,.sptr [.I r25.1.Extra,.I r25.1.Needs]),(128,.bool (r25.2 != 0))] [(7,.box [.L l17,.I n18]),(240,.arr 60 2 (List.map GNeed.lv l22))] R (sMi R (sN (oNe R R zS))) (LH.cond (t:=(r25.2 != 0)) R (fun hc26=>?_) (fun hc26=>?_)))
    ·replace h:=iteT h hc26
     refine LH.seqT [(4,.bool false)] [] R (sAb R zS) (LH.ret (thenR (blockR (thenR (roundR (blockR (thenR (blockR (thenR (roundR (blockR (thenR ?_))))))))))))
     obtain rfl:=oI h
     exact retE (aT Tryz.results3) (lrT R (lr0 ⟨memN mN,R,prK R,Sub.rfl⟩))
    replace h:=iteF h hc26
    refine LH.skip (thenN ?_)
    obtain ⟨x27,hx27,h⟩:=bindS h
    obtain ⟨v28,hv28,h⟩:=bindS h
    refine LH.loneTM mixed [] [0,0,0,0,0,0,0,0,0,0,0,2,0] [(1,.I r7),(5,.ptr 7 0),(6,.sptr [.I r2.1.Close,.I r2.1.Late]),(7,.lst 8 (List.map Gq5.lv l15)),(8,.lst 4 (List.map Gq1.lv r4.1)),(9,.lst 5 (List.map Gq6.lv l16)),(10,.lst 3 (List.map GRoom.lv r6.1)),(11,.lst 2 (List.map GNeed.lv l10)),(12,.I n11),(21,.I r19.2.2),(22,.lst 4 (List.map Gq3.lv r20)),(23,.arr 240 (List.length v28)),(24,.I n21)] [(7,.box [.L l17,.I n18]),(240,.arr 60 2 (List.map GNeed.lv v28))] R R (by kernel_rfl) (mMa R (mMl R (mMi R (mN0 (oIx (f:=Gq3.lv) te47 tk58 ts58 R R Gq3.ok hx27 R ⟨R,mN0 (oFaS tf58_0 tk42 ts42 R R R ⟨R,mN0 (oFaS tf42_0 tk3 ts3 R R R ⟨R,mN0 (oLd R tk3 ta3 ⟨R,mN0 (oFaS tf54_1 tk3 ts3 R R R ⟨R,mN0 (oLd R tk3 ta3 ⟨R,mN0 (oBd (vs:=[(0,.I x27.Entry.Candidate),(1,.I r25.1.Needs)]) tu60 tz60 R (lf tf60_0 ts3 tk3 R R R (lf tf60_1 ts3 tk3 R R R lf0)) ⟨R,mN0 (oBS (f:=GNeed.lv) (ys:=[(GNeed.mk x27.Entry.Candidate r25.1.Needs)]) te37 tr60 ts60 R R R GNeed.ok ⟨R,mN2 (oAp (f:=GNeed.lv) te37 tr60 ts60 R R (prN R) R hv28 (mAa R zM))⟩)⟩)⟩)⟩)⟩)⟩)⟩)⟩))))) (blockN (thenN (LH.loneT [(1,.I r7),(5,.ptr 7 0),(6,.sptr [.I r2.1.Close,.I r2.1.Late]),(7,.lst 8 (List.map Gq5.lv l15)),(8,.lst 4 (List.map Gq1.lv r4.1)),(9,.lst 5 (List.map Gq6.lv l16)),(10,.lst 3 (List.map GRoom.lv r6.1)),(11,.lst 2 (List.map GNeed.lv l10)),(12,.I n11),(21,.I r19.2.2),(22,.lst 4 (List.map Gq3.lv r20)),(23,.arr 240 (List.length v28)),(24,.I (i64 (n21+1)))] [(7,.box [.L l17,.I n18]),(240,.arr 60 2 (List.map GNeed.lv v28))] R (sMi R (sN (oAdd R R (sAi R zS)))) ?_)))
    exact roundI ⟨(i64 (n21+1)),v28,hrec3 ▸ h,R,R⟩ (Wk.eq R R R R)
   replace h:=iteF h hc23
   refine LH.exit (thenX (roundX (blockH (thenN (LH.wk ((Wk.trans (Wk.eq (el:=[(1,.I r7),(5,.ptr 7 0),(6,.sptr [.I r2.1.Close,.I r2.1.Late]),(7,.lst 8 (List.map Gq5.lv l15)),(8,.lst 4 (List.map Gq1.lv r4.1)),(9,.lst 5 (List.map Gq6.lv l16)),(10,.lst 3 (List.map GRoom.lv r6.1)),(11,.lst 2 (List.map GNeed.lv l10)),(12,.I n11),(21,.I r19.2.2),(23,.arr 240 (List.length l22))]) (ml:=[(7,.box [.L l17,.I n18]),(240,.arr 60 2 (List.map GNeed.lv l22))]) R R R R) (Wk.trans (Wk.frzL (f:=GNeed.lv) (el':=[(1,.I r7),(5,.ptr 7 0),(6,.sptr [.I r2.1.Close,.I r2.1.Late]),(7,.lst 8 (List.map Gq5.lv l15)),(8,.lst 4 (List.map Gq1.lv r4.1)),(9,.lst 5 (List.map Gq6.lv l16)),(10,.lst 3 (List.map GRoom.lv r6.1)),(11,.lst 2 (List.map GNeed.lv l10)),(12,.I n11),(21,.I r19.2.2),(23,.lst 2 (List.map GNeed.lv l22))]) 240 60 2 l22 R R (prN R) (fK R (fK R (fK R (fK R (fK R (fK R (fK R (fK R (fK R (fK R (fZ fN)))))))))))) (Wk.eq (el:=[(1,.I r7),(5,.ptr 7 0),(6,.sptr [.I r2.1.Close,.I r2.1.Late]),(7,.lst 8 (List.map Gq5.lv l15)),(8,.lst 4 (List.map Gq1.lv r4.1)),(9,.lst 5 (List.map Gq6.lv l16)),(10,.lst 3 (List.map GRoom.lv r6.1)),(11,.lst 2 (List.map GNeed.lv l10)),(12,.I n11),(21,.I r19.2.2),(23,.lst 2 (List.map GNeed.lv l22))]) (ml:=[(7,.box [.L l17,.I n18])]) R R R R)))) (LH.seq (LH.seqT [(1,.I r7),(5,.ptr 7 0),(6,.sptr [.I r2.1.Close,.I r2.1.Late]),(7,.lst 8 (List.map Gq5.lv l15)),(8,.lst 4 (List.map Gq1.lv r4.1)),(9,.lst 5 (List.map Gq6.lv l16)),(10,.lst 3 (List.map GRoom.lv r6.1)),(11,.lst 2 (List.map GNeed.lv l10)),(12,.I n11),(23,.lst 2 (List.map GNeed.lv l22)),(153,.bool ((r19.2.2 != 0) || ((n11 == 1) && ((l22.length:Int) != (l10.length:Int)))))] [(7,.box [.L l17,.I n18])] R ?_ ?_)))))))
   ·refine sMi R (sN (oNe R R (sMb R ?_)))
    by_cases hb30:(r19.2.2 != 0)=true
    ·exact sF R R hb30 (sF R R hb30 (sF R R hb30 (sU R R (sU R R (sU R R (sU R R (sU R R (sF R R hb30 (sN (oPkT (cB hb30) (v:=(.bool _)) R (s0 (Wk.to (eC R (eC R (eC R (eC R (eC R (eC R (eC R (eC R (eC R (eC R (eC (cB (orT hb30)) eN))))))))))) ⟨R,trivial⟩ R (prK R)))))))))))))
    ·replace hb30:=bF hb30
     refine sT R (cB hb30) (oM (v:=(.int _ _)) R (sT R (cB hb30) (oEq R R (sT R (cB hb30) (oM (v:=(.bool _)) R ?_)))))
     by_cases hb31:(n11 == 1)=true
     ·exact sT R (cB hb31) (oM (v:=(.lst _ _)) R (sT R (cB hb31) (oLnL (f:=GNeed.lv) te37 R (sT R (cB hb31) (oM (v:=(.lst _ _)) R (sT R (cB hb31) (oLnL (f:=GNeed.lv) te37 R (sT R (cB hb31) (oNe R R (sT R (cB hb30) (oPkT (cB hb31) (v:=(.bool _)) R (sN (oPkF (cB hb30) (v:=(.bool _)) R (s0 (Wk.to (eC R (eC R (eC R (eC R (eC R (eC R (eC R (eC R (eC R (eC R (eC (cB (Eq.trans (andT hb31) (orF hb30))) eN))))))))))) ⟨R,trivial⟩ R (prK R))))))))))))))))
     ·replace hb31:=bF hb31
      exact sF R R hb31 (sF R R hb31 (sF R R hb31 (sF R R hb31 (sF R R hb31 (sT R (cB hb30) (oPkF (cB hb31) (v:=(.bool _)) R (sN (oPkF (cB hb30) (v:=(.bool _)) R (s0 (Wk.to (eC R (eC R (eC R (eC R (eC R (eC R (eC R (eC R (eC R (eC R (eC (cB (Eq.trans (andF hb31) (orF hb30))) eN))))))))))) ⟨R,trivial⟩ R (prK R)))))))))))
   refine LH.cond (t:=((r19.2.2 != 0) || ((n11 == 1) && ((l22.length:Int) != (l10.length:Int))))) R (fun hc32=>?_) (fun hc32=>?_)
   ·replace h:=iteT h hc32
    refine LH.seqT [(4,.bool false)] [] R (sAb R zS) (LH.ret (thenR (blockR (thenR (roundR (blockR (thenR ?_)))))))
    obtain rfl:=oI h
    exact retE (aT Tryz.results3) (lrT R (lr0 ⟨memN mN,R,prK R,Sub.rfl⟩))
   replace h:=iteF h hc32
   refine LH.skip (thenN (LH.wk (Wk.eq (el:=[(1,.I r7),(5,.ptr 7 0),(6,.sptr [.I r2.1.Close,.I r2.1.Late]),(7,.lst 8 (List.map Gq5.lv l15)),(8,.lst 4 (List.map Gq1.lv r4.1)),(9,.lst 5 (List.map Gq6.lv l16)),(10,.lst 3 (List.map GRoom.lv r6.1)),(11,.lst 2 (List.map GNeed.lv l10)),(12,.I n11),(23,.lst 2 (List.map GNeed.lv l22))]) (ml:=[(7,.box [.L l17,.I n18])]) R R R R) (LH.seq (LH.seqT [(1,.I r7),(5,.ptr 7 0),(6,.sptr [.I r2.1.Close,.I r2.1.Late]),(7,.lst 8 (List.map Gq5.lv l15)),(8,.lst 4 (List.map Gq1.lv r4.1)),(9,.lst 5 (List.map Gq6.lv l16)),(10,.lst 3 (List.map GRoom.lv r6.1)),(11,.lst 2 (List.map GNeed.lv l10)),(12,.I n11),(23,.lst 2 (List.map GNeed.lv l22)),(27,.I 0)] [(7,.box [.L l17,.I n18])] R (sAi R zS) (LH.block (LH.loop (fun n e m=>∃ (n33:Int),q116q rec1 l10 n11 l15 l16 l17 n18 l22 n n33=some r∧e=Env.of [(1,.I r7),(5,.ptr 7 0),(6,.sptr [.I r2.1.Close,.I r2.1.Late]),(7,.lst 8 (List.map Gq5.lv l15)),(8,.lst 4 (List.map Gq1.lv r4.1)),(9,.lst 5 (List.map Gq6.lv l16)),(10,.lst 3 (List.map GRoom.lv r6.1)),(11,.lst 2 (List.map GNeed.lv l10)),(12,.I n11),(23,.lst 2 (List.map GNeed.lv l22)),(27,.I n33)]∧m=Mem.of [(7,.box [.L l17,.I n18])]) F ⟨0,h,R,R⟩ ?_))))))
   clear h
   rintro n e m ⟨n33,h,rfl,rfl⟩
   rcases n with _ | n
   · cases (show Option.none=some _ from h)
   obtain ⟨rec4,hrec4⟩:∃ f,f=q116q rec1 l10 n11 l15 l16 l17 n18 l22 n:=⟨_,rfl⟩
   replace h:q75q rec1 l10 n11 l15 l16 l17 n18 l22 rec4 n33=some r:=hrec4 ▸ h
   unfold q75q at h
   refine LH.seq (LH.seqT [(1,.I r7),(5,.ptr 7 0),(6,.sptr [.I r2.1.Close,.I r2.1.Late]),(7,.lst 8 (List.map Gq5.lv l15)),(8,.lst 4 (List.map Gq1.lv r4.1)),(9,.lst 5 (List.map Gq6.lv l16)),(10,.lst 3 (List.map GRoom.lv r6.1)),(11,.lst 2 (List.map GNeed.lv l10)),(12,.I n11),(23,.lst 2 (List.map GNeed.lv l22)),(27,.I n33),(157,.bool (decide (n33<(l10.length:Int))))] [(7,.box [.L l17,.I n18])] R (sMi R (sMl R (sN (oLnL (f:=GNeed.lv) te37 R (sN (oLt R R zS)))))) (LH.cond (t:=(decide (n33<(l10.length:Int)))) R (fun hc34=>?_) (fun hc34=>?_)))
   ·replace h:=iteT h hc34
    refine LH.skip (thenN (LH.wk (Wk.eq (el:=[(1,.I r7),(5,.ptr 7 0),(6,.sptr [.I r2.1.Close,.I r2.1.Late]),(7,.lst 8 (List.map Gq5.lv l15)),(8,.lst 4 (List.map Gq1.lv r4.1)),(9,.lst 5 (List.map Gq6.lv l16)),(10,.lst 3 (List.map GRoom.lv r6.1)),(11,.lst 2 (List.map GNeed.lv l10)),(12,.I n11),(23,.lst 2 (List.map GNeed.lv l22)),(27,.I n33)]) (ml:=[(7,.box [.L l17,.I n18])]) R R R R) (LH.seq (LH.block ?_))))
    obtain ⟨x35,hx35,h⟩:=bindS h
    obtain ⟨x36,hx36,h⟩:=bindS h
    refine LH.seqJM mixed [] [0,0,0,0,0,0,0,0,0] [(1,.I r7),(5,.ptr 7 0),(6,.sptr [.I r2.1.Close,.I r2.1.Late]),(7,.lst 8 (List.map Gq5.lv l15)),(8,.lst 4 (List.map Gq1.lv r4.1)),(9,.lst 5 (List.map Gq6.lv l16)),(10,.lst 3 (List.map GRoom.lv r6.1)),(11,.lst 2 (List.map GNeed.lv l10)),(12,.I n11),(23,.lst 2 (List.map GNeed.lv l22)),(27,.I n33),(168,.bool (!(decide (x35=x36))))] [(7,.box [.L l17,.I n18])] R R (by kernel_rfl) (mMl R (mMi R (mN0 (oIx (f:=GNeed.lv) te37 tk60 ts60 R R GNeed.ok hx35 R ⟨R,mN0 (oLdA R tk60 ta60 ts60 R R ⟨R,mMl R (mMi R (mN0 (oIx (f:=GNeed.lv) te37 tk60 ts60 R R GNeed.ok hx36 R ⟨R,mN0 (oLdA R tk60 ta60 ts60 R R ⟨R,mN0 (oNeA R R (ae60 x35 x36) ⟨R,zM⟩)⟩)⟩)))⟩)⟩)))) (LH.cond (t:=(!(decide (x35=x36)))) R (fun hc37=>?_) (fun hc37=>?_))
    ·replace h:=iteT h hc37
     refine LH.seqT [(4,.bool false)] [] R (sAb R zS) (LH.ret (blockR (thenR (roundR (blockR (thenR (blockR (thenR (roundR (blockR (thenR ?_)))))))))))
     obtain rfl:=oI h
     exact retE (aT Tryz.results3) (lrT R (lr0 ⟨memN mN,R,prK R,Sub.rfl⟩))
    replace h:=iteF h hc37
    refine LH.skip (blockN (thenN (LH.loneT [(1,.I r7),(5,.ptr 7 0),(6,.sptr [.I r2.1.Close,.I r2.1.Late]),(7,.lst 8 (List.map Gq5.lv l15)),(8,.lst 4 (List.map Gq1.lv r4.1)),(9,.lst 5 (List.map Gq6.lv l16)),(10,.lst 3 (List.map GRoom.lv r6.1)),(11,.lst 2 (List.map GNeed.lv l10)),(12,.I n11),(23,.lst 2 (List.map GNeed.lv l22)),(27,.I (i64 (n33+1)))] [(7,.box [.L l17,.I n18])] R (sMi R (sN (oAdd R R (sAi R zS)))) ?_)))
    exact roundI ⟨(i64 (n33+1)),hrec4 ▸ h,R,R⟩ (Wk.eq R R R R)
   replace h:=iteF h hc34
   refine LH.exit (thenX (roundX (blockH (thenN (LH.loneT [(1,.I r7),(5,.ptr 7 0),(6,.sptr [.I r2.1.Close,.I r2.1.Late]),(7,.lst 8 (List.map Gq5.lv l15)),(8,.lst 4 (List.map Gq1.lv r4.1)),(9,.lst 5 (List.map Gq6.lv l16)),(10,.lst 3 (List.map GRoom.lv r6.1)),(11,.lst 2 (List.map GNeed.lv l22)),(12,.I n11)] [(7,.box [.L l17,.I n18])] R (sMl R (sAl R zS)) (blockN (thenN (LH.loneT [(1,.I r7),(5,.ptr 7 0),(6,.sptr [.I r2.1.Close,.I r2.1.Late]),(7,.lst 8 (List.map Gq5.lv l15)),(8,.lst 4 (List.map Gq1.lv r4.1)),(9,.lst 5 (List.map Gq6.lv l16)),(10,.lst 3 (List.map GRoom.lv r6.1)),(11,.lst 2 (List.map GNeed.lv l22)),(12,.I (i64 (n11+1)))] [(7,.box [.L l17,.I n18])] R (sMi R (sN (oAdd R R (sAi R zS)))) ?_))))))))
   exact roundI ⟨l15,l16,l22,(i64 (n11+1)),l17,n18,hrec1 ▸ h,R,R⟩ (Wk.eq R R R R)
  replace h:=iteF h hc14
  refine LH.exit (thenX (roundX (blockH (thenN ?_))))
  obtain ⟨r53,hr53,h⟩:=bindS h
  refine LH.seqT [(10,.lst 3 (List.map GRoom.lv r6.1)),(11,.lst 2 (List.map GNeed.lv l10)),(28,.lst 5 (List.map Gq8.lv r53.1)),(29,.L r53.2.1),(30,.I r53.2.2)] [] R (sMl R (sMl R (sN (oCP (args:=[.lst 3 (List.map GRoom.lv r6.1),.lst 2 (List.map GNeed.lv l10),.I 2]) R isF17 R (sbR (sbR (sbR sbN))) (q165q hr53) R (sMt R (sN (oEx R R (sN (oEx R R (sN (oEx R R (sAl R (sAl R (sAi R zS)))))))))))))) (LH.seq (LH.seqT [(10,.lst 3 (List.map GRoom.lv r6.1)),(11,.lst 2 (List.map GNeed.lv l10)),(28,.lst 5 (List.map Gq8.lv r53.1)),(29,.L r53.2.1),(30,.I r53.2.2),(178,.bool (r53.2.2 == 10))] [] R (sMi R (sN (oEq R R zS))) (LH.cond (t:=(r53.2.2 == 10)) R (fun hc54=>?_) (fun hc54=>?_))))
  ·replace h:=iteT h hc54
   obtain ⟨w56,hv,h⟩:=bindS h
   refine LH.seqT [(4,.bool w56)] [] R ?_ ?_
   ·refine sMl R (sMl R (sMl R ?_))
    obtain ⟨r57,hr57,hv⟩:=bindS hv
    refine sN (oCP (args:=[.lst 3 (List.map GRoom.lv r6.1),.lst 2 (List.map GNeed.lv l10),.L r53.2.1]) R isF18 R (sbR (sbR (sbR sbN))) (q191q hr57) R (sMb R ?_))
    by_cases hb58:r57=true
    ·replace hv:=iteT hv hb58
     refine sT R (cB hb58) (oM (v:=(.lst _ _)) R (sT R (cB hb58) (oLnL (f:=LV.I) te22 R (sT R (cB hb58) (oGt R R (sN (oPkT (cB hb58) (v:=(.bool _)) R (sMb R ?_))))))))
     by_cases hb59:(decide ((r53.2.1.length:Int) > 0))=true
     ·replace hv:=iteT hv hb59
      obtain ⟨r60,hr60,hv⟩:=bindS hv
      refine sT R (cB hb59) (oCP (args:=[]) R isF19 R sbN (q172q hr60) R (sN (oPkT (cB hb59) (v:=(.bool _)) R (sAb R ?_))))
      obtain rfl:=oI hv
      exact zS
     ·replace hb59:=bF hb59
      replace hv:=iteF hv hb59
      refine sF R R hb59 (sN (oPkF (cB hb59) (v:=(.bool _)) R (sAb R ?_)))
      obtain rfl:=oI hv
      exact zS
    ·replace hb58:=bF hb58
     replace hv:=iteF hv hb58
     refine sF R R hb58 (sF R R hb58 (sF R R hb58 (sN (oPkF (cB hb58) (v:=(.bool _)) R (sMb R (sF R R R (sN (oPkF R (v:=(.bool _)) R (sAb R ?_)))))))))
     obtain rfl:=oI hv
     exact zS
   clear hv
   refine LH.ret (thenR ?_)
   obtain rfl:=oI h
   exact retE (aT Tryz.results3) (lrT R (lr0 ⟨memN mN,R,prK R,Sub.rfl⟩))
  replace h:=iteF h hc54
  refine LH.skip (thenN (LH.wk (Wk.eq (el:=[(10,.lst 3 (List.map GRoom.lv r6.1)),(11,.lst 2 (List.map GNeed.lv l10)),(28,.lst 5 (List.map Gq8.lv r53.1)),(30,.I r53.2.2)]) (ml:=[]) R R R R) (LH.seq (LH.seqT [(10,.lst 3 (List.map GRoom.lv r6.1)),(11,.lst 2 (List.map GNeed.lv l10)),(28,.lst 5 (List.map Gq8.lv r53.1)),(199,.bool ((r53.2.2 != 0) || ((r53.1.length:Int) != (l10.length:Int))))] [] R ?_ ?_))))
  ·refine sMi R (sN (oNe R R (sMb R ?_)))
   by_cases hb62:(r53.2.2 != 0)=true
   ·exact sF R R hb62 (sF R R hb62 (sF R R hb62 (sF R R hb62 (sF R R hb62 (sN (oPkT (cB hb62) (v:=(.bool _)) R (s0 (Wk.to (eC R (eC R (eC R (eC (cB (orT hb62)) eN)))) mN R (prK R)))))))))
   ·replace hb62:=bF hb62
    exact sT R (cB hb62) (oM (v:=(.lst _ _)) R (sT R (cB hb62) (oLnL (f:=Gq8.lv) te61 R (sT R (cB hb62) (oM (v:=(.lst _ _)) R (sT R (cB hb62) (oLnL (f:=GNeed.lv) te37 R (sT R (cB hb62) (oNe R R (sN (oPkF (cB hb62) (v:=(.bool _)) R (s0 (Wk.to (eC R (eC R (eC R (eC (cB (orF hb62)) eN)))) mN R (prK R))))))))))))))
  refine LH.cond (t:=((r53.2.2 != 0) || ((r53.1.length:Int) != (l10.length:Int)))) R (fun hc63=>?_) (fun hc63=>?_)
  ·replace h:=iteT h hc63
   refine LH.seqT [(4,.bool false)] [] R (sAb R zS) (LH.ret (thenR ?_))
   obtain rfl:=oI h
   exact retE (aT Tryz.results3) (lrT R (lr0 ⟨memN mN,R,prK R,Sub.rfl⟩))
  replace h:=iteF h hc63
  refine LH.skip (thenN (LH.wk (Wk.eq (el:=[(10,.lst 3 (List.map GRoom.lv r6.1)),(11,.lst 2 (List.map GNeed.lv l10)),(28,.lst 5 (List.map Gq8.lv r53.1))]) (ml:=[]) R R R R) (LH.seq (LH.seqT [(10,.lst 3 (List.map GRoom.lv r6.1)),(11,.lst 2 (List.map GNeed.lv l10)),(28,.lst 5 (List.map Gq8.lv r53.1)),(31,.I 0)] [] R (sAi R zS) (LH.block (LH.loop (fun n e m=>∃ (n64:Int),q62q F r6 l10 r53 n n64=some r∧e=Env.of [(10,.lst 3 (List.map GRoom.lv r6.1)),(11,.lst 2 (List.map GNeed.lv l10)),(28,.lst 5 (List.map Gq8.lv r53.1)),(31,.I n64)]∧m=Mem.of []) F ⟨0,h,R,R⟩ ?_))))))
  clear h
  rintro n e m ⟨n64,h,rfl,rfl⟩
  rcases n with _ | n
  · cases (show Option.none=some _ from h)
  obtain ⟨rec7,hrec7⟩:∃ f,f=q62q F r6 l10 r53 n:=⟨_,rfl⟩
  replace h:q78q F r6 l10 r53 rec7 n64=some r:=hrec7 ▸ h
  unfold q78q at h
  refine LH.seq (LH.seqT [(10,.lst 3 (List.map GRoom.lv r6.1)),(11,.lst 2 (List.map GNeed.lv l10)),(28,.lst 5 (List.map Gq8.lv r53.1)),(31,.I n64),(203,.bool (decide (n64<(r53.1.length:Int))))] [] R (sMi R (sMl R (sN (oLnL (f:=Gq8.lv) te61 R (sN (oLt R R zS)))))) (LH.cond (t:=(decide (n64<(r53.1.length:Int)))) R (fun hc65=>?_) (fun hc65=>?_)))
  ·replace h:=iteT h hc65
   refine LH.skip (thenN (LH.wk (Wk.eq (el:=[(10,.lst 3 (List.map GRoom.lv r6.1)),(11,.lst 2 (List.map GNeed.lv l10)),(28,.lst 5 (List.map Gq8.lv r53.1)),(31,.I n64)]) (ml:=[]) R R R R) (LH.seq (LH.block ?_))))
   obtain ⟨x66,hx66,h⟩:=bindS h
   refine LH.seqT [(10,.lst 3 (List.map GRoom.lv r6.1)),(11,.lst 2 (List.map GNeed.lv l10)),(28,.lst 5 (List.map Gq8.lv r53.1)),(31,.I n64),(32,.sptr (Gq8.lv x66).cells)] [] R (sMl R (sMi R (sN (oIx (f:=Gq8.lv) te61 tk69 ts69 R R Gq8.ok hx66 R (sN (oLdA R tk69 ta69 ts69 R R (sN (oAl (id:=132) R tz69 R R (s_ (oSt R R R tk69 ts69 R R R (s0 ((Wk.trans (Wk.eq (el:=[(10,.lst 3 (List.map GRoom.lv r6.1)),(11,.lst 2 (List.map GNeed.lv l10)),(28,.lst 5 (List.map Gq8.lv r53.1)),(31,.I n64),(32,.ptr 132 0)]) (ml:=[(132,.box (Gq8.lv x66).cells)]) R R R R) (Wk.trans (Wk.frzB 132 (Gq8.lv x66).cells R R R (prN R)) (Wk.eq R R R R))))))))))))))) (LH.seq ?_)
   obtain ⟨w68,hv,h⟩:=bindS h
   refine LH.seqJM mixed [] [0,0,0,0,0,0,0,0,0,0,0,0,0,0,0,0,0,0,0,0,0,0,0,0,0,0,0,0,0,0,0,0,0,0,0,0] [(10,.lst 3 (List.map GRoom.lv r6.1)),(11,.lst 2 (List.map GNeed.lv l10)),(28,.lst 5 (List.map Gq8.lv r53.1)),(31,.I n64),(32,.sptr (Gq8.lv x66).cells),(245,.bool w68)] [] R R (by kernel_rfl) ?_ ?_
   ·refine mN0 (oFaS tf69_0 tk3 ts3 R R R ⟨R,mN0 (oLd R tk3 ta3 ⟨R,mMl R (mMi R ?_)⟩)⟩)
    obtain ⟨x69,hx69,hv⟩:=bindS hv
    refine mN0 (oIx (f:=GNeed.lv) te37 tk60 ts60 R R GNeed.ok hx69 R ⟨R,mN0 (oFaS tf60_0 tk3 ts3 R R R ⟨R,mN0 (oLd R tk3 ta3 ⟨R,mN0 (oNe R R ⟨R,mMb R ?_⟩)⟩)⟩)⟩)
    by_cases hb70:(x66.Candidate != x69.Candidate)=true
    ·replace hv:=iteT hv hb70
     refine mF R R hb70 (mF R R hb70 (mF R R hb70 (mF R R hb70 (mN0 (oPkT (cB hb70) (v:=(.bool _)) R ⟨R,mMb R (mF R R R (mF R R R (mF R R R (mF R R R (mF R R R (mF R R R (mN0 (oPkT R (v:=(.bool _)) R ⟨R,mMb R (mF R R R (mF R R R (mF R R R (mF R R R (mF R R R (mF R R R (mF R R R (mF R R R (mF R R R (mF R R R (mF R R R (mF R R R (mN0 (oPkT R (v:=(.bool _)) R ⟨R,?_⟩))))))))))))))⟩))))))))⟩)))))
     obtain rfl:=oI hv
     exact zM
    ·replace hb70:=bF hb70
     replace hv:=iteF hv hb70
     refine mT R (cB hb70) (mN0 (oFaS tf69_1 tk67 ts67 R R R ⟨R,mT R (cB hb70) (mN0 (oFaS tf67_0 tk3 ts3 R R R ⟨R,mT R (cB hb70) (mN0 (oLd R tk3 ta3 ⟨R,mT R (cB hb70) (mN0 (oLt R R ⟨R,mN0 (oPkF (cB hb70) (v:=(.bool _)) R ⟨R,mMb R ?_⟩)⟩))⟩))⟩))⟩))
     by_cases hb71:(decide (x66.Seat.Room<0))=true
     ·replace hv:=iteT hv hb71
      refine mF R R hb71 (mF R R hb71 (mF R R hb71 (mF R R hb71 (mF R R hb71 (mF R R hb71 (mN0 (oPkT (cB hb71) (v:=(.bool _)) R ⟨R,mMb R (mF R R R (mF R R R (mF R R R (mF R R R (mF R R R (mF R R R (mF R R R (mF R R R (mF R R R (mF R R R (mF R R R (mF R R R (mN0 (oPkT R (v:=(.bool _)) R ⟨R,?_⟩))))))))))))))⟩)))))))
      obtain rfl:=oI hv
      exact zM
     ·replace hb71:=bF hb71
      replace hv:=iteF hv hb71
      refine mT R (cB hb71) (mN0 (oFaS tf69_1 tk67 ts67 R R R ⟨R,mT R (cB hb71) (mN0 (oFaS tf67_0 tk3 ts3 R R R ⟨R,mT R (cB hb71) (mN0 (oLd R tk3 ta3 ⟨R,mT R (cB hb71) (mMl R (mT R (cB hb71) (mN0 (oLnL (f:=GRoom.lv) te34 R ⟨R,mT R (cB hb71) (mN0 (oGe R R ⟨R,mN0 (oPkF (cB hb71) (v:=(.bool _)) R ⟨R,mMb R ?_⟩)⟩))⟩))))⟩))⟩))⟩))
      by_cases hb72:(decide (x66.Seat.Room ≥ (r6.1.length:Int)))=true
      ·replace hv:=iteT hv hb72
       refine mF R R hb72 (mF R R hb72 (mF R R hb72 (mF R R hb72 (mF R R hb72 (mF R R hb72 (mF R R hb72 (mF R R hb72 (mF R R hb72 (mF R R hb72 (mF R R hb72 (mF R R hb72 (mN0 (oPkT (cB hb72) (v:=(.bool _)) R ⟨R,?_⟩)))))))))))))
       obtain rfl:=oI hv
       exact zM
      ·replace hb72:=bF hb72
       replace hv:=iteF hv hb72
       refine mT R (cB hb72) (mMl R (mT R (cB hb72) (mN0 (oFaS tf69_1 tk67 ts67 R R R ⟨R,mT R (cB hb72) (mN0 (oFaS tf67_0 tk3 ts3 R R R ⟨R,mT R (cB hb72) (mN0 (oLd R tk3 ta3 ⟨R,?_⟩))⟩))⟩))))
       obtain ⟨x73,hx73,hv⟩:=bindS hv
       refine mT R (cB hb72) (mN0 (oIx (f:=GRoom.lv) te34 tk72 ts72 R R GRoom.ok hx73 R ⟨R,mT R (cB hb72) (mN0 (oLdA R tk72 ta72 ts72 R R ⟨R,mT R (cB hb72) (mMl R (mT R (cB hb72) (mMi R ?_)))⟩))⟩))
       obtain ⟨x74,hx74,hv⟩:=bindS hv
       refine mT R (cB hb72) (mN0 (oIx (f:=GNeed.lv) te37 tk60 ts60 R R GNeed.ok hx74 R ⟨R,mT R (cB hb72) (mN0 (oLdA R tk60 ta60 ts60 R R ⟨R,?_⟩))⟩))
       obtain ⟨r75,hr75,hv⟩:=bindS hv
       refine mT R (cB hb72) (mN0 (oCP (args:=[.agg [.I x73.Rows,.I x73.Cols,.I x73.Offers],.agg [.I x74.Candidate,.I x74.Needs]]) R isF20 R (sbR (sbR sbN)) (q133q hr75) R ⟨R,mT R (cB hb72) (mN0 (oNot R ⟨R,mN0 (oPkF (cB hb72) (v:=(.bool _)) R ⟨R,?_⟩)⟩))⟩))
       obtain rfl:=oI hv
       exact zM
   clear hv
   refine LH.cond (t:=w68) R (fun hc76=>?_) (fun hc76=>?_)
   ·replace h:=iteT h hc76
    refine LH.seqT [(4,.bool false)] [] R (sAb R zS) (LH.ret (thenR (blockR (thenR (roundR (blockR (thenR ?_)))))))
    obtain rfl:=oI h
    exact retE (aT Tryz.results3) (lrT R (lr0 ⟨memN mN,R,prK R,Sub.rfl⟩))
   replace h:=iteF h hc76
   refine LH.skip (thenN (LH.seqT [(10,.lst 3 (List.map GRoom.lv r6.1)),(11,.lst 2 (List.map GNeed.lv l10)),(28,.lst 5 (List.map Gq8.lv r53.1)),(31,.I n64),(32,.sptr (Gq8.lv x66).cells),(33,.I 0)] [] R (sAi R zS) (LH.block (LH.loop (fun n e m=>∃ (n77:Int),q119q rec7 r53 n64 x66 n n77=some r∧e=Env.of [(10,.lst 3 (List.map GRoom.lv r6.1)),(11,.lst 2 (List.map GNeed.lv l10)),(28,.lst 5 (List.map Gq8.lv r53.1)),(31,.I n64),(32,.sptr (Gq8.lv x66).cells),(33,.I n77)]∧m=Mem.of []) F ⟨0,h,R,R⟩ ?_))))
   clear h
   rintro n e m ⟨n77,h,rfl,rfl⟩
   rcases n with _ | n
   · cases (show Option.none=some _ from h)
   obtain ⟨rec8,hrec8⟩:∃ f,f=q119q rec7 r53 n64 x66 n:=⟨_,rfl⟩
   replace h:q79q rec7 r53 n64 x66 rec8 n77=some r:=hrec8 ▸ h
   unfold q79q at h
   refine LH.seq (LH.seqT [(10,.lst 3 (List.map GRoom.lv r6.1)),(11,.lst 2 (List.map GNeed.lv l10)),(28,.lst 5 (List.map Gq8.lv r53.1)),(31,.I n64),(32,.sptr (Gq8.lv x66).cells),(33,.I n77),(248,.bool (decide (n77<n64)))] [] R (sMi R (sMi R (sN (oLt R R zS)))) (LH.cond (t:=(decide (n77<n64))) R (fun hc78=>?_) (fun hc78=>?_)))
   ·replace h:=iteT h hc78
    refine LH.skip (thenN (LH.wk (Wk.eq (el:=[(10,.lst 3 (List.map GRoom.lv r6.1)),(11,.lst 2 (List.map GNeed.lv l10)),(28,.lst 5 (List.map Gq8.lv r53.1)),(31,.I n64),(32,.sptr (Gq8.lv x66).cells),(33,.I n77)]) (ml:=[]) R R R R) (LH.seq (LH.block ?_))))
    obtain ⟨x79,hx79,h⟩:=bindS h
    refine LH.seqT [(10,.lst 3 (List.map GRoom.lv r6.1)),(11,.lst 2 (List.map GNeed.lv l10)),(28,.lst 5 (List.map Gq8.lv r53.1)),(31,.I n64),(32,.sptr (Gq8.lv x66).cells),(33,.I n77),(34,.sptr [.I x79.Seat.Room,.I x79.Seat.Row,.I x79.Seat.Col])] [] R (sMl R (sMi R (sN (oIx (f:=Gq8.lv) te61 tk69 ts69 R R Gq8.ok hx79 R (sN (oFaS tf69_1 tk67 ts67 R R R (sN (oLdA R tk67 ta67 ts67 R R (sN (oAl (id:=134) R tz67 R R (s_ (oSt R R R tk67 ts67 R R R (s0 ((Wk.trans (Wk.eq (el:=[(10,.lst 3 (List.map GRoom.lv r6.1)),(11,.lst 2 (List.map GNeed.lv l10)),(28,.lst 5 (List.map Gq8.lv r53.1)),(31,.I n64),(32,.sptr (Gq8.lv x66).cells),(33,.I n77),(34,.ptr 134 0)]) (ml:=[(134,.box [.I x79.Seat.Room,.I x79.Seat.Row,.I x79.Seat.Col])]) R R R R) (Wk.trans (Wk.frzB 134 [.I x79.Seat.Room,.I x79.Seat.Row,.I x79.Seat.Col] R R R (prN R)) (Wk.eq R R R R))))))))))))))))) (LH.seqJM mixed [] [0,0,0,0,0,4,0,0,0,0,0,4,0,0,0,0,0,0,4,0,0,0,0,0,4,0,0,0] [(10,.lst 3 (List.map GRoom.lv r6.1)),(11,.lst 2 (List.map GNeed.lv l10)),(28,.lst 5 (List.map Gq8.lv r53.1)),(31,.I n64),(32,.sptr (Gq8.lv x66).cells),(33,.I n77),(34,.sptr [.I x79.Seat.Room,.I x79.Seat.Row,.I x79.Seat.Col]),(35,.I (i64 ((max x66.Seat.Row x79.Seat.Row) - (min x66.Seat.Row x79.Seat.Row)))),(36,.I (i64 ((max x66.Seat.Col x79.Seat.Col) - (min x66.Seat.Col x79.Seat.Col))))] [] R R (by kernel_rfl) ?_ ?_)
    ·exact mN0 (oFaS tf69_1 tk67 ts67 R R R ⟨R,mN0 (oFaS tf67_1 tk3 ts3 R R R ⟨R,mN0 (oLd R tk3 ta3 ⟨R,mN0 (oFaS tf67_1 tk3 ts3 R R R ⟨R,mN0 (oLd R tk3 ta3 ⟨R,mM (fun _=>ok_max R R) (mN0 (oFaS tf69_1 tk67 ts67 R R R ⟨R,mN0 (oFaS tf67_1 tk3 ts3 R R R ⟨R,mN0 (oLd R tk3 ta3 ⟨R,mN0 (oFaS tf67_1 tk3 ts3 R R R ⟨R,mN0 (oLd R tk3 ta3 ⟨R,mM (fun _=>ok_min R R) (mN0 (oSub R R ⟨R,mN0 (oFaS tf69_1 tk67 ts67 R R R ⟨R,mN0 (oFaS tf67_2 tk3 ts3 R R R ⟨R,mN0 (oLd R tk3 ta3 ⟨R,mN0 (oFaS tf67_2 tk3 ts3 R R R ⟨R,mN0 (oLd R tk3 ta3 ⟨R,mM (fun _=>ok_max R R) (mN0 (oFaS tf69_1 tk67 ts67 R R R ⟨R,mN0 (oFaS tf67_2 tk3 ts3 R R R ⟨R,mN0 (oLd R tk3 ta3 ⟨R,mN0 (oFaS tf67_2 tk3 ts3 R R R ⟨R,mN0 (oLd R tk3 ta3 ⟨R,mM (fun _=>ok_min R R) (mN0 (oSub R R ⟨R,mAi R (mAi R zM)⟩))⟩)⟩)⟩)⟩)⟩))⟩)⟩)⟩)⟩)⟩)⟩))⟩)⟩)⟩)⟩)⟩))⟩)⟩)⟩)⟩)⟩)
    obtain ⟨w81,hv,h⟩:=bindS h
    refine LH.seqJM mixed [] [0,0,0,0,0,0,0,0,0,0,0,0,0,0,0,0,0,0,0,0,0,0,0,0,0,0,0,0] [(10,.lst 3 (List.map GRoom.lv r6.1)),(11,.lst 2 (List.map GNeed.lv l10)),(28,.lst 5 (List.map Gq8.lv r53.1)),(31,.I n64),(32,.sptr (Gq8.lv x66).cells),(33,.I n77),(309,.bool w81)] [] R R (by kernel_rfl) ?_ ?_
    ·refine mN0 (oFaS tf69_1 tk67 ts67 R R R ⟨R,mN0 (oFaS tf67_0 tk3 ts3 R R R ⟨R,mN0 (oLd R tk3 ta3 ⟨R,mN0 (oFaS tf67_0 tk3 ts3 R R R ⟨R,mN0 (oLd R tk3 ta3 ⟨R,mN0 (oEq R R ⟨R,mMb R ?_⟩)⟩)⟩)⟩)⟩)⟩)
     by_cases hb82:(x66.Seat.Room == x79.Seat.Room)=true
     ·replace hv:=iteT hv hb82
      refine mT R (cB hb82) (mMi R (mT R (cB hb82) (mMi R (mT R (cB hb82) (mN0 (oAdd R R ⟨R,mT R (cB hb82) (mN0 (oEq R R ⟨R,mT R (cB hb82) (mMb R ?_)⟩))⟩))))))
      by_cases hb83:((i64 ((i64 ((max x66.Seat.Row x79.Seat.Row) - (min x66.Seat.Row x79.Seat.Row)))+(i64 ((max x66.Seat.Col x79.Seat.Col) - (min x66.Seat.Col x79.Seat.Col))))) == 0)=true
      ·replace hv:=iteT hv hb83
       refine mF R R hb83 (mF R R hb83 (mF R R hb83 (mF R R hb83 (mF R R hb83 (mU R R (mU R R (mU R R (mU R R (mU R R (mU R R (mU R R (mU R R (mF R R hb83 (mT R (cB hb82) (mN0 (oPkT (cB hb83) (v:=(.bool _)) R ⟨R,mN0 (oPkT (cB hb82) (v:=(.bool _)) R ⟨R,?_⟩)⟩))))))))))))))))
       obtain rfl:=oI hv
       exact zM
      ·replace hb83:=bF hb83
       replace hv:=iteF hv hb83
       refine mT R (cB hb83) (mMi R (mT R (cB hb83) (mMi R (mT R (cB hb83) (mN0 (oAdd R R ⟨R,mT R (cB hb83) (mN0 (oEq R R ⟨R,mT R (cB hb83) (mMb R ?_)⟩))⟩))))))
       by_cases hb84:((i64 ((i64 ((max x66.Seat.Row x79.Seat.Row) - (min x66.Seat.Row x79.Seat.Row)))+(i64 ((max x66.Seat.Col x79.Seat.Col) - (min x66.Seat.Col x79.Seat.Col))))) == 1)=true
       ·replace hv:=iteT hv hb84
        refine mT R (cB hb84) (mN0 (oFaS tf69_2 tk3 ts3 R R R ⟨R,mT R (cB hb84) (mN0 (oLd R tk3 ta3 ⟨R,mT R (cB hb84) (mMl R (mT R (cB hb84) (mMi R ?_)))⟩))⟩))
        obtain ⟨x85,hx85,hv⟩:=bindS hv
        refine mT R (cB hb84) (mN0 (oIx (f:=Gq8.lv) te61 tk69 ts69 R R Gq8.ok hx85 R ⟨R,mT R (cB hb84) (mN0 (oFaS tf69_2 tk3 ts3 R R R ⟨R,mT R (cB hb84) (mN0 (oLd R tk3 ta3 ⟨R,mT R (cB hb84) (mN0 (oEq R R ⟨R,mT R (cB hb83) (mN0 (oPkT (cB hb84) (v:=(.bool _)) R ⟨R,mT R (cB hb82) (mN0 (oPkF (cB hb83) (v:=(.bool _)) R ⟨R,mN0 (oPkT (cB hb82) (v:=(.bool _)) R ⟨R,?_⟩)⟩))⟩))⟩))⟩))⟩))⟩))
        obtain rfl:=oI hv
        exact zM
       ·replace hb84:=bF hb84
        replace hv:=iteF hv hb84
        refine mF R R hb84 (mF R R hb84 (mF R R hb84 (mF R R hb84 (mF R R hb84 (mF R R hb84 (mF R R hb84 (mF R R hb84 (mT R (cB hb83) (mN0 (oPkF (cB hb84) (v:=(.bool _)) R ⟨R,mT R (cB hb82) (mN0 (oPkF (cB hb83) (v:=(.bool _)) R ⟨R,mN0 (oPkT (cB hb82) (v:=(.bool _)) R ⟨R,?_⟩)⟩))⟩))))))))))
        obtain rfl:=oI hv
        exact zM
     ·replace hb82:=bF hb82
      replace hv:=iteF hv hb82
      refine mF R R hb82 (mF R R hb82 (mF R R hb82 (mF R R hb82 (mF R R hb82 (mU R R (mU R R (mU R R (mU R R (mU R R (mU R R (mU R R (mU R R (mU R R (mU R R (mU R R (mU R R (mU R R (mU R R (mF R R hb82 (mN0 (oPkF (cB hb82) (v:=(.bool _)) R ⟨R,?_⟩)))))))))))))))))))))
      obtain rfl:=oI hv
      exact zM
    clear hv
    refine LH.cond (t:=w81) R (fun hc86=>?_) (fun hc86=>?_)
    ·replace h:=iteT h hc86
     refine LH.seqT [(4,.bool false)] [] R (sAb R zS) (LH.ret (blockR (thenR (roundR (blockR (blockR (thenR (roundR (blockR (thenR ?_))))))))))
     obtain rfl:=oI h
     exact retE (aT Tryz.results3) (lrT R (lr0 ⟨memN mN,R,prK R,Sub.rfl⟩))
    replace h:=iteF h hc86
    refine LH.skip (blockN (thenN (LH.loneT [(10,.lst 3 (List.map GRoom.lv r6.1)),(11,.lst 2 (List.map GNeed.lv l10)),(28,.lst 5 (List.map Gq8.lv r53.1)),(31,.I n64),(32,.sptr (Gq8.lv x66).cells),(33,.I (i64 (n77+1)))] [] R (sMi R (sN (oAdd R R (sAi R zS)))) ?_)))
    exact roundI ⟨(i64 (n77+1)),hrec8 ▸ h,R,R⟩ (Wk.eq R R R R)
   replace h:=iteF h hc78
   refine LH.exit (thenX (roundX (blockH (blockN (thenN (LH.loneT [(10,.lst 3 (List.map GRoom.lv r6.1)),(11,.lst 2 (List.map GNeed.lv l10)),(28,.lst 5 (List.map Gq8.lv r53.1)),(31,.I (i64 (n64+1)))] [] R (sMi R (sN (oAdd R R (sAi R zS)))) ?_))))))
   exact roundI ⟨(i64 (n64+1)),hrec7 ▸ h,R,R⟩ (Wk.eq R R R R)
  replace h:=iteF h hc65
  refine LH.exit (thenX (roundX (blockH (thenN ?_))))
  obtain ⟨r87,hr87,h⟩:=bindS h
  refine LH.seqT [(4,.bool r87)] [] R (sN (oCP (args:=[]) R isF19 R sbN (q172q hr87) R (sAb R zS))) (LH.ret ?_)
  obtain rfl:=oI h
  exact retE (aT Tryz.results3) (lrT R (lr0 ⟨memN mN,R,prK R,Sub.rfl⟩))

end Go.Proofs.YtiinmaihgmfniaaGreat
