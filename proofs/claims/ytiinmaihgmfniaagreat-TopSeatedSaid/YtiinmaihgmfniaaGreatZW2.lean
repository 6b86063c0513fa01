import Derived.Test.YtiinmaihgmfniaaGreatZW1
set_option linter.unusedVariables false
set_option linter.unusedSimpArgs false
set_option maxRecDepth 100000
set_option maxHeartbeats 1000000
namespace Go.Proofs.YtiinmaihgmfniaaGreat
open Go.L Go.Sh
theorem q205q {F:Nat} {p0:List Gq3} {p1:Gq2} {p2:Gq5} {r:List Gq3 × Int} (h:q154q F p0 p1 p2=some r):LCall Tryz.prog 48 [.lst 4 (List.map Gq3.lv p0),.agg [.I p1.Close,.I p1.Late],Gq5.lv p2] (Mem.of []) (.tup [.lst 4 (List.map Gq3.lv r.1),.I r.2]) (Mem.of []):=by
  unfold q154q at h
  refine bodyT Tryz.func48 R (nT Tryz.ntmps48 R) (LH.wk (Wk.eq (el:=[(0,.lst 4 (List.map Gq3.lv p0)),(1,.agg [.I p1.Close,.I p1.Late]),(2,Gq5.lv p2)]) (ml:=[]) R R R R) (LH.seqT [(0,.lst 4 (List.map Gq3.lv p0)),(4,.sptr [.I p1.Close,.I p1.Late]),(5,.sptr (Gq5.lv p2).cells)] [] R (sB (oBxR R R R R (sB (oBxR R R R R (sAn R (sAi R zS)))))) (LH.seq ?_)))
  obtain ⟨r1,hr1,h⟩:=bindS h
  refine LH.seqT [(0,.lst 4 (List.map Gq3.lv p0)),(4,.sptr [.I p1.Close,.I p1.Late]),(5,.sptr (Gq5.lv p2).cells),(14,.bool (!r1))] [] R (sN (oLdA R tk44 ta44 ts44 R R (sN (oCP (args:=[Gq5.lv p2]) R isF93 R (sbR sbN) (q177q hr1) R (sN (oNot R zS)))))) (LH.cond (t:=(!r1)) R (fun hc2=>?_) (fun hc2=>?_))
  ·replace h:=iteT h hc2
   refine LH.seqT [(6,.nil),(7,.I 2)] [] R (sAn R (sAi R zS)) (LH.ret (thenR ?_))
   obtain rfl:=oI h
   exact retE (aT Tryz.results48) (lrT R (lrT R (lr0 ⟨memN mN,R,prK R,(Sub.tup (sbL (sbR sbN)))⟩)))
  replace h:=iteF h hc2
  refine LH.skip (thenN (LH.wk (Wk.eq (el:=[(0,.lst 4 (List.map Gq3.lv p0)),(4,.sptr [.I p1.Close,.I p1.Late]),(5,.sptr (Gq5.lv p2).cells)]) (ml:=[]) R R R R) (LH.seq (LH.seqT [(0,.lst 4 (List.map Gq3.lv p0)),(4,.sptr [.I p1.Close,.I p1.Late]),(5,.sptr (Gq5.lv p2).cells),(27,.bool ((p2.Stamp.Source != 0) && (p2.Stamp.Source != p2.Entry.Centre)))] [] R ?_ ?_))))
  ·refine sN (oFaS tf44_0 tk40 ts40 R R R (sN (oFaS tf40_1 tk3 ts3 R R R (sN (oLd R tk3 ta3 (sN (oNe R R (sMb R ?_))))))))
   by_cases hb4:(p2.Stamp.Source != 0)=true
   ·exact sT R (cB hb4) (oFaS tf44_0 tk40 ts40 R R R (sT R (cB hb4) (oFaS tf40_1 tk3 ts3 R R R (sT R (cB hb4) (oLd R tk3 ta3 (sT R (cB hb4) (oFaS tf44_2 tk42 ts42 R R R (sT R (cB hb4) (oFaS tf42_1 tk3 ts3 R R R (sT R (cB hb4) (oLd R tk3 ta3 (sT R (cB hb4) (oNe R R (sN (oPkT (cB hb4) (v:=(.bool _)) R (s0 (Wk.to (eC R (eC R (eC R (eC (cB (andT hb4)) eN)))) mN R (prK R))))))))))))))))))
   ·replace hb4:=bF hb4
    exact sF R R hb4 (sF R R hb4 (sF R R hb4 (sF R R hb4 (sF R R hb4 (sF R R hb4 (sF R R hb4 (sN (oPkF (cB hb4) (v:=(.bool _)) R (s0 (Wk.to (eC R (eC R (eC R (eC (cB (andF hb4)) eN)))) mN R (prK R)))))))))))
  refine LH.cond (t:=((p2.Stamp.Source != 0) && (p2.Stamp.Source != p2.Entry.Centre))) R (fun hc5=>?_) (fun hc5=>?_)
  ·replace h:=iteT h hc5
   refine LH.seqT [(6,.nil),(7,.I 28)] [] R (sAn R (sAi R zS)) (LH.ret (thenR ?_))
   obtain rfl:=oI h
   exact retE (aT Tryz.results48) (lrT R (lrT R (lr0 ⟨memN mN,R,prK R,(Sub.tup (sbL (sbR sbN)))⟩)))
  replace h:=iteF h hc5
  refine LH.skip (thenN (LH.wk (Wk.eq (el:=[(0,.lst 4 (List.map Gq3.lv p0)),(4,.sptr [.I p1.Close,.I p1.Late]),(5,.sptr (Gq5.lv p2).cells)]) (ml:=[]) R R R R) (LH.seq (LH.seqT [(0,.lst 4 (List.map Gq3.lv p0)),(4,.sptr [.I p1.Close,.I p1.Late]),(5,.sptr (Gq5.lv p2).cells),(33,.bool (decide (p2.Stamp.Time > p1.Late)))] [] R (sN (oFaS tf44_0 tk40 ts40 R R R (sN (oFaS tf40_0 tk3 ts3 R R R (sN (oLd R tk3 ta3 (sN (oFaS tf26_1 tk3 ts3 R R R (sN (oLd R tk3 ta3 (sN (oGt R R zS)))))))))))) (LH.cond (t:=(decide (p2.Stamp.Time > p1.Late))) R (fun hc6=>?_) (fun hc6=>?_))))))
  ·replace h:=iteT h hc6
   refine LH.seqT [(6,.nil),(7,.I 27)] [] R (sAn R (sAi R zS)) (LH.ret (thenR ?_))
   obtain rfl:=oI h
   exact retE (aT Tryz.results48) (lrT R (lrT R (lr0 ⟨memN mN,R,prK R,(Sub.tup (sbL (sbR sbN)))⟩)))
  replace h:=iteF h hc6
  refine LH.skip (thenN ?_)
  obtain ⟨r7,hr7,h⟩:=bindS h
  refine LH.seqT [(0,.lst 4 (List.map Gq3.lv p0)),(4,.sptr [.I p1.Close,.I p1.Late]),(5,.sptr (Gq5.lv p2).cells),(8,.I r7.1),(9,.bool r7.2)] [] R (sMl R (sN (oFaS tf44_2 tk42 ts42 R R R (sN (oLdA R tk42 ta42 ts42 R R (sN (oCP (args:=[.lst 4 (List.map Gq3.lv p0),.agg [.I p2.Entry.Candidate,.I p2.Entry.Centre,.I p2.Entry.Paper],.fn 95 []]) R isF94 R (sbR (sbR (sbR sbN))) (q89q (p2_f:=95) (p2_c:=[]) isF95 R (fun _ _ _ h=>q190q h) hr7) R (sMt R (sN (oEx R R (sN (oEx R R (sAi R (sAb R zS)))))))))))))) ?_
  obtain ⟨w9,hv,h⟩:=bindS h
  refine LH.seqJM mixed [] [0,0,0,0,0,0,0,0,0,0,0,0,0,0] [(0,.lst 4 (List.map Gq3.lv p0)),(4,.sptr [.I p1.Close,.I p1.Late]),(5,.sptr (Gq5.lv p2).cells),(8,.I r7.1),(9,.bool r7.2),(10,.bool w9)] [] R R (by kernel_rfl) ?_ ?_
  ·refine mMb R (mMb R ?_)
   by_cases hb10:r7.2=true
   ·replace hv:=iteT hv hb10
    refine mT R (cB hb10) (mMl R (mT R (cB hb10) (mMi R ?_)))
    obtain ⟨x11,hx11,hv⟩:=bindS hv
    refine mT R (cB hb10) (mN0 (oIx (f:=Gq3.lv) te47 tk58 ts58 R R Gq3.ok hx11 R ⟨R,mT R (cB hb10) (mN0 (oFaS tf58_0 tk42 ts42 R R R ⟨R,mT R (cB hb10) (mN0 (oFaS tf42_1 tk3 ts3 R R R ⟨R,mT R (cB hb10) (mN0 (oLd R tk3 ta3 ⟨R,mT R (cB hb10) (mN0 (oFaS tf44_2 tk42 ts42 R R R ⟨R,mT R (cB hb10) (mN0 (oFaS tf42_1 tk3 ts3 R R R ⟨R,mT R (cB hb10) (mN0 (oLd R tk3 ta3 ⟨R,mT R (cB hb10) (mN0 (oEq R R ⟨R,mN0 (oPkT (cB hb10) (v:=(.bool _)) R ⟨R,mAb R ?_⟩)⟩))⟩))⟩))⟩))⟩))⟩))⟩))⟩))
    obtain rfl:=oI hv
    exact zM
   ·replace hb10:=bF hb10
    replace hv:=iteF hv hb10
    refine mF R R hb10 (mF R R hb10 (mF R R hb10 (mF R R hb10 (mF R R hb10 (mF R R hb10 (mF R R hb10 (mF R R hb10 (mF R R hb10 (mF R R hb10 (mN0 (oPkF (cB hb10) (v:=(.bool _)) R ⟨R,mAb R ?_⟩)))))))))))
    obtain rfl:=oI hv
    exact zM
  clear hv
  obtain ⟨v12,hv12,h⟩:=bindS h
  refine LH.seqT [(0,.lst 4 (List.map Gq3.lv p0)),(4,.sptr [.I p1.Close,.I p1.Late]),(5,.sptr (Gq5.lv p2).cells),(8,.I r7.1),(9,.bool r7.2),(10,.bool w9),(11,.arr 155 (List.length v12))] [(155,.arr 58 4 (List.map Gq3.lv v12))] R (sMl R (sN (oCM (args:=[.lst 4 (List.map Gq3.lv p0)]) (ml:=[]) (ml':=[(155,.arr 58 4 (List.map Gq3.lv v12))]) R isF96 R (sbR sbN) (clone_ok (g:=Gq3.lv) cloneW96 R 155 hv12) mN (newF R newN) R (sAa R zS)))) (LH.seq (LH.seqT [(0,.lst 4 (List.map Gq3.lv p0)),(4,.sptr [.I p1.Close,.I p1.Late]),(5,.sptr (Gq5.lv p2).cells),(8,.I r7.1),(9,.bool r7.2),(10,.bool w9),(11,.arr 155 (List.length v12)),(58,.bool (p2.Kind == 1))] [(155,.arr 58 4 (List.map Gq3.lv v12))] R (sN (oFaS tf44_1 tk3 ts3 R R R (sN (oLd R tk3 ta3 (sN (oEq R R zS)))))) (LH.cond (t:=(p2.Kind == 1)) R (fun hc13=>?_) (fun hc13=>?_))))
  ·replace h:=iteT h hc13
   refine LH.seq (LH.block (LH.seqT [(0,.lst 4 (List.map Gq3.lv p0)),(4,.sptr [.I p1.Close,.I p1.Late]),(5,.sptr (Gq5.lv p2).cells),(8,.I r7.1),(9,.bool r7.2),(11,.arr 155 (List.length v12)),(59,.bool w9)] [(155,.arr 58 4 (List.map Gq3.lv v12))] R (sMb R (sAb R zS)) (LH.cond (t:=w9) R (fun hc14=>?_) (fun hc14=>?_))))
   ·replace h:=iteT h hc14
    refine LH.seqT [(6,.nil),(7,.I 5)] [] R (sAn R (sAi R zS)) (LH.ret (blockR (thenR (thenR ?_))))
    obtain rfl:=oI h
    exact retE (aT Tryz.results48) (lrT R (lrT R (lr0 ⟨memN mN,R,prK R,(Sub.tup (sbL (sbR sbN)))⟩)))
   replace h:=iteF h hc14
   refine LH.seqT [(0,.lst 4 (List.map Gq3.lv p0)),(4,.sptr [.I p1.Close,.I p1.Late]),(5,.sptr (Gq5.lv p2).cells),(8,.I r7.1),(11,.arr 155 (List.length v12)),(61,.bool r7.2)] [(155,.arr 58 4 (List.map Gq3.lv v12))] R (sMb R (sAb R zS)) (LH.cond (t:=r7.2) R (fun hc15=>?_) (fun hc15=>?_))
   ·replace h:=iteT h hc15
    refine LH.seqT [(6,.nil),(7,.I 9)] [] R (sAn R (sAi R zS)) (LH.ret (blockR (thenR (thenR ?_))))
    obtain rfl:=oI h
    exact retE (aT Tryz.results48) (lrT R (lrT R (lr0 ⟨memN mN,R,prK R,(Sub.tup (sbL (sbR sbN)))⟩)))
   replace h:=iteF h hc15
   refine LH.seqT [(4,.sptr [.I p1.Close,.I p1.Late]),(5,.sptr (Gq5.lv p2).cells),(8,.I r7.1),(11,.arr 155 (List.length v12)),(63,.bool (decide ((p0.length:Int) ≥ 300)))] [(155,.arr 58 4 (List.map Gq3.lv v12))] R (sMl R (sN (oLnL (f:=Gq3.lv) te47 R (sN (oGe R R (sAb R zS)))))) (LH.cond (t:=(decide ((p0.length:Int) ≥ 300))) R (fun hc16=>?_) (fun hc16=>?_))
   ·replace h:=iteT h hc16
    refine LH.seqT [(6,.nil),(7,.I 3)] [] R (sAn R (sAi R zS)) (LH.ret (blockR (thenR (thenR ?_))))
    obtain rfl:=oI h
    exact retE (aT Tryz.results48) (lrT R (lrT R (lr0 ⟨memN mN,R,prK R,(Sub.tup (sbL (sbR sbN)))⟩)))
   replace h:=iteF h hc16
   refine LH.skip (blockN (thenN ?_))
   obtain ⟨v17,hv17,h⟩:=bindS h
   refine LH.seqT [(6,.lst 4 (List.map Gq3.lv v17)),(7,.I 0)] [] R ?_ ?_
   ·exact sMa R (sMi R (sN (oFaS tf44_2 tk42 ts42 R R R (sN (oLdA R tk42 ta42 ts42 R R (sN (oFaS tf44_0 tk40 ts40 R R R (sN (oFaS tf40_0 tk3 ts3 R R R (sN (oLd R tk3 ta3 (sN (oFaS tf26_0 tk3 ts3 R R R (sN (oLd R tk3 ta3 (sN (oGt R R (sN (oBd (vs:=[(0,.agg [.I p2.Entry.Candidate,.I p2.Entry.Centre,.I p2.Entry.Paper]),(1,.bool (decide (p2.Stamp.Time > p1.Close)))]) tu58 tz58 R (lf tf58_0 ts42 tk42 R R R (lf tf58_1 ts4 tk4 R R R lf0)) (sX (ok_bsA (g:=Gq3.lv) (ys:=[(Gq3.mk p2.Entry (decide (p2.Stamp.Time > p1.Close)))]) (id:=178) te47 tr58 ts58 R R R Gq3.ok R) (SOps.wk (Wk.eq (el:=[(67,.arr 155 (List.length v12)),(68,.I r7.1),(78,.arr 178 (List.length [(Gq3.mk p2.Entry (decide (p2.Stamp.Time > p1.Close)))]))]) (ml:=[(155,.arr 58 4 (List.map Gq3.lv v12)),(178,.arr 58 4 (List.map Gq3.lv [(Gq3.mk p2.Entry (decide (p2.Stamp.Time > p1.Close)))]))]) R R R R) (sTake (ok_insert (g:=Gq3.lv) (xs:=v12) (z0:=(Gq3.mk p2.Entry (decide (p2.Stamp.Time > p1.Close)))) isF97 insW97 R R R R R (by decide) (prN R) (HB.of R) hv17) (sAa R (sAi R (s0 ((Wk.trans (Wk.eq (el:=[(6,.arr 155 (List.length v17)),(7,.I 0)]) (ml:=[(155,.arr 58 4 (List.map Gq3.lv v17))]) R R R R) (Wk.trans (Wk.frzL (f:=Gq3.lv) (el':=[(6,.lst 4 (List.map Gq3.lv v17)),(7,.I 0)]) 155 58 4 v17 R R (prN R) (fZ (fK R fN))) (Wk.eq R R R R)))))))))))))))))))))))))))))
   refine LH.ret (thenR ?_)
   obtain rfl:=oI h
   exact retE (aT Tryz.results48) (lrT R (lrT R (lr0 ⟨memN mN,R,prK R,(Sub.tup (sbR (sbR sbN)))⟩)))
  replace h:=iteF h hc13
  refine LH.skip (thenN (LH.wk (Wk.eq (el:=[(5,.sptr (Gq5.lv p2).cells),(8,.I r7.1),(10,.bool w9),(11,.arr 155 (List.length v12))]) (ml:=[(155,.arr 58 4 (List.map Gq3.lv v12))]) R R R R) (LH.seq (LH.seqT [(5,.sptr (Gq5.lv p2).cells),(8,.I r7.1),(11,.arr 155 (List.length v12)),(81,.bool (!w9))] [(155,.arr 58 4 (List.map Gq3.lv v12))] R (sMb R (sN (oNot R zS))) (LH.cond (t:=(!w9)) R (fun hc18=>?_) (fun hc18=>?_))))))
  ·replace h:=iteT h hc18
   refine LH.seqT [(6,.nil),(7,.I 4)] [] R (sAn R (sAi R zS)) (LH.ret (thenR ?_))
   obtain rfl:=oI h
   exact retE (aT Tryz.results48) (lrT R (lrT R (lr0 ⟨memN mN,R,prK R,(Sub.tup (sbL (sbR sbN)))⟩)))
  replace h:=iteF h hc18
  refine LH.skip (thenN (LH.wk (Wk.eq (el:=[(5,.sptr (Gq5.lv p2).cells),(8,.I r7.1),(11,.arr 155 (List.length v12))]) (ml:=[(155,.arr 58 4 (List.map Gq3.lv v12))]) R R R R) (LH.seq (LH.seqT [(5,.sptr (Gq5.lv p2).cells),(8,.I r7.1),(11,.arr 155 (List.length v12)),(84,.bool (p2.Kind == 2))] [(155,.arr 58 4 (List.map Gq3.lv v12))] R (sN (oFaS tf44_1 tk3 ts3 R R R (sN (oLd R tk3 ta3 (sN (oEq R R zS)))))) (LH.cond (t:=(p2.Kind == 2)) R (fun hc19=>?_) (fun hc19=>?_))))))
  ·replace h:=iteT h hc19
   obtain ⟨v20,hv20,h⟩:=bindS h
   refine LH.seqT [(6,.lst 4 (List.map Gq3.lv v20)),(7,.I 0)] [] R (sMa R (sMi R (sMi R (sN (oAdd R R (SOps.wk (Wk.eq (el:=[(85,.arr 155 (List.length v12)),(86,.I r7.1),(88,.I (i64 (r7.1+1)))]) (ml:=[(155,.arr 58 4 (List.map Gq3.lv v12))]) R R R R) (sTake (ok_delete (g:=Gq3.lv) (xs:=v12) isF98 delW98 R R R R (prN R) (HB.of R) hv20) (sAa R (sAi R (s0 ((Wk.trans (Wk.eq (el:=[(6,.arr 155 (List.length v20)),(7,.I 0)]) (ml:=[(155,.arr 58 4 (List.map Gq3.lv v20))]) R R R R) (Wk.trans (Wk.frzL (f:=Gq3.lv) (el':=[(6,.lst 4 (List.map Gq3.lv v20)),(7,.I 0)]) 155 58 4 v20 R R (prN R) (fZ (fK R fN))) (Wk.eq R R R R)))))))))))))) (LH.ret (thenR ?_))
   obtain rfl:=oI h
   exact retE (aT Tryz.results48) (lrT R (lrT R (lr0 ⟨memN mN,R,prK R,(Sub.tup (sbR (sbR sbN)))⟩)))
  replace h:=iteF h hc19
  refine LH.skip (thenN ?_)
  obtain ⟨x21,hx21,h⟩:=bindS h
  refine LH.seqT [(11,.lst 4 (List.map Gq3.lv (v12.set r7.1.toNat (Gq3.mk (Gq4.mk x21.Entry.Candidate p2.To x21.Entry.Paper) x21.Late))))] [] R (sMa R (sMi R (sN (oFaS tf44_3 tk3 ts3 R R R (sN (oLd R tk3 ta3 (sN (oIxA (f:=Gq3.lv) te47 tk58 ts58 R R R hx21 (sN (oFaE (f:=Gq3.lv) tf58_0 tk42 ts42 R R R (sN (oFaE (f:=Gq3.lv) tf42_1 tk3 ts3 R R R (s_ (oStE (f:=Gq3.lv) (z':=(Gq3.mk (Gq4.mk x21.Entry.Candidate p2.To x21.Entry.Paper) x21.Late)) R R R R tk3 ts3 R (idxOk hx21).2 R (s0 ((Wk.trans (Wk.to (el:=[(11,.arr 155 (List.length (v12.set r7.1.toNat (Gq3.mk (Gq4.mk x21.Entry.Candidate p2.To x21.Entry.Paper) x21.Late))))]) (ml:=[(155,.arr 58 4 (List.map Gq3.lv (v12.set r7.1.toNat (Gq3.mk (Gq4.mk x21.Entry.Candidate p2.To x21.Entry.Paper) x21.Late))))]) (eC (congrArg (LV.arr 155) (by simp)) eN) ⟨R,trivial⟩ R (prK R)) (Wk.trans (Wk.frzL (f:=Gq3.lv) (el':=[(11,.lst 4 (List.map Gq3.lv (v12.set r7.1.toNat (Gq3.mk (Gq4.mk x21.Entry.Candidate p2.To x21.Entry.Paper) x21.Late))))]) 155 58 4 (v12.set r7.1.toNat (Gq3.mk (Gq4.mk x21.Entry.Candidate p2.To x21.Entry.Paper) x21.Late)) R R (prN R) (fZ fN)) (Wk.eq R R R R))))))))))))))))))) (LH.seqT [(6,.lst 4 (List.map Gq3.lv (v12.set r7.1.toNat (Gq3.mk (Gq4.mk x21.Entry.Candidate p2.To x21.Entry.Paper) x21.Late)))),(7,.I 0)] [] R (sMl R (sAl R (sAi R zS))) (LH.ret ?_))
  obtain rfl:=oI h
  exact retE (aT Tryz.results48) (lrT R (lrT R (lr0 ⟨memN mN,R,prK R,(Sub.tup (sbR (sbR sbN)))⟩)))

theorem q176q {F:Nat} {p0:List Gq5} {p1:Gq2} {p2:Int} {r:List Gq3 × List Gq9 × Int} (h:q144q F p0 p1 p2=some r):LCall Tryz.prog 14 [.lst 8 (List.map Gq5.lv p0),.agg [.I p1.Close,.I p1.Late],.I p2] (Mem.of []) (.tup [.lst 4 (List.map Gq3.lv r.1),.lst 3 (List.map Gq9.lv r.2.1),.I r.2.2]) (Mem.of []):=by
  unfold q144q at h
  refine bodyT Tryz.func14 R (nT Tryz.ntmps14 R) (LH.wk (Wk.eq (el:=[(0,.lst 8 (List.map Gq5.lv p0)),(1,.agg [.I p1.Close,.I p1.Late]),(2,.I p2)]) (ml:=[]) R R R R) (LH.seqT [(0,.lst 8 (List.map Gq5.lv p0)),(2,.I p2),(4,.sptr [.I p1.Close,.I p1.Late])] [] R (sB (oBxR R R R R (sAn R (sAn R (sAi R zS))))) (LH.seq ?_)))
  obtain ⟨r1,hr1,h⟩:=bindS h
  refine LH.seqT [(0,.lst 8 (List.map Gq5.lv p0)),(2,.I p2),(4,.sptr [.I p1.Close,.I p1.Late]),(19,.bool (!r1))] [] R (sN (oLdA R tk26 ta26 ts26 R R (sN (oCP (args:=[.agg [.I p1.Close,.I p1.Late]]) R isF46 R (sbR sbN) (q166q hr1) R (sN (oNot R zS)))))) (LH.cond (t:=(!r1)) R (fun hc2=>?_) (fun hc2=>?_))
  ·replace h:=iteT h hc2
   refine LH.seqT [(6,.nil),(7,.nil),(8,.I 1)] [] R (sAn R (sAn R (sAi R zS))) (LH.ret (thenR ?_))
   obtain rfl:=oI h
   exact retE (aT Tryz.results14) (lrT R (lrT R (lrT R (lr0 ⟨memN mN,R,prK R,(Sub.tup (sbL (sbL (sbR sbN))))⟩))))
  replace h:=iteF h hc2
  refine LH.skip (thenN ?_)
  obtain ⟨r3,hr3,h⟩:=bindS h
  refine LH.seqT [(2,.I p2),(4,.sptr [.I p1.Close,.I p1.Late]),(9,.lst 8 (List.map Gq5.lv r3.1)),(10,.I r3.2)] [] R (sMl R (sN (oCP (args:=[.lst 8 (List.map Gq5.lv p0)]) R isF47 R (sbR sbN) (q179q hr3) R (sMt R (sN (oEx R R (sN (oEx R R (sAl R (sAi R zS)))))))))) (LH.seq (LH.seqT [(2,.I p2),(4,.sptr [.I p1.Close,.I p1.Late]),(9,.lst 8 (List.map Gq5.lv r3.1)),(10,.I r3.2),(26,.bool (r3.2 != 0))] [] R (sMi R (sN (oNe R R zS))) (LH.cond (t:=(r3.2 != 0)) R (fun hc4=>?_) (fun hc4=>?_))))
  ·replace h:=iteT h hc4
   refine LH.seqT [(6,.nil),(7,.nil),(8,.I r3.2)] [] R (sMi R (sAn R (sAn R (sAi R zS)))) (LH.ret (thenR ?_))
   obtain rfl:=oI h
   exact retE (aT Tryz.results14) (lrT R (lrT R (lrT R (lr0 ⟨memN mN,R,prK R,(Sub.tup (sbL (sbL (sbR sbN))))⟩))))
  replace h:=iteF h hc4
  refine LH.skip (thenN (LH.seqT [(2,.I p2),(4,.sptr [.I p1.Close,.I p1.Late]),(9,.lst 8 (List.map Gq5.lv r3.1)),(11,.nil)] [] R (sAn R zS) (LH.seqT [(2,.I p2),(4,.sptr [.I p1.Close,.I p1.Late]),(9,.lst 8 (List.map Gq5.lv r3.1)),(11,.nil),(12,.nil)] [] R (sAn R zS) (LH.seq (LH.seqT [(2,.I p2),(4,.sptr [.I p1.Close,.I p1.Late]),(11,.nil),(12,.nil),(28,.lst 8 (List.map Gq5.lv r3.1)),(29,.I (r3.1.length:Int)),(30,.I 0)] [] R (sMl R (sN (oLnL (f:=Gq5.lv) te28 R (sMi R zS)))) (LH.block (LH.wk ((Wk.trans (Wk.eq (el:=[(2,.I p2),(4,.sptr [.I p1.Close,.I p1.Late]),(11,.nil),(12,.nil),(28,.lst 8 (List.map Gq5.lv r3.1)),(29,.I (r3.1.length:Int)),(30,.I 0)]) (ml:=[]) R R R R) (Wk.trans (Wk.eq (el:=[(2,.I p2),(4,.sptr [.I p1.Close,.I p1.Late]),(11,.nil),(12,.nil),(28,.lst 8 (List.map Gq5.lv r3.1)),(29,.I (r3.1.length:Int)),(30,.I 0)]) (ml:=[]) R R R R) (Wk.trans (Wk.ownL (el':=[(2,.I p2),(4,.sptr [.I p1.Close,.I p1.Late]),(11,.nil),(12,.arr 159 (List.length ([]:List Gq9))),(28,.lst 8 (List.map Gq5.lv r3.1)),(29,.I (r3.1.length:Int)),(30,.I 0)]) 159 143 3 R R (wK (wK (wK (wO (wK (wK (wK wN)))))))) (Wk.to (el:=[(2,.I p2),(4,.sptr [.I p1.Close,.I p1.Late]),(11,.lst 4 (List.map Gq3.lv ([]:List Gq3))),(12,.arr 159 (List.length ([]:List Gq9))),(28,.lst 8 (List.map Gq5.lv r3.1)),(29,.I (r3.1.length:Int)),(30,.I 0)]) (ml:=[(159,.arr 143 3 (List.map Gq9.lv ([]:List Gq9)))]) (eC R (eC R (eL R (eC R (eC R (eC R (eC R eN))))))) ⟨R,trivial⟩ R (prK R)))))) (LH.loop (fun n e m=>∃ (l5:List Gq3) (n6:Int) (l7:List Gq9),q86q F p1 p2 r3 n l5 n6 l7=some r∧e=Env.of [(2,.I p2),(4,.sptr [.I p1.Close,.I p1.Late]),(11,.lst 4 (List.map Gq3.lv l5)),(12,.arr 159 (List.length l7)),(28,.lst 8 (List.map Gq5.lv r3.1)),(29,.I (r3.1.length:Int)),(30,.I n6)]∧m=Mem.of [(159,.arr 143 3 (List.map Gq9.lv l7))]) F ⟨([]:List Gq3),0,([]:List Gq9),h,R,R⟩ ?_))))))))
  clear h
  rintro n e m ⟨l5,n6,l7,h,rfl,rfl⟩
  rcases n with _ | n
  · cases (show Option.none=some _ from h)
  obtain ⟨rec1,hrec1⟩:∃ f,f=q86q F p1 p2 r3 n:=⟨_,rfl⟩
  replace h:q125q F p1 p2 r3 rec1 l5 n6 l7=some r:=hrec1 ▸ h
  unfold q125q at h
  refine LH.seqT [(2,.I p2),(4,.sptr [.I p1.Close,.I p1.Late]),(11,.lst 4 (List.map Gq3.lv l5)),(12,.arr 159 (List.length l7)),(28,.lst 8 (List.map Gq5.lv r3.1)),(29,.I (r3.1.length:Int)),(30,.I n6),(31,.bool (decide (n6<(r3.1.length:Int))))] [(159,.arr 143 3 (List.map Gq9.lv l7))] R (sN (oLt R R zS)) (LH.seq (LH.cond (t:=(decide (n6<(r3.1.length:Int)))) R (fun hc8=>?_) (fun hc8=>?_)))
  ·replace h:=iteT h hc8
   refine LH.skip (thenN (LH.wk (Wk.eq (el:=[(2,.I p2),(4,.sptr [.I p1.Close,.I p1.Late]),(11,.lst 4 (List.map Gq3.lv l5)),(12,.arr 159 (List.length l7)),(28,.lst 8 (List.map Gq5.lv r3.1)),(29,.I (r3.1.length:Int)),(30,.I n6)]) (ml:=[(159,.arr 143 3 (List.map Gq9.lv l7))]) R R R R) (LH.seq (LH.block ?_))))
   obtain ⟨x9,hx9,h⟩:=bindS h
   refine LH.seqT [(2,.I p2),(4,.sptr [.I p1.Close,.I p1.Late]),(11,.lst 4 (List.map Gq3.lv l5)),(12,.arr 159 (List.length l7)),(14,.sptr (Gq5.lv x9).cells),(28,.lst 8 (List.map Gq5.lv r3.1)),(29,.I (r3.1.length:Int)),(30,.I n6)] [(159,.arr 143 3 (List.map Gq9.lv l7))] R (sN (oIx (f:=Gq5.lv) te28 tk44 ts44 R R Gq5.ok hx9 R (sN (oLdA R tk44 ta44 ts44 R R (sN (oAl (id:=114) R tz44 R R (s_ (oSt R R R tk44 ts44 R R R (s0 ((Wk.trans (Wk.eq (el:=[(2,.I p2),(4,.sptr [.I p1.Close,.I p1.Late]),(11,.lst 4 (List.map Gq3.lv l5)),(12,.arr 159 (List.length l7)),(14,.ptr 114 0),(28,.lst 8 (List.map Gq5.lv r3.1)),(29,.I (r3.1.length:Int)),(30,.I n6)]) (ml:=[(114,.box (Gq5.lv x9).cells),(159,.arr 143 3 (List.map Gq9.lv l7))]) R R R R) (Wk.trans (Wk.frzB 114 (Gq5.lv x9).cells R R R (prN R)) (Wk.eq R R R R))))))))))))) (LH.seq (LH.seqT [(2,.I p2),(4,.sptr [.I p1.Close,.I p1.Late]),(11,.lst 4 (List.map Gq3.lv l5)),(12,.arr 159 (List.length l7)),(14,.sptr (Gq5.lv x9).cells),(28,.lst 8 (List.map Gq5.lv r3.1)),(29,.I (r3.1.length:Int)),(30,.I n6),(38,.bool (decide (x9.Stamp.Time > p2)))] [(159,.arr 143 3 (List.map Gq9.lv l7))] R (sN (oFaS tf44_0 tk40 ts40 R R R (sN (oFaS tf40_0 tk3 ts3 R R R (sN (oLd R tk3 ta3 (sMi R (sN (oGt R R zS))))))))) (LH.cond (t:=(decide (x9.Stamp.Time > p2))) R (fun hc10=>?_) (fun hc10=>?_))))
   ·replace h:=iteT h hc10
    refine LH.exit (thenX (blockX R (thenX (roundX (blockH (thenN (LH.wk ((Wk.trans (Wk.eq (el:=[(11,.lst 4 (List.map Gq3.lv l5)),(12,.arr 159 (List.length l7))]) (ml:=[(159,.arr 143 3 (List.map Gq9.lv l7))]) R R R R) (Wk.trans (Wk.frzL (f:=Gq9.lv) (el':=[(11,.lst 4 (List.map Gq3.lv l5)),(12,.lst 3 (List.map Gq9.lv l7))]) 159 143 3 l7 R R (prN R) (fK R (fZ fN))) (Wk.eq (el:=[(11,.lst 4 (List.map Gq3.lv l5)),(12,.lst 3 (List.map Gq9.lv l7))]) (ml:=[]) R R R R)))) (LH.seqT [(6,.lst 4 (List.map Gq3.lv l5)),(7,.lst 3 (List.map Gq9.lv l7)),(8,.I 0)] [] R (sMl R (sMl R (sAl R (sAl R (sAi R zS))))) (LH.ret ?_)))))))))
    obtain rfl:=oI h
    exact retE (aT Tryz.results14) (lrT R (lrT R (lrT R (lr0 ⟨memN mN,R,prK R,(Sub.tup (sbR (sbR (sbR sbN))))⟩))))
   replace h:=iteF h hc10
   refine LH.skip (thenN ?_)
   obtain ⟨r11,hr11,h⟩:=bindS h
   refine LH.seqT [(2,.I p2),(4,.sptr [.I p1.Close,.I p1.Late]),(11,.lst 4 (List.map Gq3.lv l5)),(12,.arr 159 (List.length l7)),(14,.sptr (Gq5.lv x9).cells),(15,.lst 4 (List.map Gq3.lv r11.1)),(16,.I r11.2),(28,.lst 8 (List.map Gq5.lv r3.1)),(29,.I (r3.1.length:Int)),(30,.I n6)] [(159,.arr 143 3 (List.map Gq9.lv l7))] R (sMl R (sN (oLdA R tk26 ta26 ts26 R R (sN (oLdA R tk44 ta44 ts44 R R (sN (oCP (args:=[.lst 4 (List.map Gq3.lv l5),.agg [.I p1.Close,.I p1.Late],Gq5.lv x9]) R isF48 R (sbR (sbR (sbR sbN))) (q205q hr11) R (sMt R (sN (oEx R R (sN (oEx R R (sAl R (sAi R zS)))))))))))))) (LH.seq (LH.seqT [(2,.I p2),(4,.sptr [.I p1.Close,.I p1.Late]),(11,.lst 4 (List.map Gq3.lv l5)),(12,.arr 159 (List.length l7)),(14,.sptr (Gq5.lv x9).cells),(15,.lst 4 (List.map Gq3.lv r11.1)),(16,.I r11.2),(28,.lst 8 (List.map Gq5.lv r3.1)),(29,.I (r3.1.length:Int)),(30,.I n6),(47,.bool (r11.2 != 0))] [(159,.arr 143 3 (List.map Gq9.lv l7))] R (sMi R (sN (oNe R R zS))) (LH.cond (t:=(r11.2 != 0)) R (fun hc12=>?_) (fun hc12=>?_))))
   ·replace h:=iteT h hc12
    obtain ⟨v13,hv13,h⟩:=bindS h
    refine LH.seqT [(2,.I p2),(4,.sptr [.I p1.Close,.I p1.Late]),(11,.lst 4 (List.map Gq3.lv l5)),(12,.arr 159 (List.length v13)),(28,.lst 8 (List.map Gq5.lv r3.1)),(29,.I (r3.1.length:Int)),(30,.I n6)] [(159,.arr 143 3 (List.map Gq9.lv v13))] R (sMa R (sN (oFaS tf44_0 tk40 ts40 R R R (sN (oFaS tf40_1 tk3 ts3 R R R (sN (oLd R tk3 ta3 (sN (oFaS tf44_0 tk40 ts40 R R R (sN (oFaS tf40_2 tk3 ts3 R R R (sN (oLd R tk3 ta3 (sN (oBd (vs:=[(0,.I x9.Stamp.Source),(1,.I x9.Stamp.Seq)]) tu141 tz141 R (lf tf141_0 ts3 tk3 R R R (lf tf141_1 ts3 tk3 R R R lf0)) (sMi R (sN (oBd (vs:=[(0,.agg [.I x9.Stamp.Source,.I x9.Stamp.Seq]),(1,.I r11.2)]) tu143 tz143 R (lf tf143_0 ts141 tk141 R R R (lf tf143_1 ts49 tk49 R R R lf0)) (sN (oBS (f:=Gq9.lv) (ys:=[(Gq9.mk (Gq7.mk x9.Stamp.Source x9.Stamp.Seq) r11.2)]) te48 tr143 ts143 R R R Gq9.ok (sN (oAp (f:=Gq9.lv) te48 tr143 ts143 R R (prN R) R hv13 (sAa R zS))))))))))))))))))))))) (LH.exit (thenX (blockH (thenN (LH.loneT [(2,.I p2),(4,.sptr [.I p1.Close,.I p1.Late]),(11,.lst 4 (List.map Gq3.lv l5)),(12,.arr 159 (List.length v13)),(28,.lst 8 (List.map Gq5.lv r3.1)),(29,.I (r3.1.length:Int)),(30,.I (i64 (n6+1)))] [(159,.arr 143 3 (List.map Gq9.lv v13))] R (sN (oAdd R R (sMi R zS))) ?_)))))
    exact roundI ⟨l5,(i64 (n6+1)),v13,hrec1 ▸ h,R,R⟩ (Wk.eq R R R R)
   replace h:=iteF h hc12
   refine LH.skip (thenN (LH.loneT [(2,.I p2),(4,.sptr [.I p1.Close,.I p1.Late]),(11,.lst 4 (List.map Gq3.lv r11.1)),(12,.arr 159 (List.length l7)),(28,.lst 8 (List.map Gq5.lv r3.1)),(29,.I (r3.1.length:Int)),(30,.I n6)] [(159,.arr 143 3 (List.map Gq9.lv l7))] R (sMl R (sAl R zS)) (blockN (thenN (LH.loneT [(2,.I p2),(4,.sptr [.I p1.Close,.I p1.Late]),(11,.lst 4 (List.map Gq3.lv r11.1)),(12,.arr 159 (List.length l7)),(28,.lst 8 (List.map Gq5.lv r3.1)),(29,.I (r3.1.length:Int)),(30,.I (i64 (n6+1)))] [(159,.arr 143 3 (List.map Gq9.lv l7))] R (sN (oAdd R R (sMi R zS))) ?_)))))
   exact roundI ⟨r11.1,(i64 (n6+1)),l7,hrec1 ▸ h,R,R⟩ (Wk.eq R R R R)
  replace h:=iteF h hc8
  refine LH.exit (thenX (roundX (blockH (thenN (LH.wk ((Wk.trans (Wk.eq (el:=[(11,.lst 4 (List.map Gq3.lv l5)),(12,.arr 159 (List.length l7))]) (ml:=[(159,.arr 143 3 (List.map Gq9.lv l7))]) R R R R) (Wk.trans (Wk.frzL (f:=Gq9.lv) (el':=[(11,.lst 4 (List.map Gq3.lv l5)),(12,.lst 3 (List.map Gq9.lv l7))]) 159 143 3 l7 R R (prN R) (fK R (fZ fN))) (Wk.eq (el:=[(11,.lst 4 (List.map Gq3.lv l5)),(12,.lst 3 (List.map Gq9.lv l7))]) (ml:=[]) R R R R)))) (LH.seqT [(6,.lst 4 (List.map Gq3.lv l5)),(7,.lst 3 (List.map Gq9.lv l7)),(8,.I 0)] [] R (sMl R (sMl R (sAl R (sAl R (sAi R zS))))) (LH.ret ?_)))))))
  obtain rfl:=oI h
  exact retE (aT Tryz.results14) (lrT R (lrT R (lrT R (lr0 ⟨memN mN,R,prK R,(Sub.tup (sbR (sbR (sbR sbN))))⟩))))

theorem q202q {F:Nat} {p0:List Gq3} {p1:Int} {r:List Gq3} (h:q148q F p0 p1=some r):LCall Tryz.prog 15 [.lst 4 (List.map Gq3.lv p0),.I p1] (Mem.of []) (.lst 4 (List.map Gq3.lv r)) (Mem.of []):=by
  unfold q148q at h
  refine bodyT Tryz.func15 R (nT Tryz.ntmps15 R) (LH.wk (Wk.eq (el:=[(0,.lst 4 (List.map Gq3.lv p0)),(1,.I p1)]) (ml:=[]) R R R R) (LH.seqT [(0,.lst 4 (List.map Gq3.lv p0)),(1,.I p1)] [] R (sAn R zS) (LH.seqT [(0,.lst 4 (List.map Gq3.lv p0)),(1,.I p1),(5,.nil)] [] R (sAn R zS) (LH.seq (LH.seqT [(1,.I p1),(5,.nil),(8,.lst 4 (List.map Gq3.lv p0)),(9,.I (p0.length:Int)),(10,.I 0)] [] R (sMl R (sN (oLnL (f:=Gq3.lv) te47 R (sMi R zS)))) (LH.block (LH.wk ((Wk.trans (Wk.eq (el:=[(1,.I p1),(5,.nil),(8,.lst 4 (List.map Gq3.lv p0)),(9,.I (p0.length:Int)),(10,.I 0)]) (ml:=[]) R R R R) (Wk.trans (Wk.eq (el:=[(1,.I p1),(5,.nil),(8,.lst 4 (List.map Gq3.lv p0)),(9,.I (p0.length:Int)),(10,.I 0)]) (ml:=[]) R R R R) (Wk.trans (Wk.ownL (el':=[(1,.I p1),(5,.arr 122 (List.length ([]:List Gq3))),(8,.lst 4 (List.map Gq3.lv p0)),(9,.I (p0.length:Int)),(10,.I 0)]) 122 58 4 R R (wK (wO (wK (wK (wK wN)))))) (Wk.eq (el:=[(1,.I p1),(5,.arr 122 (List.length ([]:List Gq3))),(8,.lst 4 (List.map Gq3.lv p0)),(9,.I (p0.length:Int)),(10,.I 0)]) (ml:=[(122,.arr 58 4 (List.map Gq3.lv ([]:List Gq3)))]) R R R R))))) (LH.loop (fun n e m=>∃ (n1:Int) (l2:List Gq3),q131q p0 p1 n n1 l2=some r∧e=Env.of [(1,.I p1),(5,.arr 122 (List.length l2)),(8,.lst 4 (List.map Gq3.lv p0)),(9,.I (p0.length:Int)),(10,.I n1)]∧m=Mem.of [(122,.arr 58 4 (List.map Gq3.lv l2))]) F ⟨0,([]:List Gq3),h,R,R⟩ ?_))))))))
  clear h
  rintro n e m ⟨n1,l2,h,rfl,rfl⟩
  rcases n with _ | n
  · cases (show Option.none=some _ from h)
  obtain ⟨rec1,hrec1⟩:∃ f,f=q131q p0 p1 n:=⟨_,rfl⟩
  replace h:q112q p0 p1 rec1 n1 l2=some r:=hrec1 ▸ h
  unfold q112q at h
  refine LH.seqT [(1,.I p1),(5,.arr 122 (List.length l2)),(8,.lst 4 (List.map Gq3.lv p0)),(9,.I (p0.length:Int)),(10,.I n1),(11,.bool (decide (n1<(p0.length:Int))))] [(122,.arr 58 4 (List.map Gq3.lv l2))] R (sN (oLt R R zS)) (LH.seq (LH.cond (t:=(decide (n1<(p0.length:Int)))) R (fun hc3=>?_) (fun hc3=>?_)))
  ·replace h:=iteT h hc3
   refine LH.skip (thenN (LH.wk (Wk.eq (el:=[(1,.I p1),(5,.arr 122 (List.length l2)),(8,.lst 4 (List.map Gq3.lv p0)),(9,.I (p0.length:Int)),(10,.I n1)]) (ml:=[(122,.arr 58 4 (List.map Gq3.lv l2))]) R R R R) (LH.seq (LH.block ?_))))
   obtain ⟨x4,hx4,h⟩:=bindS h
   refine LH.seqT [(1,.I p1),(5,.arr 122 (List.length l2)),(7,.sptr (Gq3.lv x4).cells),(8,.lst 4 (List.map Gq3.lv p0)),(9,.I (p0.length:Int)),(10,.I n1)] [(122,.arr 58 4 (List.map Gq3.lv l2))] R (sN (oIx (f:=Gq3.lv) te47 tk58 ts58 R R Gq3.ok hx4 R (sN (oLdA R tk58 ta58 ts58 R R (sN (oAl (id:=107) R tz58 R R (s_ (oSt R R R tk58 ts58 R R R (s0 ((Wk.trans (Wk.eq (el:=[(1,.I p1),(5,.arr 122 (List.length l2)),(7,.ptr 107 0),(8,.lst 4 (List.map Gq3.lv p0)),(9,.I (p0.length:Int)),(10,.I n1)]) (ml:=[(107,.box (Gq3.lv x4).cells),(122,.arr 58 4 (List.map Gq3.lv l2))]) R R R R) (Wk.trans (Wk.frzB 107 (Gq3.lv x4).cells R R R (prN R)) (Wk.eq R R R R))))))))))))) (LH.seqT [(1,.I p1),(5,.arr 122 (List.length l2)),(7,.sptr (Gq3.lv x4).cells),(8,.lst 4 (List.map Gq3.lv p0)),(9,.I (p0.length:Int)),(10,.I n1),(18,.bool (x4.Entry.Paper == p1))] [(122,.arr 58 4 (List.map Gq3.lv l2))] R (sN (oFaS tf58_0 tk42 ts42 R R R (sN (oFaS tf42_2 tk3 ts3 R R R (sN (oLd R tk3 ta3 (sMi R (sN (oEq R R zS))))))))) (LH.cond (t:=(x4.Entry.Paper == p1)) R (fun hc5=>?_) (fun hc5=>?_)))
   ·replace h:=iteT h hc5
    obtain ⟨v6,hv6,h⟩:=bindS h
    refine LH.loneT [(1,.I p1),(5,.arr 122 (List.length v6)),(8,.lst 4 (List.map Gq3.lv p0)),(9,.I (p0.length:Int)),(10,.I n1)] [(122,.arr 58 4 (List.map Gq3.lv v6))] R (sMa R (sN (oLdA R tk58 ta58 ts58 R R (sN (oBS (f:=Gq3.lv) (ys:=[x4]) te47 tr58 ts58 R R R Gq3.ok (sN (oAp (f:=Gq3.lv) te47 tr58 ts58 R R (prN R) R hv6 (sAa R zS)))))))) (blockN (thenN (LH.loneT [(1,.I p1),(5,.arr 122 (List.length v6)),(8,.lst 4 (List.map Gq3.lv p0)),(9,.I (p0.length:Int)),(10,.I (i64 (n1+1)))] [(122,.arr 58 4 (List.map Gq3.lv v6))] R (sN (oAdd R R (sMi R zS))) ?_)))
    exact roundI ⟨(i64 (n1+1)),v6,hrec1 ▸ h,R,R⟩ (Wk.eq R R R R)
   replace h:=iteF h hc5
   refine LH.skip (blockN (thenN (LH.loneT [(1,.I p1),(5,.arr 122 (List.length l2)),(8,.lst 4 (List.map Gq3.lv p0)),(9,.I (p0.length:Int)),(10,.I (i64 (n1+1)))] [(122,.arr 58 4 (List.map Gq3.lv l2))] R (sN (oAdd R R (sMi R zS))) ?_)))
   exact roundI ⟨(i64 (n1+1)),l2,hrec1 ▸ h,R,R⟩ (Wk.eq R R R R)
  replace h:=iteF h hc3
  refine LH.exit (thenX (roundX (blockH (thenN (LH.wk ((Wk.trans (Wk.eq (el:=[(5,.arr 122 (List.length l2))]) (ml:=[(122,.arr 58 4 (List.map Gq3.lv l2))]) R R R R) (Wk.trans (Wk.frzL (f:=Gq3.lv) (el':=[(5,.lst 4 (List.map Gq3.lv l2))]) 122 58 4 l2 R R (prN R) (fZ fN)) (Wk.eq (el:=[(5,.lst 4 (List.map Gq3.lv l2))]) (ml:=[]) R R R R)))) (LH.seqT [(4,.lst 4 (List.map Gq3.lv l2))] [] R (sMl R (sAl R zS)) (LH.ret ?_)))))))
  obtain rfl:=oI h
  exact retE (aT Tryz.results15) (lrT R (lr0 ⟨memN mN,R,prK R,Sub.rfl⟩))

theorem q123q {p0:Int} {r:Bool} (h:q12q p0=some r):LCall Tryz.prog 99 [.I p0] (Mem.of []) (.bool r) (Mem.of []):=by
  unfold q12q at h
  refine bodyT Tryz.func99 R (nT Tryz.ntmps99 R) (LH.wk (Wk.eq (el:=[(0,.I p0)]) (ml:=[]) R R R R) (LH.seqT [(0,.I p0)] [] R (sAb R zS) (LH.seqT [(2,.bool ((decide (p0 ≥ 1)) && (decide (p0≤9))))] [] R ?_ ?_)))
  ·refine sMi R (sN (oGe R R (sMb R ?_)))
   by_cases hb2:(decide (p0 ≥ 1))=true
   ·exact sT R (cB hb2) (oM (v:=(.int _ _)) R (sT R (cB hb2) (oLe R R (sN (oPkT (cB hb2) (v:=(.bool _)) R (sAb R (s0 (Wk.to (eC (cB (andT hb2)) eN) mN R (prK R)))))))))
   ·replace hb2:=bF hb2
    exact sF R R hb2 (sF R R hb2 (sN (oPkF (cB hb2) (v:=(.bool _)) R (sAb R (s0 (Wk.to (eC (cB (andF hb2)) eN) mN R (prK R)))))))
  refine LH.ret ?_
  obtain rfl:=oI h
  exact retE (aT Tryz.results99) (lrT R (lr0 ⟨memN mN,R,prK R,Sub.rfl⟩))

theorem q168q {p0:Gq0} {r:Bool} (h:q111q p0=some r):LCall Tryz.prog 100 [.agg [.I p0.Extra,.I p0.Needs]] (Mem.of []) (.bool r) (Mem.of []):=by
  unfold q111q at h
  refine bodyT Tryz.func100 R (nT Tryz.ntmps100 R) (LH.wk (Wk.eq (el:=[(0,.agg [.I p0.Extra,.I p0.Needs])]) (ml:=[]) R R R R) (LH.seqT [(1,.sptr [.I p0.Extra,.I p0.Needs])] [] R (sB (oBxR R R R R (sAb R zS))) (LH.seqT [(2,.bool ((decide (p0.Extra ≥ 0)) && ((decide (p0.Extra≤100)) && ((decide (p0.Needs ≥ 0)) && (decide (p0.Needs≤63))))))] [] R ?_ ?_)))
  ·refine sN (oFaS tf54_0 tk3 ts3 R R R (sN (oLd R tk3 ta3 (sN (oGe R R (sMb R ?_))))))
   by_cases hb2:(decide (p0.Extra ≥ 0))=true
   ·refine sT R (cB hb2) (oFaS tf54_0 tk3 ts3 R R R (sT R (cB hb2) (oLd R tk3 ta3 (sT R (cB hb2) (oLe R R (sN (oPkT (cB hb2) (v:=(.bool _)) R (sMb R ?_))))))))
    by_cases hb3:(decide (p0.Extra≤100))=true
    ·refine sT R (cB hb3) (oFaS tf54_1 tk3 ts3 R R R (sT R (cB hb3) (oLd R tk3 ta3 (sT R (cB hb3) (oGe R R (sN (oPkT (cB hb3) (v:=(.bool _)) R (sMb R ?_))))))))
     by_cases hb4:(decide (p0.Needs ≥ 0))=true
     ·exact sT R (cB hb4) (oFaS tf54_1 tk3 ts3 R R R (sT R (cB hb4) (oLd R tk3 ta3 (sT R (cB hb4) (oLe R R (sN (oPkT (cB hb4) (v:=(.bool _)) R (sAb R (s0 (Wk.to (eC (cB (Eq.trans (Eq.trans (andT hb4) (andT hb3)) (andT hb2))) eN) mN R (prK R)))))))))))
     ·replace hb4:=bF hb4
      exact sF R R hb4 (sF R R hb4 (sF R R hb4 (sN (oPkF (cB hb4) (v:=(.bool _)) R (sAb R (s0 (Wk.to (eC (cB (Eq.trans (Eq.trans (andF hb4) (andT hb3)) (andT hb2))) eN) mN R (prK R))))))))
    ·replace hb3:=bF hb3
     exact sF R R hb3 (sF R R hb3 (sF R R hb3 (sN (oPkF (cB hb3) (v:=(.bool _)) R (sMb R (sF R R R (sF R R R (sF R R R (sN (oPkF R (v:=(.bool _)) R (sAb R (s0 (Wk.to (eC (cB (Eq.trans (andF hb3) (andT hb2))) eN) mN R (prK R))))))))))))))
   ·replace hb2:=bF hb2
    exact sF R R hb2 (sF R R hb2 (sF R R hb2 (sN (oPkF (cB hb2) (v:=(.bool _)) R (sMb R (sF R R R (sF R R R (sF R R R (sN (oPkF R (v:=(.bool _)) R (sMb R (sF R R R (sF R R R (sF R R R (sN (oPkF R (v:=(.bool _)) R (sAb R (s0 (Wk.to (eC (cB (andF hb2)) eN) mN R (prK R))))))))))))))))))))
  refine LH.ret ?_
  obtain rfl:=oI h
  exact retE (aT Tryz.results100) (lrT R (lr0 ⟨memN mN,R,prK R,Sub.rfl⟩))

theorem q167q {F:Nat} {p0:List Gq1} {r:Int} (h:q130q F p0=some r):LCall Tryz.prog 49 [.lst 4 (List.map Gq1.lv p0)] (Mem.of []) (.I r) (Mem.of []):=by
  unfold q130q at h
  refine bodyT Tryz.func49 R (nT Tryz.ntmps49 R) (LH.wk (Wk.eq (el:=[(0,.lst 4 (List.map Gq1.lv p0))]) (ml:=[]) R R R R) (LH.seqT [(0,.lst 4 (List.map Gq1.lv p0))] [] R (sAi R zS) (LH.seq (LH.seqT [(0,.lst 4 (List.map Gq1.lv p0)),(7,.bool (decide ((p0.length:Int) > 12)))] [] R (sMl R (sN (oLnL (f:=Gq1.lv) te30 R (sN (oGt R R zS))))) (LH.cond (t:=(decide ((p0.length:Int) > 12))) R (fun hc1=>?_) (fun hc1=>?_))))))
  ·replace h:=iteT h hc1
   refine LH.seqT [(2,.I 3)] [] R (sAi R zS) (LH.ret (thenR ?_))
   obtain rfl:=oI h
   exact retE (aT Tryz.results49) (lrT R (lr0 ⟨memN mN,R,prK R,Sub.rfl⟩))
  replace h:=iteF h hc1
  refine LH.skip (thenN (LH.wk (Wk.eq (el:=[(0,.lst 4 (List.map Gq1.lv p0))]) (ml:=[]) R R R R) (LH.seq (LH.seqT [(8,.lst 4 (List.map Gq1.lv p0)),(9,.I (p0.length:Int)),(10,.I 0)] [] R (sMl R (sN (oLnL (f:=Gq1.lv) te30 R (sMi R zS)))) (LH.block (LH.loop (fun n e m=>∃ (n2:Int),q80q p0 n n2=some r∧e=Env.of [(8,.lst 4 (List.map Gq1.lv p0)),(9,.I (p0.length:Int)),(10,.I n2)]∧m=Mem.of []) F ⟨0,h,R,R⟩ ?_))))))
  clear h
  rintro n e m ⟨n2,h,rfl,rfl⟩
  rcases n with _ | n
  · cases (show Option.none=some _ from h)
  obtain ⟨rec1,hrec1⟩:∃ f,f=q80q p0 n:=⟨_,rfl⟩
  replace h:q92q p0 rec1 n2=some r:=hrec1 ▸ h
  unfold q92q at h
  refine LH.seqT [(8,.lst 4 (List.map Gq1.lv p0)),(9,.I (p0.length:Int)),(10,.I n2),(11,.bool (decide (n2<(p0.length:Int))))] [] R (sN (oLt R R zS)) (LH.seq (LH.cond (t:=(decide (n2<(p0.length:Int)))) R (fun hc3=>?_) (fun hc3=>?_)))
  ·replace h:=iteT h hc3
   refine LH.skip (thenN (LH.wk (Wk.eq (el:=[(8,.lst 4 (List.map Gq1.lv p0)),(9,.I (p0.length:Int)),(10,.I n2)]) (ml:=[]) R R R R) (LH.seq (LH.block ?_))))
   obtain ⟨x4,hx4,h⟩:=bindS h
   refine LH.seqT [(4,.sptr [.I x4.Kind,.I x4.Least,.I x4.Extra,.I x4.Needs]),(8,.lst 4 (List.map Gq1.lv p0)),(9,.I (p0.length:Int)),(10,.I n2)] [] R (sN (oIx (f:=Gq1.lv) te30 tk134 ts134 R R Gq1.ok hx4 R (sN (oLdA R tk134 ta134 ts134 R R (sN (oAl (id:=104) R tz134 R R (s_ (oSt R R R tk134 ts134 R R R (s0 ((Wk.trans (Wk.eq (el:=[(4,.ptr 104 0),(8,.lst 4 (List.map Gq1.lv p0)),(9,.I (p0.length:Int)),(10,.I n2)]) (ml:=[(104,.box [.I x4.Kind,.I x4.Least,.I x4.Extra,.I x4.Needs])]) R R R R) (Wk.trans (Wk.frzB 104 [.I x4.Kind,.I x4.Least,.I x4.Extra,.I x4.Needs] R R R (prN R)) (Wk.eq R R R R))))))))))))) ?_
   obtain ⟨w6,hv,h⟩:=bindS h
   refine LH.seqT [(8,.lst 4 (List.map Gq1.lv p0)),(9,.I (p0.length:Int)),(10,.I n2),(32,.bool w6)] [] R ?_ ?_
   ·refine sN (oFaS tf134_0 tk3 ts3 R R R (sN (oLd R tk3 ta3 ?_)))
    obtain ⟨r7,hr7,hv⟩:=bindS hv
    refine sN (oCP (args:=[.I x4.Kind]) R isF99 R (sbR sbN) (q123q hr7) R (sN (oNot R (sMb R ?_))))
    by_cases hb8:(!r7)=true
    ·replace hv:=iteT hv hb8
     refine sF R R hb8 (sF R R hb8 (sF R R hb8 (sF R R hb8 (sN (oPkT (cB hb8) (v:=(.bool _)) R (sMb R (sF R R R (sF R R R (sF R R R (sF R R R (sF R R R (sF R R R (sF R R R (sN (oPkT R (v:=(.bool _)) R ?_)))))))))))))))
     obtain rfl:=oI hv
     exact zS
    ·replace hb8:=bF hb8
     replace hv:=iteF hv hb8
     refine sT R (cB hb8) (oFaS tf134_1 tk3 ts3 R R R (sT R (cB hb8) (oLd R tk3 ta3 ?_)))
     obtain ⟨r9,hr9,hv⟩:=bindS hv
     refine sT R (cB hb8) (oCP (args:=[.I x4.Least]) R isF99 R (sbR sbN) (q123q hr9) R (sT R (cB hb8) (oNot R (sN (oPkF (cB hb8) (v:=(.bool _)) R (sMb R ?_))))))
     by_cases hb10:(!r9)=true
     ·replace hv:=iteT hv hb10
      refine sF R R hb10 (sF R R hb10 (sF R R hb10 (sF R R hb10 (sF R R hb10 (sF R R hb10 (sF R R hb10 (sN (oPkT (cB hb10) (v:=(.bool _)) R ?_))))))))
      obtain rfl:=oI hv
      exact zS
     ·replace hb10:=bF hb10
      replace hv:=iteF hv hb10
      refine sT R (cB hb10) (oFaS tf134_2 tk3 ts3 R R R (sT R (cB hb10) (oLd R tk3 ta3 (sT R (cB hb10) (oFaS tf134_3 tk3 ts3 R R R (sT R (cB hb10) (oLd R tk3 ta3 (sT R (cB hb10) (oBd (vs:=[(0,.I x4.Extra),(1,.I x4.Needs)]) tu54 tz54 R (lf tf54_0 ts3 tk3 R R R (lf tf54_1 ts3 tk3 R R R lf0)) ?_)))))))))
      obtain ⟨r11,hr11,hv⟩:=bindS hv
      refine sT R (cB hb10) (oCP (args:=[.agg [.I x4.Extra,.I x4.Needs]]) R isF100 R (sbR sbN) (q168q hr11) R (sT R (cB hb10) (oNot R (sN (oPkF (cB hb10) (v:=(.bool _)) R ?_)))))
      obtain rfl:=oI hv
      exact zS
   clear hv
   refine LH.cond (t:=w6) R (fun hc12=>?_) (fun hc12=>?_)
   ·replace h:=iteT h hc12
    refine LH.seqT [(2,.I 2)] [] R (sAi R zS) (LH.ret (blockR (thenR (roundR (blockR (thenR ?_))))))
    obtain rfl:=oI h
    exact retE (aT Tryz.results49) (lrT R (lr0 ⟨memN mN,R,prK R,Sub.rfl⟩))
   replace h:=iteF h hc12
   refine LH.skip (blockN (thenN (LH.loneT [(8,.lst 4 (List.map Gq1.lv p0)),(9,.I (p0.length:Int)),(10,.I (i64 (n2+1)))] [] R (sN (oAdd R R (sMi R zS))) ?_)))
   exact roundI ⟨(i64 (n2+1)),hrec1 ▸ h,R,R⟩ (Wk.eq R R R R)
  replace h:=iteF h hc3
  refine LH.exit (thenX (roundX (blockH (thenN (LH.seqT [(2,.I 0)] [] R (sAi R zS) (LH.ret ?_))))))
  obtain rfl:=oI h
  exact retE (aT Tryz.results49) (lrT R (lr0 ⟨memN mN,R,prK R,Sub.rfl⟩))

theorem q186q {F:Nat} {p0:Gq1} {p1:List Gq6} {p2:Int} {p3:Int} {r:Bool} (h:q103q F p0 p1 p2 p3=some r):LCall Tryz.prog 101 [.agg [.I p0.Kind,.I p0.Least,.I p0.Extra,.I p0.Needs],.lst 5 (List.map Gq6.lv p1),.I p2,.I p3] (Mem.of []) (.bool r) (Mem.of []):=by
  unfold q103q at h
  refine bodyT Tryz.func101 R (nT Tryz.ntmps101 R) (LH.wk (Wk.eq (el:=[(0,.agg [.I p0.Kind,.I p0.Least,.I p0.Extra,.I p0.Needs]),(1,.lst 5 (List.map Gq6.lv p1)),(2,.I p2),(3,.I p3)]) (ml:=[]) R R R R) (LH.seqT [(1,.lst 5 (List.map Gq6.lv p1)),(2,.I p2),(3,.I p3),(4,.sptr [.I p0.Kind,.I p0.Least,.I p0.Extra,.I p0.Needs])] [] R (sB (oBxR R R R R (sAb R zS))) (LH.seq (LH.seqT [(2,.I p2),(3,.I p3),(4,.sptr [.I p0.Kind,.I p0.Least,.I p0.Extra,.I p0.Needs]),(11,.lst 5 (List.map Gq6.lv p1)),(12,.I (p1.length:Int)),(13,.I 0)] [] R (sMl R (sN (oLnL (f:=Gq6.lv) te32 R (sMi R zS)))) (LH.block (LH.loop (fun n e m=>∃ (n1:Int),q25q p0 p1 p2 p3 n n1=some r∧e=Env.of [(2,.I p2),(3,.I p3),(4,.sptr [.I p0.Kind,.I p0.Least,.I p0.Extra,.I p0.Needs]),(11,.lst 5 (List.map Gq6.lv p1)),(12,.I (p1.length:Int)),(13,.I n1)]∧m=Mem.of []) F ⟨0,h,R,R⟩ ?_))))))
  clear h
  rintro n e m ⟨n1,h,rfl,rfl⟩
  rcases n with _ | n
  · cases (show Option.none=some _ from h)
  obtain ⟨rec1,hrec1⟩:∃ f,f=q25q p0 p1 p2 p3 n:=⟨_,rfl⟩
  replace h:q26q p0 p1 p2 p3 rec1 n1=some r:=hrec1 ▸ h
  unfold q26q at h
  refine LH.seqT [(2,.I p2),(3,.I p3),(4,.sptr [.I p0.Kind,.I p0.Least,.I p0.Extra,.I p0.Needs]),(11,.lst 5 (List.map Gq6.lv p1)),(12,.I (p1.length:Int)),(13,.I n1),(14,.bool (decide (n1<(p1.length:Int))))] [] R (sN (oLt R R zS)) (LH.seq (LH.cond (t:=(decide (n1<(p1.length:Int)))) R (fun hc2=>?_) (fun hc2=>?_)))
  ·replace h:=iteT h hc2
   refine LH.skip (thenN (LH.wk (Wk.eq (el:=[(2,.I p2),(3,.I p3),(4,.sptr [.I p0.Kind,.I p0.Least,.I p0.Extra,.I p0.Needs]),(11,.lst 5 (List.map Gq6.lv p1)),(12,.I (p1.length:Int)),(13,.I n1)]) (ml:=[]) R R R R) (LH.seq (LH.block ?_))))
   obtain ⟨x3,hx3,h⟩:=bindS h
   refine LH.seqT [(2,.I p2),(3,.I p3),(4,.sptr [.I p0.Kind,.I p0.Least,.I p0.Extra,.I p0.Needs]),(10,.sptr (Gq6.lv x3).cells),(11,.lst 5 (List.map Gq6.lv p1)),(12,.I (p1.length:Int)),(13,.I n1)] [] R (sN (oIx (f:=Gq6.lv) te32 tk46 ts46 R R Gq6.ok hx3 R (sN (oLdA R tk46 ta46 ts46 R R (sN (oAl (id:=110) R tz46 R R (s_ (oSt R R R tk46 ts46 R R R (s0 ((Wk.trans (Wk.eq (el:=[(2,.I p2),(3,.I p3),(4,.sptr [.I p0.Kind,.I p0.Least,.I p0.Extra,.I p0.Needs]),(10,.ptr 110 0),(11,.lst 5 (List.map Gq6.lv p1)),(12,.I (p1.length:Int)),(13,.I n1)]) (ml:=[(110,.box (Gq6.lv x3).cells)]) R R R R) (Wk.trans (Wk.frzB 110 (Gq6.lv x3).cells R R R (prN R)) (Wk.eq R R R R))))))))))))) (LH.seq ?_)
   obtain ⟨w5,hv,h⟩:=bindS h
   refine LH.seqT [(2,.I p2),(3,.I p3),(4,.sptr [.I p0.Kind,.I p0.Least,.I p0.Extra,.I p0.Needs]),(10,.sptr (Gq6.lv x3).cells),(11,.lst 5 (List.map Gq6.lv p1)),(12,.I (p1.length:Int)),(13,.I n1),(44,.bool w5)] [] R ?_ ?_
   ·refine sN (oFaS tf46_0 tk3 ts3 R R R (sN (oLd R tk3 ta3 (sMi R (sN (oNe R R (sMb R ?_)))))))
    by_cases hb6:(x3.Candidate != p2)=true
    ·replace hv:=iteT hv hb6
     refine sF R R hb6 (sF R R hb6 (sF R R hb6 (sF R R hb6 (sN (oPkT (cB hb6) (v:=(.bool _)) R (sMb R (sF R R R (sF R R R (sF R R R (sF R R R (sN (oPkT R (v:=(.bool _)) R (sMb R (sF R R R (sF R R R (sF R R R (sF R R R (sN (oPkT R (v:=(.bool _)) R (sMb R (sF R R R (sF R R R (sF R R R (sF R R R (sN (oPkT R (v:=(.bool _)) R ?_))))))))))))))))))))))))))
     obtain rfl:=oI hv
     exact zS
    ·replace hb6:=bF hb6
     replace hv:=iteF hv hb6
     refine sT R (cB hb6) (oFaS tf46_1 tk3 ts3 R R R (sT R (cB hb6) (oLd R tk3 ta3 ?_)))
     obtain ⟨r7,hr7,hv⟩:=bindS hv
     refine sT R (cB hb6) (oCP (args:=[.I x3.Kind]) R isF99 R (sbR sbN) (q123q hr7) R (sT R (cB hb6) (oNot R (sN (oPkF (cB hb6) (v:=(.bool _)) R (sMb R ?_))))))
     by_cases hb8:(!r7)=true
     ·replace hv:=iteT hv hb8
      refine sF R R hb8 (sF R R hb8 (sF R R hb8 (sF R R hb8 (sN (oPkT (cB hb8) (v:=(.bool _)) R (sMb R (sF R R R (sF R R R (sF R R R (sF R R R (sN (oPkT R (v:=(.bool _)) R (sMb R (sF R R R (sF R R R (sF R R R (sF R R R (sN (oPkT R (v:=(.bool _)) R ?_)))))))))))))))))))
      obtain rfl:=oI hv
      exact zS
     ·replace hb8:=bF hb8
      replace hv:=iteF hv hb8
      refine sT R (cB hb8) (oFaS tf46_2 tk3 ts3 R R R (sT R (cB hb8) (oLd R tk3 ta3 ?_)))
      obtain ⟨r9,hr9,hv⟩:=bindS hv
      refine sT R (cB hb8) (oCP (args:=[.I x3.Level]) R isF99 R (sbR sbN) (q123q hr9) R (sT R (cB hb8) (oNot R (sN (oPkF (cB hb8) (v:=(.bool _)) R (sMb R ?_))))))
      by_cases hb10:(!r9)=true
      ·replace hv:=iteT hv hb10
       refine sF R R hb10 (sF R R hb10 (sF R R hb10 (sF R R hb10 (sN (oPkT (cB hb10) (v:=(.bool _)) R (sMb R (sF R R R (sF R R R (sF R R R (sF R R R (sN (oPkT R (v:=(.bool _)) R ?_))))))))))))
       obtain rfl:=oI hv
       exact zS
      ·replace hb10:=bF hb10
       replace hv:=iteF hv hb10
       refine sT R (cB hb10) (oFaS tf46_3 tk3 ts3 R R R (sT R (cB hb10) (oLd R tk3 ta3 (sT R (cB hb10) (oM (v:=(.int _ _)) R (sT R (cB hb10) (oGt R R (sN (oPkF (cB hb10) (v:=(.bool _)) R (sMb R ?_))))))))))
       by_cases hb11:(decide (x3.From > p3))=true
       ·replace hv:=iteT hv hb11
        refine sF R R hb11 (sF R R hb11 (sF R R hb11 (sF R R hb11 (sN (oPkT (cB hb11) (v:=(.bool _)) R ?_)))))
        obtain rfl:=oI hv
        exact zS
       ·replace hb11:=bF hb11
        replace hv:=iteF hv hb11
        refine sT R (cB hb11) (oM (v:=(.int _ _)) R (sT R (cB hb11) (oFaS tf46_4 tk3 ts3 R R R (sT R (cB hb11) (oLd R tk3 ta3 (sT R (cB hb11) (oGt R R (sN (oPkF (cB hb11) (v:=(.bool _)) R ?_)))))))))
        obtain rfl:=oI hv
        exact zS
   clear hv
   refine LH.cond (t:=w5) R (fun hc12=>?_) (fun hc12=>?_)
   ·replace h:=iteT h hc12
    refine LH.exit (thenX (blockH (thenN (LH.loneT [(2,.I p2),(3,.I p3),(4,.sptr [.I p0.Kind,.I p0.Least,.I p0.Extra,.I p0.Needs]),(11,.lst 5 (List.map Gq6.lv p1)),(12,.I (p1.length:Int)),(13,.I (i64 (n1+1)))] [] R (sN (oAdd R R (sMi R zS))) ?_))))
    exact roundI ⟨(i64 (n1+1)),hrec1 ▸ h,R,R⟩ (Wk.eq R R R R)
   replace h:=iteF h hc12
   refine LH.skip (thenN (LH.seqT [(2,.I p2),(3,.I p3),(4,.sptr [.I p0.Kind,.I p0.Least,.I p0.Extra,.I p0.Needs]),(11,.lst 5 (List.map Gq6.lv p1)),(12,.I (p1.length:Int)),(13,.I n1),(56,.bool ((x3.Kind == p0.Kind) && (decide (x3.Level ≥ p0.Least))))] [] R ?_ ?_))
   ·refine sN (oFaS tf46_1 tk3 ts3 R R R (sN (oLd R tk3 ta3 (sN (oFaS tf134_0 tk3 ts3 R R R (sN (oLd R tk3 ta3 (sN (oEq R R (sMb R ?_))))))))))
    by_cases hb14:(x3.Kind == p0.Kind)=true
    ·exact sT R (cB hb14) (oFaS tf46_2 tk3 ts3 R R R (sT R (cB hb14) (oLd R tk3 ta3 (sT R (cB hb14) (oFaS tf134_1 tk3 ts3 R R R (sT R (cB hb14) (oLd R tk3 ta3 (sT R (cB hb14) (oGe R R (sN (oPkT (cB hb14) (v:=(.bool _)) R (s0 (Wk.to (eC R (eC R (eC R (eC R (eC R (eC R (eC (cB (andT hb14)) eN))))))) mN R (prK R))))))))))))))
    ·replace hb14:=bF hb14
     exact sF R R hb14 (sF R R hb14 (sF R R hb14 (sF R R hb14 (sF R R hb14 (sN (oPkF (cB hb14) (v:=(.bool _)) R (s0 (Wk.to (eC R (eC R (eC R (eC R (eC R (eC R (eC (cB (andF hb14)) eN))))))) mN R (prK R)))))))))
   refine LH.cond (t:=((x3.Kind == p0.Kind) && (decide (x3.Level ≥ p0.Least)))) R (fun hc15=>?_) (fun hc15=>?_)
   ·replace h:=iteT h hc15
    refine LH.seqT [(8,.bool true)] [] R (sAb R zS) (LH.ret (blockR (thenR (roundR (blockR (thenR ?_))))))
    obtain rfl:=oI h
    exact retE (aT Tryz.results101) (lrT R (lr0 ⟨memN mN,R,prK R,Sub.rfl⟩))
   replace h:=iteF h hc15
   refine LH.skip (blockN (thenN (LH.loneT [(2,.I p2),(3,.I p3),(4,.sptr [.I p0.Kind,.I p0.Least,.I p0.Extra,.I p0.Needs]),(11,.lst 5 (List.map Gq6.lv p1)),(12,.I (p1.length:Int)),(13,.I (i64 (n1+1)))] [] R (sN (oAdd R R (sMi R zS))) ?_)))
   exact roundI ⟨(i64 (n1+1)),hrec1 ▸ h,R,R⟩ (Wk.eq R R R R)
  replace h:=iteF h hc2
  refine LH.exit (thenX (roundX (blockH (thenN (LH.seqT [(8,.bool false)] [] R (sAb R zS) (LH.ret ?_))))))
  obtain rfl:=oI h
  exact retE (aT Tryz.results101) (lrT R (lr0 ⟨memN mN,R,prK R,Sub.rfl⟩))

theorem q185q {F:Nat} {p0:List Gq1} {p1:List Gq6} {p2:Int} {p3:Int} {r:List Int} (h:q102q F p0 p1 p2 p3=some r):LCall Tryz.prog 50 [.lst 4 (List.map Gq1.lv p0),.lst 5 (List.map Gq6.lv p1),.I p2,.I p3] (Mem.of []) (.L r) (Mem.of []):=by
  unfold q102q at h
  refine bodyT Tryz.func50 R (nT Tryz.ntmps50 R) (LH.wk (Wk.eq (el:=[(0,.lst 4 (List.map Gq1.lv p0)),(1,.lst 5 (List.map Gq6.lv p1)),(2,.I p2),(3,.I p3)]) (ml:=[]) R R R R) (LH.seqT [(0,.lst 4 (List.map Gq1.lv p0)),(1,.lst 5 (List.map Gq6.lv p1)),(2,.I p2),(3,.I p3)] [] R (sAn R zS) (LH.seq ?_)))
  obtain ⟨r1,hr1,h⟩:=bindS h
  refine LH.seqT [(0,.lst 4 (List.map Gq1.lv p0)),(1,.lst 5 (List.map Gq6.lv p1)),(2,.I p2),(3,.I p3),(14,.bool (r1 != 0))] [] R (sMl R (sN (oCP (args:=[.lst 4 (List.map Gq1.lv p0)]) R isF49 R (sbR sbN) (q167q hr1) R (sN (oNe R R zS))))) (LH.cond (t:=(r1 != 0)) R (fun hc2=>?_) (fun hc2=>?_))
  ·replace h:=iteT h hc2
   refine LH.seqT [(8,.nil)] [] R (sAn R zS) (LH.ret (thenR ?_))
   obtain rfl:=oI h
   exact retE (aT Tryz.results50) (lrT R (lr0 ⟨memN mN,R,prK R,Sub.nil⟩))
  replace h:=iteF h hc2
  refine LH.skip (thenN (LH.seqT [(0,.lst 4 (List.map Gq1.lv p0)),(1,.lst 5 (List.map Gq6.lv p1)),(2,.I p2),(3,.I p3),(9,.nil)] [] R (sAn R zS) (LH.seq (LH.seqT [(1,.lst 5 (List.map Gq6.lv p1)),(2,.I p2),(3,.I p3),(9,.nil),(15,.lst 4 (List.map Gq1.lv p0)),(16,.I (p0.length:Int)),(17,.I 0)] [] R (sMl R (sN (oLnL (f:=Gq1.lv) te30 R (sMi R zS)))) (LH.block (LH.wk ((Wk.trans (Wk.eq (el:=[(1,.lst 5 (List.map Gq6.lv p1)),(2,.I p2),(3,.I p3),(9,.nil),(15,.lst 4 (List.map Gq1.lv p0)),(16,.I (p0.length:Int)),(17,.I 0)]) (ml:=[]) R R R R) (Wk.trans (Wk.eq (el:=[(1,.lst 5 (List.map Gq6.lv p1)),(2,.I p2),(3,.I p3),(9,.nil),(15,.lst 4 (List.map Gq1.lv p0)),(16,.I (p0.length:Int)),(17,.I 0)]) (ml:=[]) R R R R) (Wk.trans (Wk.ownL (el':=[(1,.lst 5 (List.map Gq6.lv p1)),(2,.I p2),(3,.I p3),(9,.arr 130 (List.length ([]:List Int))),(15,.lst 4 (List.map Gq1.lv p0)),(16,.I (p0.length:Int)),(17,.I 0)]) 130 3 1 R R (wK (wK (wK (wO (wK (wK (wK wN)))))))) (Wk.eq (el:=[(1,.lst 5 (List.map Gq6.lv p1)),(2,.I p2),(3,.I p3),(9,.arr 130 (List.length ([]:List Int))),(15,.lst 4 (List.map Gq1.lv p0)),(16,.I (p0.length:Int)),(17,.I 0)]) (ml:=[(130,.arr 3 1 (List.map LV.I ([]:List Int)))]) R R R R))))) (LH.loop (fun n e m=>∃ (n3:Int) (l4:List Int),q19q F p0 p1 p2 p3 n n3 l4=some r∧e=Env.of [(1,.lst 5 (List.map Gq6.lv p1)),(2,.I p2),(3,.I p3),(9,.arr 130 (List.length l4)),(15,.lst 4 (List.map Gq1.lv p0)),(16,.I (p0.length:Int)),(17,.I n3)]∧m=Mem.of [(130,.arr 3 1 (List.map LV.I l4))]) F ⟨0,([]:List Int),h,R,R⟩ ?_)))))))
  clear h
  rintro n e m ⟨n3,l4,h,rfl,rfl⟩
  rcases n with _ | n
  · cases (show Option.none=some _ from h)
  obtain ⟨rec1,hrec1⟩:∃ f,f=q19q F p0 p1 p2 p3 n:=⟨_,rfl⟩
  replace h:q18q F p0 p1 p2 p3 rec1 n3 l4=some r:=hrec1 ▸ h
  unfold q18q at h
  refine LH.seqT [(1,.lst 5 (List.map Gq6.lv p1)),(2,.I p2),(3,.I p3),(9,.arr 130 (List.length l4)),(15,.lst 4 (List.map Gq1.lv p0)),(16,.I (p0.length:Int)),(17,.I n3),(18,.bool (decide (n3<(p0.length:Int))))] [(130,.arr 3 1 (List.map LV.I l4))] R (sN (oLt R R zS)) (LH.seq (LH.cond (t:=(decide (n3<(p0.length:Int)))) R (fun hc5=>?_) (fun hc5=>?_)))
  ·replace h:=iteT h hc5
   refine LH.skip (thenN (LH.wk (Wk.eq (el:=[(1,.lst 5 (List.map Gq6.lv p1)),(2,.I p2),(3,.I p3),(9,.arr 130 (List.length l4)),(15,.lst 4 (List.map Gq1.lv p0)),(16,.I (p0.length:Int)),(17,.I n3)]) (ml:=[(130,.arr 3 1 (List.map LV.I l4))]) R R R R) (LH.seq (LH.block ?_))))
   obtain ⟨x6,hx6,h⟩:=bindS h
   refine LH.seqT [(1,.lst 5 (List.map Gq6.lv p1)),(2,.I p2),(3,.I p3),(9,.arr 130 (List.length l4)),(10,.I n3),(11,.sptr [.I x6.Kind,.I x6.Least,.I x6.Extra,.I x6.Needs]),(15,.lst 4 (List.map Gq1.lv p0)),(16,.I (p0.length:Int)),(17,.I n3)] [(130,.arr 3 1 (List.map LV.I l4))] R (sMi R (sN (oIx (f:=Gq1.lv) te30 tk134 ts134 R R Gq1.ok hx6 R (sN (oLdA R tk134 ta134 ts134 R R (sN (oAl (id:=111) R tz134 R R (sAi R (s_ (oSt R R R tk134 ts134 R R R (s0 ((Wk.trans (Wk.eq (el:=[(1,.lst 5 (List.map Gq6.lv p1)),(2,.I p2),(3,.I p3),(9,.arr 130 (List.length l4)),(10,.I n3),(11,.ptr 111 0),(15,.lst 4 (List.map Gq1.lv p0)),(16,.I (p0.length:Int)),(17,.I n3)]) (ml:=[(111,.box [.I x6.Kind,.I x6.Least,.I x6.Extra,.I x6.Needs]),(130,.arr 3 1 (List.map LV.I l4))]) R R R R) (Wk.trans (Wk.frzB 111 [.I x6.Kind,.I x6.Least,.I x6.Extra,.I x6.Needs] R R R (prN R)) (Wk.eq R R R R))))))))))))))) ?_
   obtain ⟨r7,hr7,h⟩:=bindS h
   refine LH.seqT [(1,.lst 5 (List.map Gq6.lv p1)),(2,.I p2),(3,.I p3),(9,.arr 130 (List.length l4)),(10,.I n3),(15,.lst 4 (List.map Gq1.lv p0)),(16,.I (p0.length:Int)),(17,.I n3),(26,.bool r7)] [(130,.arr 3 1 (List.map LV.I l4))] R (sN (oLdA R tk134 ta134 ts134 R R (sMl R (sMi R (sMi R (sN (oCP (args:=[.agg [.I x6.Kind,.I x6.Least,.I x6.Extra,.I x6.Needs],.lst 5 (List.map Gq6.lv p1),.I p2,.I p3]) R isF101 R (sbR (sbR (sbR (sbR sbN)))) (q186q hr7) R zS))))))) (LH.cond (t:=r7) R (fun hc8=>?_) (fun hc8=>?_))
   ·replace h:=iteT h hc8
    obtain ⟨v9,hv9,h⟩:=bindS h
    refine LH.loneT [(1,.lst 5 (List.map Gq6.lv p1)),(2,.I p2),(3,.I p3),(9,.arr 130 (List.length v9)),(15,.lst 4 (List.map Gq1.lv p0)),(16,.I (p0.length:Int)),(17,.I n3)] [(130,.arr 3 1 (List.map LV.I v9))] R (sMa R (sMi R (sN (oBS (f:=LV.I) (ys:=[n3]) te22 tr3 ts3 R R R okI (sN (oAp (f:=LV.I) te22 tr3 ts3 R R (prN R) R hv9 (sAa R zS))))))) (blockN (thenN (LH.loneT [(1,.lst 5 (List.map Gq6.lv p1)),(2,.I p2),(3,.I p3),(9,.arr 130 (List.length v9)),(15,.lst 4 (List.map Gq1.lv p0)),(16,.I (p0.length:Int)),(17,.I (i64 (n3+1)))] [(130,.arr 3 1 (List.map LV.I v9))] R (sN (oAdd R R (sMi R zS))) ?_)))
    exact roundI ⟨(i64 (n3+1)),v9,hrec1 ▸ h,R,R⟩ (Wk.eq R R R R)
   replace h:=iteF h hc8
   refine LH.skip (blockN (thenN (LH.loneT [(1,.lst 5 (List.map Gq6.lv p1)),(2,.I p2),(3,.I p3),(9,.arr 130 (List.length l4)),(15,.lst 4 (List.map Gq1.lv p0)),(16,.I (p0.length:Int)),(17,.I (i64 (n3+1)))] [(130,.arr 3 1 (List.map LV.I l4))] R (sN (oAdd R R (sMi R zS))) ?_)))
   exact roundI ⟨(i64 (n3+1)),l4,hrec1 ▸ h,R,R⟩ (Wk.eq R R R R)
  replace h:=iteF h hc5
  refine LH.exit (thenX (roundX (blockH (thenN (LH.wk ((Wk.trans (Wk.eq (el:=[(9,.arr 130 (List.length l4))]) (ml:=[(130,.arr 3 1 (List.map LV.I l4))]) R R R R) (Wk.trans (Wk.frzL (f:=LV.I) (el':=[(9,.L l4)]) 130 3 1 l4 R R (prN R) (fZ fN)) (Wk.eq (el:=[(9,.L l4)]) (ml:=[]) R R R R)))) (LH.seqT [(8,.L l4)] [] R (sMl R (sAl R zS)) (LH.ret ?_)))))))
  obtain rfl:=oI h
  exact retE (aT Tryz.results50) (lrT R (lr0 ⟨memN mN,R,prK R,Sub.rfl⟩))

theorem q189q {F:Nat} {p0:List Gq0} {r:Gq0} (h:q149q F p0=some r):LCall Tryz.prog 52 [.lst 2 (List.map Gq0.lv p0)] (Mem.of []) (.agg [.I r.Extra,.I r.Needs]) (Mem.of []):=by
  unfold q149q at h
  refine bodyT Tryz.func52 R (nT Tryz.ntmps52 R) (LH.wk (Wk.eq (el:=[(0,.lst 2 (List.map Gq0.lv p0))]) (ml:=[]) R R R R) (LH.seqT [(0,.lst 2 (List.map Gq0.lv p0)),(2,.ptr 102 0)] [(102,.box [.I 0,.I 0])] R (sN (oAl (id:=102) R tz54 R R zS)) (LH.seqT [(0,.lst 2 (List.map Gq0.lv p0)),(2,.ptr 102 0),(3,.ptr 103 0)] [(102,.box [.I 0,.I 0]),(103,.box [.I 0,.I 0])] R (sN (oAl (id:=103) R tz54 R R zS)) (LH.seq (LH.seqT [(2,.ptr 102 0),(3,.ptr 103 0),(6,.lst 2 (List.map Gq0.lv p0)),(7,.I (p0.length:Int)),(8,.I 0)] [(102,.box [.I 0,.I 0]),(103,.box [.I 0,.I 0])] R (sMl R (sN (oLnL (f:=Gq0.lv) te145 R (sMi R zS)))) (LH.block (LH.loop (fun n e m=>∃ (n1:Int) (n2:Int) (n3:Int),q110q p0 n n1 n2 n3=some r∧e=Env.of [(2,.ptr 102 0),(3,.ptr 103 0),(6,.lst 2 (List.map Gq0.lv p0)),(7,.I (p0.length:Int)),(8,.I n1)]∧m=Mem.of [(102,.box [.I 0,.I 0]),(103,.box [.I n2,.I n3])]) F ⟨0,0,0,h,R,R⟩ ?_)))))))
  clear h
  rintro n e m ⟨n1,n2,n3,h,rfl,rfl⟩
  rcases n with _ | n
  · cases (show Option.none=some _ from h)
  obtain ⟨rec1,hrec1⟩:∃ f,f=q110q p0 n:=⟨_,rfl⟩
  replace h:q63q p0 rec1 n1 n2 n3=some r:=hrec1 ▸ h
  unfold q63q at h
  refine LH.seqT [(2,.ptr 102 0),(3,.ptr 103 0),(6,.lst 2 (List.map Gq0.lv p0)),(7,.I (p0.length:Int)),(8,.I n1),(9,.bool (decide (n1<(p0.length:Int))))] [(102,.box [.I 0,.I 0]),(103,.box [.I n2,.I n3])] R (sN (oLt R R zS)) (LH.seq (LH.cond (t:=(decide (n1<(p0.length:Int)))) R (fun hc4=>?_) (fun hc4=>?_)))
  ·replace h:=iteT h hc4
   refine LH.skip (thenN (LH.wk (Wk.eq (el:=[(2,.ptr 102 0),(3,.ptr 103 0),(6,.lst 2 (List.map Gq0.lv p0)),(7,.I (p0.length:Int)),(8,.I n1)]) (ml:=[(102,.box [.I 0,.I 0]),(103,.box [.I n2,.I n3])]) R R R R) (LH.seq (LH.block ?_))))
   obtain ⟨x5,hx5,h⟩:=bindS h
   refine LH.seqT [(2,.ptr 102 0),(3,.ptr 103 0),(5,.sptr [.I x5.Extra,.I x5.Needs]),(6,.lst 2 (List.map Gq0.lv p0)),(7,.I (p0.length:Int)),(8,.I n1)] [(102,.box [.I 0,.I 0]),(103,.box [.I n2,.I n3])] R (sN (oIx (f:=Gq0.lv) te145 tk54 ts54 R R Gq0.ok hx5 R (sN (oLdA R tk54 ta54 ts54 R R (sN (oAl (id:=105) R tz54 R R (s_ (oSt R R R tk54 ts54 R R R (s0 ((Wk.trans (Wk.eq (el:=[(2,.ptr 102 0),(3,.ptr 103 0),(5,.ptr 105 0),(6,.lst 2 (List.map Gq0.lv p0)),(7,.I (p0.length:Int)),(8,.I n1)]) (ml:=[(102,.box [.I 0,.I 0]),(103,.box [.I n2,.I n3]),(105,.box [.I x5.Extra,.I x5.Needs])]) R R R R) (Wk.trans (Wk.frzB 105 [.I x5.Extra,.I x5.Needs] R R R (prN R)) (Wk.eq R R R R))))))))))))) (LH.seqT [(2,.ptr 102 0),(3,.ptr 103 0),(5,.sptr [.I x5.Extra,.I x5.Needs]),(6,.lst 2 (List.map Gq0.lv p0)),(7,.I (p0.length:Int)),(8,.I n1)] [(102,.box [.I 0,.I 0]),(103,.box [.I (max n2 x5.Extra),.I n3])] R (sN (oFa tf54_0 tk3 ts3 R R (sN (oLdP R R R R tk3 ta3 (sN (oFaS tf54_0 tk3 ts3 R R R (sN (oLd R tk3 ta3 (sX ((ok_max R R).ok) (sN (oFa tf54_0 tk3 ts3 R R (s_ (oSt R R R tk3 ts3 R R R zS))))))))))))) (LH.loneT [(2,.ptr 102 0),(3,.ptr 103 0),(6,.lst 2 (List.map Gq0.lv p0)),(7,.I (p0.length:Int)),(8,.I n1)] [(102,.box [.I 0,.I 0]),(103,.box [.I (max n2 x5.Extra),.I (orI .i64 n3 x5.Needs)])] R (sN (oFa tf54_1 tk3 ts3 R R (sN (oLdP R R R R tk3 ta3 (sN (oFaS tf54_1 tk3 ts3 R R R (sN (oLd R tk3 ta3 (sX ((ok_or R R).ok) (sN (oFa tf54_1 tk3 ts3 R R (s_ (oSt R R R tk3 ts3 R R R zS))))))))))))) (blockN (thenN (LH.loneT [(2,.ptr 102 0),(3,.ptr 103 0),(6,.lst 2 (List.map Gq0.lv p0)),(7,.I (p0.length:Int)),(8,.I (i64 (n1+1)))] [(102,.box [.I 0,.I 0]),(103,.box [.I (max n2 x5.Extra),.I (orI .i64 n3 x5.Needs)])] R (sN (oAdd R R (sMi R zS))) ?_)))))
   exact roundI ⟨(i64 (n1+1)),(max n2 x5.Extra),(orI .i64 n3 x5.Needs),hrec1 ▸ h,R,R⟩ (Wk.eq R R R R)
  replace h:=iteF h hc4
  refine LH.exit (thenX (roundX (blockH (thenN (LH.wk ((Wk.trans (Wk.eq (el:=[(2,.ptr 102 0),(3,.ptr 103 0)]) (ml:=[(102,.box [.I 0,.I 0]),(103,.box [.I n2,.I n3])]) R R R R) (Wk.trans (Wk.frzB 103 [.I n2,.I n3] R R R (prN R)) (Wk.eq (el:=[(2,.ptr 102 0),(3,.sptr [.I n2,.I n3])]) (ml:=[(102,.box [.I 0,.I 0])]) R R R R)))) (LH.seqT [(2,.sptr [.I n2,.I n3])] [] R (sN (oLdA R tk54 ta54 ts54 R R (s_ (oSt R R R tk54 ts54 R R R (s0 ((Wk.trans (Wk.eq (el:=[(2,.ptr 102 0)]) (ml:=[(102,.box [.I n2,.I n3])]) R R R R) (Wk.trans (Wk.frzB 102 [.I n2,.I n3] R R R (prN R)) (Wk.eq R R R R))))))))) (LH.ret ?_)))))))
  obtain rfl:=oI h
  exact retE (aT Tryz.results52) (lrSA R tk54 ta54 ts54 R R (lr0 ⟨memN mN,R,prK R,Sub.rfl⟩))

theorem q196q {p0:Gq0} {r:Gq0} (h:q141q p0=some r):LCall Tryz.prog 51 [.agg [.I p0.Extra,.I p0.Needs]] (Mem.of []) (.agg [.I r.Extra,.I r.Needs]) (Mem.of []):=by
  unfold q141q at h
  refine bodyT Tryz.func51 R (nT Tryz.ntmps51 R) (LH.wk (Wk.eq (el:=[(0,.agg [.I p0.Extra,.I p0.Needs])]) (ml:=[]) R R R R) (LH.seqT [(1,.ptr 101 0),(2,.ptr 102 0)] [(101,.box [.I p0.Extra,.I p0.Needs]),(102,.box [.I 0,.I 0])] R (sN (oBx (id:=101) R R R R R R (sN (oAl (id:=102) R tz54 R R zS)))) (LH.seq ?_)))
  obtain ⟨r1,hr1,h⟩:=bindS h
  refine LH.seqT [(1,.ptr 101 0),(2,.ptr 102 0),(5,.bool (!r1))] [(101,.box [.I p0.Extra,.I p0.Needs]),(102,.box [.I 0,.I 0])] R (sN (oLdPA R R R tk54 ta54 ts54 R R (sN (oCP (args:=[.agg [.I p0.Extra,.I p0.Needs]]) R isF100 R (sbR sbN) (q168q hr1) R (sN (oNot R zS)))))) (LH.cond (t:=(!r1)) R (fun hc2=>?_) (fun hc2=>?_))
  ·replace h:=iteT h hc2
   refine LH.seqT [(2,.sptr [.I 0,.I 0])] [] R (sN (oBd (vs:=[]) tu54 tz54 R lf0 (s_ (oSt R R R tk54 ts54 R R R (s0 ((Wk.trans (Wk.eq (el:=[(2,.ptr 102 0)]) (ml:=[(102,.box [.I 0,.I 0])]) R R R R) (Wk.trans (Wk.frzB 102 [.I 0,.I 0] R R R (prN R)) (Wk.eq R R R R))))))))) (LH.ret (thenR ?_))
   obtain rfl:=oI h
   exact retE (aT Tryz.results51) (lrSA R tk54 ta54 ts54 R R (lr0 ⟨memN mN,R,prK R,Sub.rfl⟩))
  replace h:=iteF h hc2
  refine LH.skip (thenN (LH.wk (Wk.eq (el:=[(1,.ptr 101 0),(2,.ptr 102 0)]) (ml:=[(101,.box [.I p0.Extra,.I p0.Needs]),(102,.box [.I 0,.I 0])]) R R R R) (LH.seq (LH.seqT [(1,.ptr 101 0),(2,.ptr 102 0),(15,.bool (((andI .i64 p0.Needs 24) != 0) || (decide (p0.Extra > 25))))] [(101,.box [.I p0.Extra,.I p0.Needs]),(102,.box [.I 0,.I 0])] R ?_ ?_))))
  ·refine sN (oFa tf54_1 tk3 ts3 R R (sN (oLdP R R R R tk3 ta3 (sX ((ok_and R R).ok) (sN (oNe R R (sMb R ?_)))))))
   by_cases hb4:((andI .i64 p0.Needs 24) != 0)=true
   ·exact sF R R hb4 (sF R R hb4 (sF R R hb4 (sN (oPkT (cB hb4) (v:=(.bool _)) R (s0 (Wk.to (eC R (eC R (eC (cB (orT hb4)) eN))) ⟨R,R,trivial⟩ R (prK R)))))))
   ·replace hb4:=bF hb4
    exact sT R (cB hb4) (oFa tf54_0 tk3 ts3 R R (sT R (cB hb4) (oLdP R R R R tk3 ta3 (sT R (cB hb4) (oGt R R (sN (oPkF (cB hb4) (v:=(.bool _)) R (s0 (Wk.to (eC R (eC R (eC (cB (orF hb4)) eN))) ⟨R,R,trivial⟩ R (prK R))))))))))
  refine LH.cond (t:=(((andI .i64 p0.Needs 24) != 0) || (decide (p0.Extra > 25)))) R (fun hc5=>?_) (fun hc5=>?_)
  ·replace h:=iteT h hc5
   refine LH.loneT [(1,.sptr [.I p0.Extra,.I (orI .i64 p0.Needs 1)]),(2,.ptr 102 0)] [(102,.box [.I 0,.I 0])] R (sN (oFa tf54_1 tk3 ts3 R R (sN (oLdP R R R R tk3 ta3 (sX ((ok_or R R).ok) (sN (oFa tf54_1 tk3 ts3 R R (s_ (oSt R R R tk3 ts3 R R R (s0 ((Wk.trans (Wk.eq (el:=[(1,.ptr 101 0),(2,.ptr 102 0)]) (ml:=[(101,.box [.I p0.Extra,.I (orI .i64 p0.Needs 1)]),(102,.box [.I 0,.I 0])]) R R R R) (Wk.trans (Wk.frzB 101 [.I p0.Extra,.I (orI .i64 p0.Needs 1)] R R R (prN R)) (Wk.eq R R R R)))))))))))))) (thenN (LH.seqT [(2,.sptr [.I p0.Extra,.I (orI .i64 p0.Needs 1)])] [] R (sN (oLdA R tk54 ta54 ts54 R R (s_ (oSt R R R tk54 ts54 R R R (s0 ((Wk.trans (Wk.eq (el:=[(2,.ptr 102 0)]) (ml:=[(102,.box [.I p0.Extra,.I (orI .i64 p0.Needs 1)])]) R R R R) (Wk.trans (Wk.frzB 102 [.I p0.Extra,.I (orI .i64 p0.Needs 1)] R R R (prN R)) (Wk.eq R R R R))))))))) (LH.ret ?_)))
   obtain rfl:=oI h
   exact retE (aT Tryz.results51) (lrSA R tk54 ta54 ts54 R R (lr0 ⟨memN mN,R,prK R,Sub.rfl⟩))
  replace h:=iteF h hc5
  refine LH.skip (thenN (LH.wk ((Wk.trans (Wk.eq (el:=[(1,.ptr 101 0),(2,.ptr 102 0)]) (ml:=[(101,.box [.I p0.Extra,.I p0.Needs]),(102,.box [.I 0,.I 0])]) R R R R) (Wk.trans (Wk.frzB 101 [.I p0.Extra,.I p0.Needs] R R R (prN R)) (Wk.eq (el:=[(1,.sptr [.I p0.Extra,.I p0.Needs]),(2,.ptr 102 0)]) (ml:=[(102,.box [.I 0,.I 0])]) R R R R)))) (LH.seqT [(2,.sptr [.I p0.Extra,.I p0.Needs])] [] R (sN (oLdA R tk54 ta54 ts54 R R (s_ (oSt R R R tk54 ts54 R R R (s0 ((Wk.trans (Wk.eq (el:=[(2,.ptr 102 0)]) (ml:=[(102,.box [.I p0.Extra,.I p0.Needs])]) R R R R) (Wk.trans (Wk.frzB 102 [.I p0.Extra,.I p0.Needs] R R R (prN R)) (Wk.eq R R R R))))))))) (LH.ret ?_))))
  obtain rfl:=oI h
  exact retE (aT Tryz.results51) (lrSA R tk54 ta54 ts54 R R (lr0 ⟨memN mN,R,prK R,Sub.rfl⟩))

theorem q195q {F:Nat} {p0:List Gq1} {p1:List Gq6} {p2:Int} {p3:Int} {r:Gq0 × Int} (h:q20q F p0 p1 p2 p3=some r):LCall Tryz.prog 16 [.lst 4 (List.map Gq1.lv p0),.lst 5 (List.map Gq6.lv p1),.I p2,.I p3] (Mem.of []) (.tup [.agg [.I r.1.Extra,.I r.1.Needs],.I r.2]) (Mem.of []):=by
  unfold q20q at h
  refine bodyT Tryz.func16 R (nT Tryz.ntmps16 R) (LH.wk (Wk.eq (el:=[(0,.lst 4 (List.map Gq1.lv p0)),(1,.lst 5 (List.map Gq6.lv p1)),(2,.I p2),(3,.I p3)]) (ml:=[]) R R R R) (LH.seqT [(0,.lst 4 (List.map Gq1.lv p0)),(1,.lst 5 (List.map Gq6.lv p1)),(2,.I p2),(3,.I p3),(8,.ptr 108 0)] [(108,.box [.I 0,.I 0])] R (sN (oAl (id:=108) R tz54 R R (sAi R zS))) (LH.seq ?_)))
  obtain ⟨r1,hr1,h⟩:=bindS h
  refine LH.seqT [(0,.lst 4 (List.map Gq1.lv p0)),(1,.lst 5 (List.map Gq6.lv p1)),(2,.I p2),(3,.I p3),(8,.ptr 108 0),(10,.I r1)] [(108,.box [.I 0,.I 0])] R (sMl R (sN (oCP (args:=[.lst 4 (List.map Gq1.lv p0)]) R isF49 R (sbR sbN) (q167q hr1) R (sAi R zS)))) (LH.seqT [(0,.lst 4 (List.map Gq1.lv p0)),(1,.lst 5 (List.map Gq6.lv p1)),(2,.I p2),(3,.I p3),(8,.ptr 108 0),(10,.I r1),(17,.bool (r1 != 0))] [(108,.box [.I 0,.I 0])] R (sMi R (sN (oNe R R zS))) (LH.cond (t:=(r1 != 0)) R (fun hc2=>?_) (fun hc2=>?_)))
  ·replace h:=iteT h hc2
   refine LH.seqT [(8,.sptr [.I 0,.I 0]),(9,.I r1)] [] R (sN (oBd (vs:=[]) tu54 tz54 R lf0 (sMi R (s_ (oSt R R R tk54 ts54 R R R (sAi R (s0 ((Wk.trans (Wk.eq (el:=[(8,.ptr 108 0),(9,.I r1)]) (ml:=[(108,.box [.I 0,.I 0])]) R R R R) (Wk.trans (Wk.frzB 108 [.I 0,.I 0] R R R (prN R)) (Wk.eq R R R R))))))))))) (LH.ret (thenR ?_))
   obtain rfl:=oI h
   exact retE (aT Tryz.results16) (lrSA R tk54 ta54 ts54 R R (lrT R (lr0 ⟨memN mN,R,prK R,(Sub.tup (sbR (sbR sbN)))⟩)))
  replace h:=iteF h hc2
  refine LH.skip (thenN (LH.seqT [(0,.lst 4 (List.map Gq1.lv p0)),(1,.lst 5 (List.map Gq6.lv p1)),(2,.I p2),(3,.I p3),(8,.ptr 108 0),(11,.nil)] [(108,.box [.I 0,.I 0])] R (sAn R zS) (LH.seq ?_)))
  obtain ⟨r3,hr3,h⟩:=bindS h
  refine LH.seqT [(0,.lst 4 (List.map Gq1.lv p0)),(8,.ptr 108 0),(11,.nil),(24,.L r3),(25,.I (r3.length:Int)),(26,.I 0)] [(108,.box [.I 0,.I 0])] R (sMl R (sMl R (sMi R (sMi R (sN (oCP (args:=[.lst 4 (List.map Gq1.lv p0),.lst 5 (List.map Gq6.lv p1),.I p2,.I p3]) R isF50 R (sbR (sbR (sbR (sbR sbN)))) (q185q hr3) R (sN (oLnL (f:=LV.I) te22 R (sMi R zS))))))))) (LH.block (LH.wk ((Wk.trans (Wk.eq (el:=[(0,.lst 4 (List.map Gq1.lv p0)),(8,.ptr 108 0),(11,.nil),(24,.L r3),(25,.I (r3.length:Int)),(26,.I 0)]) (ml:=[(108,.box [.I 0,.I 0])]) R R R R) (Wk.trans (Wk.eq (el:=[(0,.lst 4 (List.map Gq1.lv p0)),(8,.ptr 108 0),(11,.nil),(24,.L r3),(25,.I (r3.length:Int)),(26,.I 0)]) (ml:=[(108,.box [.I 0,.I 0])]) R R R R) (Wk.trans (Wk.ownL (el':=[(0,.lst 4 (List.map Gq1.lv p0)),(8,.ptr 108 0),(11,.arr 143 (List.length ([]:List Gq0))),(24,.L r3),(25,.I (r3.length:Int)),(26,.I 0)]) 143 54 2 R R (wK (wK (wO (wK (wK (wK wN))))))) (Wk.eq (el:=[(0,.lst 4 (List.map Gq1.lv p0)),(8,.ptr 108 0),(11,.arr 143 (List.length ([]:List Gq0))),(24,.L r3),(25,.I (r3.length:Int)),(26,.I 0)]) (ml:=[(108,.box [.I 0,.I 0]),(143,.arr 54 2 (List.map Gq0.lv ([]:List Gq0)))]) R R R R))))) (LH.loop (fun n e m=>∃ (n4:Int) (l5:List Gq0),q122q F p0 r3 n n4 l5=some r∧e=Env.of [(0,.lst 4 (List.map Gq1.lv p0)),(8,.ptr 108 0),(11,.arr 143 (List.length l5)),(24,.L r3),(25,.I (r3.length:Int)),(26,.I n4)]∧m=Mem.of [(108,.box [.I 0,.I 0]),(143,.arr 54 2 (List.map Gq0.lv l5))]) F ⟨0,([]:List Gq0),h,R,R⟩ ?_)))
  clear h
  rintro n e m ⟨n4,l5,h,rfl,rfl⟩
  rcases n with _ | n
  · cases (show Option.none=some _ from h)
  obtain ⟨rec1,hrec1⟩:∃ f,f=q122q F p0 r3 n:=⟨_,rfl⟩
  replace h:q93q F p0 r3 rec1 n4 l5=some r:=hrec1 ▸ h
  unfold q93q at h
  refine LH.seqT [(0,.lst 4 (List.map Gq1.lv p0)),(8,.ptr 108 0),(11,.arr 143 (List.length l5)),(24,.L r3),(25,.I (r3.length:Int)),(26,.I n4),(27,.bool (decide (n4<(r3.length:Int))))] [(108,.box [.I 0,.I 0]),(143,.arr 54 2 (List.map Gq0.lv l5))] R (sN (oLt R R zS)) (LH.seq (LH.cond (t:=(decide (n4<(r3.length:Int)))) R (fun hc6=>?_) (fun hc6=>?_)))
  ·replace h:=iteT h hc6
   refine LH.skip (thenN (LH.wk (Wk.eq (el:=[(0,.lst 4 (List.map Gq1.lv p0)),(8,.ptr 108 0),(11,.arr 143 (List.length l5)),(24,.L r3),(25,.I (r3.length:Int)),(26,.I n4)]) (ml:=[(108,.box [.I 0,.I 0]),(143,.arr 54 2 (List.map Gq0.lv l5))]) R R R R) (LH.seq (LH.block ?_))))
   obtain ⟨x7,hx7,h⟩:=bindS h
   refine LH.seqT [(0,.lst 4 (List.map Gq1.lv p0)),(8,.ptr 108 0),(11,.arr 143 (List.length l5)),(13,.I x7),(24,.L r3),(25,.I (r3.length:Int)),(26,.I n4)] [(108,.box [.I 0,.I 0]),(143,.arr 54 2 (List.map Gq0.lv l5))] R (sN (oIx (f:=LV.I) te22 tk3 ts3 R R okI hx7 R (sN (oLd R tk3 ta3 (sAi R zS))))) ?_
   obtain ⟨x8,hx8,h⟩:=bindS h
   obtain ⟨x9,hx9,h⟩:=bindS h
   obtain ⟨v10,hv10,h⟩:=bindS h
   refine LH.loneTM mixed [] [0,0,0,0,0,0,0,0,0,0,0,0,0,2,0] [(0,.lst 4 (List.map Gq1.lv p0)),(8,.ptr 108 0),(11,.arr 143 (List.length v10)),(24,.L r3),(25,.I (r3.length:Int)),(26,.I n4)] [(108,.box [.I 0,.I 0]),(143,.arr 54 2 (List.map Gq0.lv v10))] R R (by kernel_rfl) ?_ ?_
   ·exact mMa R (mMl R (mMi R (mN0 (oIx (f:=Gq1.lv) te30 tk134 ts134 R R Gq1.ok hx8 R ⟨R,mN0 (oFaS tf134_2 tk3 ts3 R R R ⟨R,mN0 (oLd R tk3 ta3 ⟨R,mMl R (mMi R (mN0 (oIx (f:=Gq1.lv) te30 tk134 ts134 R R Gq1.ok hx9 R ⟨R,mN0 (oFaS tf134_3 tk3 ts3 R R R ⟨R,mN0 (oLd R tk3 ta3 ⟨R,mN0 (oBd (vs:=[(0,.I x8.Extra),(1,.I x9.Needs)]) tu54 tz54 R (lf tf54_0 ts3 tk3 R R R (lf tf54_1 ts3 tk3 R R R lf0)) ⟨R,mN0 (oBS (f:=Gq0.lv) (ys:=[(Gq0.mk x8.Extra x9.Needs)]) te145 tr54 ts54 R R R Gq0.ok ⟨R,mN2 (oAp (f:=Gq0.lv) te145 tr54 ts54 R R (prN R) R hv10 (mAa R zM))⟩)⟩)⟩)⟩)⟩)))⟩)⟩)⟩))))
   refine blockN (thenN (LH.loneT [(0,.lst 4 (List.map Gq1.lv p0)),(8,.ptr 108 0),(11,.arr 143 (List.length v10)),(24,.L r3),(25,.I (r3.length:Int)),(26,.I (i64 (n4+1)))] [(108,.box [.I 0,.I 0]),(143,.arr 54 2 (List.map Gq0.lv v10))] R (sN (oAdd R R (sMi R zS))) ?_))
   exact roundI ⟨(i64 (n4+1)),v10,hrec1 ▸ h,R,R⟩ (Wk.eq R R R R)
  replace h:=iteF h hc6
  refine LH.exit (thenX (roundX (blockH (thenN (LH.wk ((Wk.trans (Wk.eq (el:=[(8,.ptr 108 0),(11,.arr 143 (List.length l5))]) (ml:=[(108,.box [.I 0,.I 0]),(143,.arr 54 2 (List.map Gq0.lv l5))]) R R R R) (Wk.trans (Wk.frzL (f:=Gq0.lv) (el':=[(8,.ptr 108 0),(11,.lst 2 (List.map Gq0.lv l5))]) 143 54 2 l5 R R (prN R) (fK R (fZ fN))) (Wk.eq (el:=[(8,.ptr 108 0),(11,.lst 2 (List.map Gq0.lv l5))]) (ml:=[(108,.box [.I 0,.I 0])]) R R R R)))) ?_)))))
  obtain ⟨r11,hr11,h⟩:=bindS h
  obtain ⟨r12,hr12,h⟩:=bindS h
  refine LH.seqT [(8,.sptr [.I r12.Extra,.I r12.Needs]),(9,.I 0)] [] R (sMl R (sN (oCP (args:=[.lst 2 (List.map Gq0.lv l5)]) R isF52 R (sbR sbN) (q189q hr11) R (sN (oCP (args:=[.agg [.I r11.Extra,.I r11.Needs]]) R isF51 R (sbR sbN) (q196q hr12) R (s_ (oSt R R R tk54 ts54 R R R (sAi R (s0 ((Wk.trans (Wk.eq (el:=[(8,.ptr 108 0),(9,.I 0)]) (ml:=[(108,.box [.I r12.Extra,.I r12.Needs])]) R R R R) (Wk.trans (Wk.frzB 108 [.I r12.Extra,.I r12.Needs] R R R (prN R)) (Wk.eq R R R R))))))))))))) (LH.ret ?_)
  obtain rfl:=oI h
  exact retE (aT Tryz.results16) (lrSA R tk54 ta54 ts54 R R (lrT R (lr0 ⟨memN mN,R,prK R,(Sub.tup (sbR (sbR sbN)))⟩)))

theorem q142q {p0:Int} {r:Bool} (h:q27q p0=some r):LCall Tryz.prog 102 [.I p0] (Mem.of []) (.bool r) (Mem.of []):=by
  unfold q27q at h
  refine bodyT Tryz.func102 R (nT Tryz.ntmps102 R) (LH.wk (Wk.eq (el:=[(0,.I p0)]) (ml:=[]) R R R R) (LH.seqT [(0,.I p0)] [] R (sAb R zS) (LH.seqT [(2,.bool ((decide (p0 ≥ 2)) && (decide (p0≤4))))] [] R ?_ ?_)))
  ·refine sMi R (sN (oGe R R (sMb R ?_)))
   by_cases hb2:(decide (p0 ≥ 2))=true
   ·exact sT R (cB hb2) (oM (v:=(.int _ _)) R (sT R (cB hb2) (oLe R R (sN (oPkT (cB hb2) (v:=(.bool _)) R (sAb R (s0 (Wk.to (eC (cB (andT hb2)) eN) mN R (prK R)))))))))
   ·replace hb2:=bF hb2
    exact sF R R hb2 (sF R R hb2 (sN (oPkF (cB hb2) (v:=(.bool _)) R (sAb R (s0 (Wk.to (eC (cB (andF hb2)) eN) mN R (prK R)))))))
  refine LH.ret ?_
  obtain rfl:=oI h
  exact retE (aT Tryz.results102) (lrT R (lr0 ⟨memN mN,R,prK R,Sub.rfl⟩))

theorem q163q {p0:Int} {r:Bool} (h:q60q p0=some r):LCall Tryz.prog 103 [.I p0] (Mem.of []) (.bool r) (Mem.of []):=by
  unfold q60q at h
  refine bodyT Tryz.func103 R (nT Tryz.ntmps103 R) (LH.wk (Wk.eq (el:=[(0,.I p0)]) (ml:=[]) R R R R) (LH.seqT [(0,.I p0)] [] R (sAb R zS) (LH.seqT [(2,.bool ((decide (p0 ≥ 1)) && (decide (p0≤8))))] [] R ?_ ?_)))
  ·refine sMi R (sN (oGe R R (sMb R ?_)))
   by_cases hb2:(decide (p0 ≥ 1))=true
   ·exact sT R (cB hb2) (oM (v:=(.int _ _)) R (sT R (cB hb2) (oLe R R (sN (oPkT (cB hb2) (v:=(.bool _)) R (sAb R (s0 (Wk.to (eC (cB (andT hb2)) eN) mN R (prK R)))))))))
   ·replace hb2:=bF hb2
    exact sF R R hb2 (sF R R hb2 (sN (oPkF (cB hb2) (v:=(.bool _)) R (sAb R (s0 (Wk.to (eC (cB (andF hb2)) eN) mN R (prK R)))))))
  refine LH.ret ?_
  obtain rfl:=oI h
  exact retE (aT Tryz.results103) (lrT R (lr0 ⟨memN mN,R,prK R,Sub.rfl⟩))

theorem q152q {p0:Int} {r:Bool} (h:q23q p0=some r):LCall Tryz.prog 104 [.I p0] (Mem.of []) (.bool r) (Mem.of []):=by
  unfold q23q at h
  refine bodyT Tryz.func104 R (nT Tryz.ntmps104 R) (LH.wk (Wk.eq (el:=[(0,.I p0)]) (ml:=[]) R R R R) (LH.seqT [(0,.I p0)] [] R (sAb R zS) (LH.seqT [(2,.bool ((decide (p0 ≥ 0)) && (decide (p0≤63))))] [] R ?_ ?_)))
  ·refine sMi R (sN (oGe R R (sMb R ?_)))
   by_cases hb2:(decide (p0 ≥ 0))=true
   ·exact sT R (cB hb2) (oM (v:=(.int _ _)) R (sT R (cB hb2) (oLe R R (sN (oPkT (cB hb2) (v:=(.bool _)) R (sAb R (s0 (Wk.to (eC (cB (andT hb2)) eN) mN R (prK R)))))))))
   ·replace hb2:=bF hb2
    exact sF R R hb2 (sF R R hb2 (sN (oPkF (cB hb2) (v:=(.bool _)) R (sAb R (s0 (Wk.to (eC (cB (andF hb2)) eN) mN R (prK R)))))))
  refine LH.ret ?_
  obtain rfl:=oI h
  exact retE (aT Tryz.results104) (lrT R (lr0 ⟨memN mN,R,prK R,Sub.rfl⟩))

theorem q134q {p0:GRoom} {r:Int} (h:q38q p0=some r):LCall Tryz.prog 56 [.agg [.I p0.Rows,.I p0.Cols,.I p0.Offers]] (Mem.of []) (.I r) (Mem.of []):=by
  unfold q38q at h
  refine bodyT Tryz.func56 R (nT Tryz.ntmps56 R) (LH.wk (Wk.eq (el:=[(0,.agg [.I p0.Rows,.I p0.Cols,.I p0.Offers])]) (ml:=[]) R R R R) (LH.seqT [(1,.sptr [.I p0.Rows,.I p0.Cols,.I p0.Offers])] [] R (sB (oBxR R R R R (sAi R zS))) (LH.seqT [(2,.I (i64 (p0.Rows * p0.Cols)))] [] R (sN (oFaS tf72_0 tk3 ts3 R R R (sN (oLd R tk3 ta3 (sN (oFaS tf72_1 tk3 ts3 R R R (sN (oLd R tk3 ta3 (sN (oMul R R (sAi R zS))))))))))) (LH.ret ?_))))
  obtain rfl:=oI h
  exact retE (aT Tryz.results56) (lrT R (lr0 ⟨memN mN,R,prK R,Sub.rfl⟩))

theorem q151q {F:Nat} {p0:List GRoom} {p1:List GNeed} {p2:Int} {r:Int} (h:q88q F p0 p1 p2=some r):LCall Tryz.prog 53 [.lst 3 (List.map GRoom.lv p0),.lst 2 (List.map GNeed.lv p1),.I p2] (Mem.of []) (.I r) (Mem.of []):=by
  unfold q88q at h
  refine bodyT Tryz.func53 R (nT Tryz.ntmps53 R) (LH.wk (Wk.eq (el:=[(0,.lst 3 (List.map GRoom.lv p0)),(1,.lst 2 (List.map GNeed.lv p1)),(2,.I p2)]) (ml:=[]) R R R R) (LH.seqT [(0,.lst 3 (List.map GRoom.lv p0)),(1,.lst 2 (List.map GNeed.lv p1)),(2,.I p2)] [] R (sAi R zS) (LH.seq (LH.seqT [(0,.lst 3 (List.map GRoom.lv p0)),(1,.lst 2 (List.map GNeed.lv p1)),(2,.I p2),(21,.bool ((decide ((p0.length:Int) > 8)) || (decide ((p1.length:Int) > 60))))] [] R ?_ ?_))))
  ·refine sMl R (sN (oLnL (f:=GRoom.lv) te34 R (sN (oGt R R (sMb R ?_)))))
   by_cases hb2:(decide ((p0.length:Int) > 8))=true
   ·exact sF R R hb2 (sF R R hb2 (sF R R hb2 (sN (oPkT (cB hb2) (v:=(.bool _)) R (s0 (Wk.to (eC R (eC R (eC R (eC (cB (orT hb2)) eN)))) mN R (prK R)))))))
   ·replace hb2:=bF hb2
    exact sT R (cB hb2) (oM (v:=(.lst _ _)) R (sT R (cB hb2) (oLnL (f:=GNeed.lv) te37 R (sT R (cB hb2) (oGt R R (sN (oPkF (cB hb2) (v:=(.bool _)) R (s0 (Wk.to (eC R (eC R (eC R (eC (cB (orF hb2)) eN)))) mN R (prK R))))))))))
  refine LH.cond (t:=((decide ((p0.length:Int) > 8)) || (decide ((p1.length:Int) > 60)))) R (fun hc3=>?_) (fun hc3=>?_)
  ·replace h:=iteT h hc3
   refine LH.seqT [(6,.I 3)] [] R (sAi R zS) (LH.ret (thenR ?_))
   obtain rfl:=oI h
   exact retE (aT Tryz.results53) (lrT R (lr0 ⟨memN mN,R,prK R,Sub.rfl⟩))
  replace h:=iteF h hc3
  refine LH.skip (thenN (LH.wk (Wk.eq (el:=[(0,.lst 3 (List.map GRoom.lv p0)),(1,.lst 2 (List.map GNeed.lv p1)),(2,.I p2)]) (ml:=[]) R R R R) (LH.seq ?_)))
  obtain ⟨r4,hr4,h⟩:=bindS h
  refine LH.seqT [(0,.lst 3 (List.map GRoom.lv p0)),(1,.lst 2 (List.map GNeed.lv p1)),(24,.bool (!r4))] [] R (sMi R (sN (oCP (args:=[.I p2]) R isF102 R (sbR sbN) (q142q hr4) R (sN (oNot R zS))))) (LH.cond (t:=(!r4)) R (fun hc5=>?_) (fun hc5=>?_))
  ·replace h:=iteT h hc5
   refine LH.seqT [(6,.I 2)] [] R (sAi R zS) (LH.ret (thenR ?_))
   obtain rfl:=oI h
   exact retE (aT Tryz.results53) (lrT R (lr0 ⟨memN mN,R,prK R,Sub.rfl⟩))
  replace h:=iteF h hc5
  refine LH.skip (thenN (LH.wk (Wk.eq (el:=[(0,.lst 3 (List.map GRoom.lv p0)),(1,.lst 2 (List.map GNeed.lv p1))]) (ml:=[]) R R R R) (LH.seq (LH.seqT [(0,.lst 3 (List.map GRoom.lv p0)),(1,.lst 2 (List.map GNeed.lv p1)),(25,.lst 3 (List.map GRoom.lv p0)),(26,.I (p0.length:Int)),(27,.I 0)] [] R (sMl R (sN (oLnL (f:=GRoom.lv) te34 R (sMi R zS)))) (LH.block (LH.loop (fun n e m=>∃ (n6:Int),q53q F p0 p1 n n6=some r∧e=Env.of [(0,.lst 3 (List.map GRoom.lv p0)),(1,.lst 2 (List.map GNeed.lv p1)),(25,.lst 3 (List.map GRoom.lv p0)),(26,.I (p0.length:Int)),(27,.I n6)]∧m=Mem.of []) F ⟨0,h,R,R⟩ ?_))))))
  clear h
  rintro n e m ⟨n6,h,rfl,rfl⟩
  rcases n with _ | n
  · cases (show Option.none=some _ from h)
  obtain ⟨rec1,hrec1⟩:∃ f,f=q53q F p0 p1 n:=⟨_,rfl⟩
  replace h:q64q F p0 p1 rec1 n6=some r:=hrec1 ▸ h
  unfold q64q at h
  refine LH.seqT [(0,.lst 3 (List.map GRoom.lv p0)),(1,.lst 2 (List.map GNeed.lv p1)),(25,.lst 3 (List.map GRoom.lv p0)),(26,.I (p0.length:Int)),(27,.I n6),(28,.bool (decide (n6<(p0.length:Int))))] [] R (sN (oLt R R zS)) (LH.seq (LH.cond (t:=(decide (n6<(p0.length:Int)))) R (fun hc7=>?_) (fun hc7=>?_)))
  ·replace h:=iteT h hc7
   refine LH.skip (thenN (LH.wk (Wk.eq (el:=[(0,.lst 3 (List.map GRoom.lv p0)),(1,.lst 2 (List.map GNeed.lv p1)),(25,.lst 3 (List.map GRoom.lv p0)),(26,.I (p0.length:Int)),(27,.I n6)]) (ml:=[]) R R R R) (LH.seq (LH.block ?_))))
   obtain ⟨x8,hx8,h⟩:=bindS h
   refine LH.seqT [(0,.lst 3 (List.map GRoom.lv p0)),(1,.lst 2 (List.map GNeed.lv p1)),(8,.sptr [.I x8.Rows,.I x8.Cols,.I x8.Offers]),(25,.lst 3 (List.map GRoom.lv p0)),(26,.I (p0.length:Int)),(27,.I n6)] [] R (sN (oIx (f:=GRoom.lv) te34 tk72 ts72 R R GRoom.ok hx8 R (sN (oLdA R tk72 ta72 ts72 R R (sN (oAl (id:=108) R tz72 R R (s_ (oSt R R R tk72 ts72 R R R (s0 ((Wk.trans (Wk.eq (el:=[(0,.lst 3 (List.map GRoom.lv p0)),(1,.lst 2 (List.map GNeed.lv p1)),(8,.ptr 108 0),(25,.lst 3 (List.map GRoom.lv p0)),(26,.I (p0.length:Int)),(27,.I n6)]) (ml:=[(108,.box [.I x8.Rows,.I x8.Cols,.I x8.Offers])]) R R R R) (Wk.trans (Wk.frzB 108 [.I x8.Rows,.I x8.Cols,.I x8.Offers] R R R (prN R)) (Wk.eq R R R R))))))))))))) ?_
   obtain ⟨w10,hv,h⟩:=bindS h
   refine LH.seqT [(0,.lst 3 (List.map GRoom.lv p0)),(1,.lst 2 (List.map GNeed.lv p1)),(25,.lst 3 (List.map GRoom.lv p0)),(26,.I (p0.length:Int)),(27,.I n6),(46,.bool w10)] [] R ?_ ?_
   ·refine sN (oFaS tf72_0 tk3 ts3 R R R (sN (oLd R tk3 ta3 ?_)))
    obtain ⟨r11,hr11,hv⟩:=bindS hv
    refine sN (oCP (args:=[.I x8.Rows]) R isF103 R (sbR sbN) (q163q hr11) R (sN (oNot R (sMb R ?_))))
    by_cases hb12:(!r11)=true
    ·replace hv:=iteT hv hb12
     refine sF R R hb12 (sF R R hb12 (sF R R hb12 (sF R R hb12 (sN (oPkT (cB hb12) (v:=(.bool _)) R (sMb R (sF R R R (sF R R R (sF R R R (sF R R R (sN (oPkT R (v:=(.bool _)) R ?_))))))))))))
     obtain rfl:=oI hv
     exact zS
    ·replace hb12:=bF hb12
     replace hv:=iteF hv hb12
     refine sT R (cB hb12) (oFaS tf72_1 tk3 ts3 R R R (sT R (cB hb12) (oLd R tk3 ta3 ?_)))
     obtain ⟨r13,hr13,hv⟩:=bindS hv
     refine sT R (cB hb12) (oCP (args:=[.I x8.Cols]) R isF103 R (sbR sbN) (q163q hr13) R (sT R (cB hb12) (oNot R (sN (oPkF (cB hb12) (v:=(.bool _)) R (sMb R ?_))))))
     by_cases hb14:(!r13)=true
     ·replace hv:=iteT hv hb14
      refine sF R R hb14 (sF R R hb14 (sF R R hb14 (sF R R hb14 (sN (oPkT (cB hb14) (v:=(.bool _)) R ?_)))))
      obtain rfl:=oI hv
      exact zS
     ·replace hb14:=bF hb14
      replace hv:=iteF hv hb14
      refine sT R (cB hb14) (oFaS tf72_2 tk3 ts3 R R R (sT R (cB hb14) (oLd R tk3 ta3 ?_)))
      obtain ⟨r15,hr15,hv⟩:=bindS hv
      refine sT R (cB hb14) (oCP (args:=[.I x8.Offers]) R isF104 R (sbR sbN) (q152q hr15) R (sT R (cB hb14) (oNot R (sN (oPkF (cB hb14) (v:=(.bool _)) R ?_)))))
      obtain rfl:=oI hv
      exact zS
   clear hv
   refine LH.cond (t:=w10) R (fun hc16=>?_) (fun hc16=>?_)
   ·replace h:=iteT h hc16
    refine LH.seqT [(6,.I 2)] [] R (sAi R zS) (LH.ret (blockR (thenR (roundR (blockR (thenR ?_))))))
    obtain rfl:=oI h
    exact retE (aT Tryz.results53) (lrT R (lr0 ⟨memN mN,R,prK R,Sub.rfl⟩))
   replace h:=iteF h hc16
   refine LH.skip (blockN (thenN (LH.loneT [(0,.lst 3 (List.map GRoom.lv p0)),(1,.lst 2 (List.map GNeed.lv p1)),(25,.lst 3 (List.map GRoom.lv p0)),(26,.I (p0.length:Int)),(27,.I (i64 (n6+1)))] [] R (sN (oAdd R R (sMi R zS))) ?_)))
   exact roundI ⟨(i64 (n6+1)),hrec1 ▸ h,R,R⟩ (Wk.eq R R R R)
  replace h:=iteF h hc7
  refine LH.exit (thenX (roundX (blockH (thenN (LH.wk (Wk.eq (el:=[(0,.lst 3 (List.map GRoom.lv p0)),(1,.lst 2 (List.map GNeed.lv p1))]) (ml:=[]) R R R R) (LH.seq (LH.seqT [(0,.lst 3 (List.map GRoom.lv p0)),(1,.lst 2 (List.map GNeed.lv p1)),(48,.lst 2 (List.map GNeed.lv p1)),(49,.I (p1.length:Int)),(50,.I 0)] [] R (sMl R (sN (oLnL (f:=GNeed.lv) te37 R (sMi R zS)))) (LH.block (LH.loop (fun n e m=>∃ (n17:Int),q54q F p0 p1 n n17=some r∧e=Env.of [(0,.lst 3 (List.map GRoom.lv p0)),(1,.lst 2 (List.map GNeed.lv p1)),(48,.lst 2 (List.map GNeed.lv p1)),(49,.I (p1.length:Int)),(50,.I n17)]∧m=Mem.of []) F ⟨0,h,R,R⟩ ?_)))))))))
  clear h
  rintro n e m ⟨n17,h,rfl,rfl⟩
  rcases n with _ | n
  · cases (show Option.none=some _ from h)
  obtain ⟨rec2,hrec2⟩:∃ f,f=q54q F p0 p1 n:=⟨_,rfl⟩
  replace h:q65q F p0 p1 rec2 n17=some r:=hrec2 ▸ h
  unfold q65q at h
  refine LH.seqT [(0,.lst 3 (List.map GRoom.lv p0)),(1,.lst 2 (List.map GNeed.lv p1)),(48,.lst 2 (List.map GNeed.lv p1)),(49,.I (p1.length:Int)),(50,.I n17),(51,.bool (decide (n17<(p1.length:Int))))] [] R (sN (oLt R R zS)) (LH.seq (LH.cond (t:=(decide (n17<(p1.length:Int)))) R (fun hc18=>?_) (fun hc18=>?_)))
  ·replace h:=iteT h hc18
   refine LH.skip (thenN (LH.wk (Wk.eq (el:=[(0,.lst 3 (List.map GRoom.lv p0)),(1,.lst 2 (List.map GNeed.lv p1)),(48,.lst 2 (List.map GNeed.lv p1)),(49,.I (p1.length:Int)),(50,.I n17)]) (ml:=[]) R R R R) (LH.seq (LH.block ?_))))
   obtain ⟨x19,hx19,h⟩:=bindS h
   refine LH.seqT [(0,.lst 3 (List.map GRoom.lv p0)),(1,.lst 2 (List.map GNeed.lv p1)),(10,.sptr [.I x19.Candidate,.I x19.Needs]),(48,.lst 2 (List.map GNeed.lv p1)),(49,.I (p1.length:Int)),(50,.I n17)] [] R (sN (oIx (f:=GNeed.lv) te37 tk60 ts60 R R GNeed.ok hx19 R (sN (oLdA R tk60 ta60 ts60 R R (sN (oAl (id:=110) R tz60 R R (s_ (oSt R R R tk60 ts60 R R R (s0 ((Wk.trans (Wk.eq (el:=[(0,.lst 3 (List.map GRoom.lv p0)),(1,.lst 2 (List.map GNeed.lv p1)),(10,.ptr 110 0),(48,.lst 2 (List.map GNeed.lv p1)),(49,.I (p1.length:Int)),(50,.I n17)]) (ml:=[(110,.box [.I x19.Candidate,.I x19.Needs])]) R R R R) (Wk.trans (Wk.frzB 110 [.I x19.Candidate,.I x19.Needs] R R R (prN R)) (Wk.eq R R R R))))))))))))) ?_
   obtain ⟨w21,hv,h⟩:=bindS h
   refine LH.seqT [(0,.lst 3 (List.map GRoom.lv p0)),(1,.lst 2 (List.map GNeed.lv p1)),(48,.lst 2 (List.map GNeed.lv p1)),(49,.I (p1.length:Int)),(50,.I n17),(67,.bool w21)] [] R ?_ ?_
   ·refine sN (oFaS tf60_0 tk3 ts3 R R R (sN (oLd R tk3 ta3 (sN (oLt R R (sMb R ?_))))))
    by_cases hb22:(decide (x19.Candidate<0))=true
    ·replace hv:=iteT hv hb22
     refine sF R R hb22 (sF R R hb22 (sF R R hb22 (sN (oPkT (cB hb22) (v:=(.bool _)) R (sMb R (sF R R R (sF R R R (sF R R R (sF R R R (sN (oPkT R (v:=(.bool _)) R ?_)))))))))))
     obtain rfl:=oI hv
     exact zS
    ·replace hb22:=bF hb22
     replace hv:=iteF hv hb22
     refine sT R (cB hb22) (oFaS tf60_0 tk3 ts3 R R R (sT R (cB hb22) (oLd R tk3 ta3 (sT R (cB hb22) (oGt R R (sN (oPkF (cB hb22) (v:=(.bool _)) R (sMb R ?_))))))))
     by_cases hb23:(decide (x19.Candidate > 9999))=true
     ·replace hv:=iteT hv hb23
      refine sF R R hb23 (sF R R hb23 (sF R R hb23 (sF R R hb23 (sN (oPkT (cB hb23) (v:=(.bool _)) R ?_)))))
      obtain rfl:=oI hv
      exact zS
     ·replace hb23:=bF hb23
      replace hv:=iteF hv hb23
      refine sT R (cB hb23) (oFaS tf60_1 tk3 ts3 R R R (sT R (cB hb23) (oLd R tk3 ta3 ?_)))
      obtain ⟨r24,hr24,hv⟩:=bindS hv
      refine sT R (cB hb23) (oCP (args:=[.I x19.Needs]) R isF104 R (sbR sbN) (q152q hr24) R (sT R (cB hb23) (oNot R (sN (oPkF (cB hb23) (v:=(.bool _)) R ?_)))))
      obtain rfl:=oI hv
      exact zS
   clear hv
   refine LH.cond (t:=w21) R (fun hc25=>?_) (fun hc25=>?_)
   ·replace h:=iteT h hc25
    refine LH.seqT [(6,.I 2)] [] R (sAi R zS) (LH.ret (blockR (thenR (roundR (blockR (thenR ?_))))))
    obtain rfl:=oI h
    exact retE (aT Tryz.results53) (lrT R (lr0 ⟨memN mN,R,prK R,Sub.rfl⟩))
   replace h:=iteF h hc25
   refine LH.skip (blockN (thenN (LH.loneT [(0,.lst 3 (List.map GRoom.lv p0)),(1,.lst 2 (List.map GNeed.lv p1)),(48,.lst 2 (List.map GNeed.lv p1)),(49,.I (p1.length:Int)),(50,.I (i64 (n17+1)))] [] R (sN (oAdd R R (sMi R zS))) ?_)))
   exact roundI ⟨(i64 (n17+1)),hrec2 ▸ h,R,R⟩ (Wk.eq R R R R)
  replace h:=iteF h hc18
  refine LH.exit (thenX (roundX (blockH (thenN (LH.wk (Wk.eq (el:=[(0,.lst 3 (List.map GRoom.lv p0)),(1,.lst 2 (List.map GNeed.lv p1))]) (ml:=[]) R R R R) (LH.seq (LH.seqT [(1,.lst 2 (List.map GNeed.lv p1)),(69,.lst 3 (List.map GRoom.lv p0)),(70,.I (p0.length:Int)),(71,.I 0)] [] R (sMl R (sN (oLnL (f:=GRoom.lv) te34 R (sMi R zS)))) (LH.block (LH.loop (fun n e m=>∃ (n26:Int),q55q F p0 p1 n n26=some r∧e=Env.of [(1,.lst 2 (List.map GNeed.lv p1)),(69,.lst 3 (List.map GRoom.lv p0)),(70,.I (p0.length:Int)),(71,.I n26)]∧m=Mem.of []) F ⟨0,h,R,R⟩ ?_)))))))))
  clear h
  rintro n e m ⟨n26,h,rfl,rfl⟩
  rcases n with _ | n
  · cases (show Option.none=some _ from h)
  obtain ⟨rec3,hrec3⟩:∃ f,f=q55q F p0 p1 n:=⟨_,rfl⟩
  replace h:q66q F p0 p1 rec3 n26=some r:=hrec3 ▸ h
  unfold q66q at h
  refine LH.seqT [(1,.lst 2 (List.map GNeed.lv p1)),(69,.lst 3 (List.map GRoom.lv p0)),(70,.I (p0.length:Int)),(71,.I n26),(72,.bool (decide (n26<(p0.length:Int))))] [] R (sN (oLt R R zS)) (LH.seq (LH.cond (t:=(decide (n26<(p0.length:Int)))) R (fun hc27=>?_) (fun hc27=>?_)))
  ·replace h:=iteT h hc27
   refine LH.skip (thenN (LH.wk (Wk.eq (el:=[(1,.lst 2 (List.map GNeed.lv p1)),(69,.lst 3 (List.map GRoom.lv p0)),(70,.I (p0.length:Int)),(71,.I n26)]) (ml:=[]) R R R R) (LH.seq (LH.block ?_))))
   obtain ⟨x28,hx28,h⟩:=bindS h
   refine LH.seqT [(1,.lst 2 (List.map GNeed.lv p1)),(12,.sptr [.I x28.Rows,.I x28.Cols,.I x28.Offers]),(69,.lst 3 (List.map GRoom.lv p0)),(70,.I (p0.length:Int)),(71,.I n26)] [] R (sN (oIx (f:=GRoom.lv) te34 tk72 ts72 R R GRoom.ok hx28 R (sN (oLdA R tk72 ta72 ts72 R R (sN (oAl (id:=112) R tz72 R R (s_ (oSt R R R tk72 ts72 R R R (s0 ((Wk.trans (Wk.eq (el:=[(1,.lst 2 (List.map GNeed.lv p1)),(12,.ptr 112 0),(69,.lst 3 (List.map GRoom.lv p0)),(70,.I (p0.length:Int)),(71,.I n26)]) (ml:=[(112,.box [.I x28.Rows,.I x28.Cols,.I x28.Offers])]) R R R R) (Wk.trans (Wk.frzB 112 [.I x28.Rows,.I x28.Cols,.I x28.Offers] R R R (prN R)) (Wk.eq R R R R))))))))))))) ?_
   obtain ⟨w30,hv,h⟩:=bindS h
   refine LH.seqT [(1,.lst 2 (List.map GNeed.lv p1)),(69,.lst 3 (List.map GRoom.lv p0)),(70,.I (p0.length:Int)),(71,.I n26),(83,.bool w30)] [] R ?_ ?_
   ·refine sN (oFaS tf72_2 tk3 ts3 R R R (sN (oLd R tk3 ta3 (sX ((ok_and R R).ok) (sN (oNe R R (sMb R ?_)))))))
    by_cases hb31:((andI .i64 x28.Offers 1) != 0)=true
    ·replace hv:=iteT hv hb31
     refine sT R (cB hb31) (oLdA R tk72 ta72 ts72 R R ?_)
     obtain ⟨r32,hr32,hv⟩:=bindS hv
     refine sT R (cB hb31) (oCP (args:=[.agg [.I x28.Rows,.I x28.Cols,.I x28.Offers]]) R isF56 R (sbR sbN) (q134q hr32) R (sT R (cB hb31) (oNe R R (sN (oPkT (cB hb31) (v:=(.bool _)) R ?_)))))
     obtain rfl:=oI hv
     exact zS
    ·replace hb31:=bF hb31
     replace hv:=iteF hv hb31
     refine sF R R hb31 (sF R R hb31 (sF R R hb31 (sN (oPkF (cB hb31) (v:=(.bool _)) R ?_))))
     obtain rfl:=oI hv
     exact zS
   clear hv
   refine LH.cond (t:=w30) R (fun hc33=>?_) (fun hc33=>?_)
   ·replace h:=iteT h hc33
    refine LH.seqT [(6,.I 9)] [] R (sAi R zS) (LH.ret (blockR (thenR (roundR (blockR (thenR ?_))))))
    obtain rfl:=oI h
    exact retE (aT Tryz.results53) (lrT R (lr0 ⟨memN mN,R,prK R,Sub.rfl⟩))
   replace h:=iteF h hc33
   refine LH.skip (blockN (thenN (LH.loneT [(1,.lst 2 (List.map GNeed.lv p1)),(69,.lst 3 (List.map GRoom.lv p0)),(70,.I (p0.length:Int)),(71,.I (i64 (n26+1)))] [] R (sN (oAdd R R (sMi R zS))) ?_)))
   exact roundI ⟨(i64 (n26+1)),hrec3 ▸ h,R,R⟩ (Wk.eq R R R R)
  replace h:=iteF h hc27
  refine LH.exit (thenX (roundX (blockH (thenN (LH.wk (Wk.eq (el:=[(1,.lst 2 (List.map GNeed.lv p1))]) (ml:=[]) R R R R) (LH.seq (LH.seqT [(1,.lst 2 (List.map GNeed.lv p1)),(13,.I 1)] [] R (sAi R zS) (LH.block (LH.loop (fun n e m=>∃ (n34:Int),q56q p1 n n34=some r∧e=Env.of [(1,.lst 2 (List.map GNeed.lv p1)),(13,.I n34)]∧m=Mem.of []) F ⟨1,h,R,R⟩ ?_)))))))))
  clear h
  rintro n e m ⟨n34,h,rfl,rfl⟩
  rcases n with _ | n
  · cases (show Option.none=some _ from h)
  obtain ⟨rec4,hrec4⟩:∃ f,f=q56q p1 n:=⟨_,rfl⟩
  replace h:q67q p1 rec4 n34=some r:=hrec4 ▸ h
  unfold q67q at h
  refine LH.seq (LH.seqT [(1,.lst 2 (List.map GNeed.lv p1)),(13,.I n34),(88,.bool (decide (n34<(p1.length:Int))))] [] R (sMi R (sMl R (sN (oLnL (f:=GNeed.lv) te37 R (sN (oLt R R zS)))))) (LH.cond (t:=(decide (n34<(p1.length:Int)))) R (fun hc35=>?_) (fun hc35=>?_)))
  ·replace h:=iteT h hc35
   refine LH.skip (thenN (LH.wk (Wk.eq (el:=[(1,.lst 2 (List.map GNeed.lv p1)),(13,.I n34)]) (ml:=[]) R R R R) (LH.seq (LH.block ?_))))
   obtain ⟨x36,hx36,h⟩:=bindS h
   obtain ⟨x37,hx37,h⟩:=bindS h
   refine LH.seqJM mixed [] [0,0,0,0,0,0,0,0,0,0,0,0] [(1,.lst 2 (List.map GNeed.lv p1)),(13,.I n34),(102,.bool (decide (x36.Candidate ≥ x37.Candidate)))] [] R R (by kernel_rfl) (mMl R (mMi R (mN0 (oSub R R ⟨R,mN0 (oIx (f:=GNeed.lv) te37 tk60 ts60 R R GNeed.ok hx36 R ⟨R,mN0 (oFaS tf60_0 tk3 ts3 R R R ⟨R,mN0 (oLd R tk3 ta3 ⟨R,mMl R (mMi R (mN0 (oIx (f:=GNeed.lv) te37 tk60 ts60 R R GNeed.ok hx37 R ⟨R,mN0 (oFaS tf60_0 tk3 ts3 R R R ⟨R,mN0 (oLd R tk3 ta3 ⟨R,mN0 (oGe R R ⟨R,zM⟩)⟩)⟩)⟩)))⟩)⟩)⟩)⟩)))) (LH.cond (t:=(decide (x36.Candidate ≥ x37.Candidate))) R (fun hc38=>?_) (fun hc38=>?_))
   ·replace h:=iteT h hc38
    refine LH.seqT [(6,.I 5)] [] R (sAi R zS) (LH.ret (blockR (thenR (roundR (blockR (thenR ?_))))))
    obtain rfl:=oI h
    exact retE (aT Tryz.results53) (lrT R (lr0 ⟨memN mN,R,prK R,Sub.rfl⟩))
   replace h:=iteF h hc38
   refine LH.skip (blockN (thenN (LH.loneT [(1,.lst 2 (List.map GNeed.lv p1)),(13,.I (i64 (n34+1)))] [] R (sMi R (sN (oAdd R R (sAi R zS)))) ?_)))
   exact roundI ⟨(i64 (n34+1)),hrec4 ▸ h,R,R⟩ (Wk.eq R R R R)
  replace h:=iteF h hc35
  refine LH.exit (thenX (roundX (blockH (thenN (LH.seqT [(6,.I 0)] [] R (sAi R zS) (LH.ret ?_))))))
  obtain rfl:=oI h
  exact retE (aT Tryz.results53) (lrT R (lr0 ⟨memN mN,R,prK R,Sub.rfl⟩))

theorem q133q {p0:GRoom} {p1:GNeed} {r:Bool} (h:q30q p0 p1=some r):LCall Tryz.prog 20 [.agg [.I p0.Rows,.I p0.Cols,.I p0.Offers],.agg [.I p1.Candidate,.I p1.Needs]] (Mem.of []) (.bool r) (Mem.of []):=by
  unfold q30q at h
  refine bodyT Tryz.func20 R (nT Tryz.ntmps20 R) (LH.wk (Wk.eq (el:=[(0,.agg [.I p0.Rows,.I p0.Cols,.I p0.Offers]),(1,.agg [.I p1.Candidate,.I p1.Needs])]) (ml:=[]) R R R R) (LH.seqT [(2,.sptr [.I p0.Rows,.I p0.Cols,.I p0.Offers]),(3,.sptr [.I p1.Candidate,.I p1.Needs])] [] R (sB (oBxR R R R R (sB (oBxR R R R R (sAb R zS))))) (LH.seqT [(4,.bool ((annI .i64 p1.Needs p0.Offers) == 0))] [] R (sN (oFaS tf60_1 tk3 ts3 R R R (sN (oLd R tk3 ta3 (sN (oFaS tf72_2 tk3 ts3 R R R (sN (oLd R tk3 ta3 (sX ((ok_ann R R).ok) (sN (oEq R R (sAb R zS)))))))))))) (LH.ret ?_))))
  obtain rfl:=oI h
  exact retE (aT Tryz.results20) (lrT R (lr0 ⟨memN mN,R,prK R,Sub.rfl⟩))

set_option maxHeartbeats 4000000 in
theorem q180q {F:Nat} {p0:Int} {c0:List GRoom} {c1:List Bool} {c2:List GNeed} {c3:List (List Int)} {c4:List Int} {r:Bool × List Bool × List (List Int) × List Int} (h:q15q F p0 c0 c1 c2 c3 c4=some r):LCall Tryz.prog 55 [.I p0,.sptr [.lst 3 (List.map GRoom.lv c0)],.ptr 402 0,.sptr [.lst 2 (List.map GNeed.lv c2)],.ptr 404 0,.ptr 405 0,.ptr 406 0] (Mem.of [(402,.box [.arr 412 (List.length c1)]),(404,.box [.arr 414 (List.length c3)]),(405,.box [.arr 415 (List.length c4)]),(406,.box [.fn 55 [.sptr [.lst 3 (List.map GRoom.lv c0)],.ptr 402 0,.sptr [.lst 2 (List.map GNeed.lv c2)],.ptr 404 0,.ptr 405 0,.ptr 406 0]]),(412,.arr 4 1 (List.map LV.bool c1)),(414,.nest 22 1 [(0,3,1)] (List.map el1 c3)),(415,.arr 3 1 (List.map LV.I c4))]) (.bool r.1) (Mem.of [(402,.box [.arr 412 (List.length r.2.1)]),(404,.box [.arr 414 (List.length r.2.2.1)]),(405,.box [.arr 415 (List.length r.2.2.2)]),(406,.box [.fn 55 [.sptr [.lst 3 (List.map GRoom.lv c0)],.ptr 402 0,.sptr [.lst 2 (List.map GNeed.lv c2)],.ptr 404 0,.ptr 405 0,.ptr 406 0]]),(412,.arr 4 1 (List.map LV.bool r.2.1)),(414,.nest 22 1 [(0,3,1)] (List.map el1 r.2.2.1)),(415,.arr 3 1 (List.map LV.I r.2.2.2))]):=by
  induction F generalizing p0 c0 c1 c2 c3 c4 r with
  | zero=>cases (show Option.none=some _ from h)
  | succ F ih =>
    unfold q15q at h
    obtain ⟨self,hself⟩:∃ f,f=q15q F:=⟨_,rfl⟩
    rw [← hself] at h ih
    refine bodyT Tryz.func55 R (nT Tryz.ntmps55 R) ?_
    refine LH.wk (Wk.eq (el:=[(0,.I p0),(1,.sptr [.lst 3 (List.map GRoom.lv c0)]),(2,.ptr 402 0),(3,.sptr [.lst 2 (List.map GNeed.lv c2)]),(4,.ptr 404 0),(5,.ptr 405 0),(6,.ptr 406 0)]) (ml:=[(402,.box [.arr 412 (List.length c1)]),(404,.box [.arr 414 (List.length c3)]),(405,.box [.arr 415 (List.length c4)]),(406,.box [.fn 55 [.sptr [.lst 3 (List.map GRoom.lv c0)],.ptr 402 0,.sptr [.lst 2 (List.map GNeed.lv c2)],.ptr 404 0,.ptr 405 0,.ptr 406 0]]),(412,.arr 4 1 (List.map LV.bool c1)),(414,.nest 22 1 [(0,3,1)] (List.map el1 c3)),(415,.arr 3 1 (List.map LV.I c4))]) R R R R) ?_
    refine LH.seqT [(0,.I p0),(1,.sptr [.lst 3 (List.map GRoom.lv c0)]),(2,.ptr 402 0),(3,.sptr [.lst 2 (List.map GNeed.lv c2)]),(4,.ptr 404 0),(5,.ptr 405 0),(6,.ptr 406 0)] [(402,.box [.arr 412 (List.length c1)]),(404,.box [.arr 414 (List.length c3)]),(405,.box [.arr 415 (List.length c4)]),(406,.box [.fn 55 [.sptr [.lst 3 (List.map GRoom.lv c0)],.ptr 402 0,.sptr [.lst 2 (List.map GNeed.lv c2)],.ptr 404 0,.ptr 405 0,.ptr 406 0]]),(412,.arr 4 1 (List.map LV.bool c1)),(414,.nest 22 1 [(0,3,1)] (List.map el1 c3)),(415,.arr 3 1 (List.map LV.I c4))] R ?_ ?_
    ·refine sAb R ?_
     exact zS
    refine LH.seq ?_
    refine LH.seqT [(0,.I p0),(1,.sptr [.lst 3 (List.map GRoom.lv c0)]),(2,.ptr 402 0),(3,.sptr [.lst 2 (List.map GNeed.lv c2)]),(4,.ptr 404 0),(5,.ptr 405 0),(6,.ptr 406 0),(12,.I (c0.length:Int)),(13,.I 0)] [(402,.box [.arr 412 (List.length c1)]),(404,.box [.arr 414 (List.length c3)]),(405,.box [.arr 415 (List.length c4)]),(406,.box [.fn 55 [.sptr [.lst 3 (List.map GRoom.lv c0)],.ptr 402 0,.sptr [.lst 2 (List.map GNeed.lv c2)],.ptr 404 0,.ptr 405 0,.ptr 406 0]]),(412,.arr 4 1 (List.map LV.bool c1)),(414,.nest 22 1 [(0,3,1)] (List.map el1 c3)),(415,.arr 3 1 (List.map LV.I c4))] R ?_ ?_
    ·refine sN (oLd R tk34 ta34 ?_)
     refine sN (oLnL (f:=GRoom.lv) te34 R ?_)
     refine sMi R ?_
     exact zS
    refine LH.block ?_
    refine LH.loop (fun n e m=>∃ (n1:Int) (l2:List Bool) (l3:List (List Int)) (l4:List Int),q68q F self p0 c0 c2 n n1 l2 l3 l4=some r∧e=Env.of [(0,.I p0),(1,.sptr [.lst 3 (List.map GRoom.lv c0)]),(2,.ptr 402 0),(3,.sptr [.lst 2 (List.map GNeed.lv c2)]),(4,.ptr 404 0),(5,.ptr 405 0),(6,.ptr 406 0),(12,.I (c0.length:Int)),(13,.I n1)]∧m=Mem.of [(402,.box [.arr 412 (List.length l2)]),(404,.box [.arr 414 (List.length l3)]),(405,.box [.arr 415 (List.length l4)]),(406,.box [.fn 55 [.sptr [.lst 3 (List.map GRoom.lv c0)],.ptr 402 0,.sptr [.lst 2 (List.map GNeed.lv c2)],.ptr 404 0,.ptr 405 0,.ptr 406 0]]),(412,.arr 4 1 (List.map LV.bool l2)),(414,.nest 22 1 [(0,3,1)] (List.map el1 l3)),(415,.arr 3 1 (List.map LV.I l4))]) F ⟨0,c1,c3,c4,h,R,R⟩ ?_
    clear h
    rintro n e m ⟨n1,l2,l3,l4,h,rfl,rfl⟩
    rcases n with _ | n
    · cases (show Option.none=some _ from h)
    obtain ⟨rec1,hrec1⟩:∃ f,f=q68q F self p0 c0 c2 n:=⟨_,rfl⟩
    replace h:q42q F self p0 c0 c2 rec1 n1 l2 l3 l4=some r:=hrec1 ▸ h
    unfold q42q at h
    refine LH.seqT [(0,.I p0),(1,.sptr [.lst 3 (List.map GRoom.lv c0)]),(2,.ptr 402 0),(3,.sptr [.lst 2 (List.map GNeed.lv c2)]),(4,.ptr 404 0),(5,.ptr 405 0),(6,.ptr 406 0),(12,.I (c0.length:Int)),(13,.I n1),(14,.bool (decide (n1<(c0.length:Int))))] [(402,.box [.arr 412 (List.length l2)]),(404,.box [.arr 414 (List.length l3)]),(405,.box [.arr 415 (List.length l4)]),(406,.box [.fn 55 [.sptr [.lst 3 (List.map GRoom.lv c0)],.ptr 402 0,.sptr [.lst 2 (List.map GNeed.lv c2)],.ptr 404 0,.ptr 405 0,.ptr 406 0]]),(412,.arr 4 1 (List.map LV.bool l2)),(414,.nest 22 1 [(0,3,1)] (List.map el1 l3)),(415,.arr 3 1 (List.map LV.I l4))] R ?_ ?_
    ·refine sN (oLt R R ?_)
     exact zS
    refine LH.seq ?_
    refine LH.cond (t:=(decide (n1<(c0.length:Int)))) R (fun hc5=>?_) (fun hc5=>?_)
    ·replace h:=iteT h hc5
     refine LH.skip ?_
     refine thenN ?_
     refine LH.wk (Wk.eq (el:=[(0,.I p0),(1,.sptr [.lst 3 (List.map GRoom.lv c0)]),(2,.ptr 402 0),(3,.sptr [.lst 2 (List.map GNeed.lv c2)]),(4,.ptr 404 0),(5,.ptr 405 0),(6,.ptr 406 0),(12,.I (c0.length:Int)),(13,.I n1)]) (ml:=[(402,.box [.arr 412 (List.length l2)]),(404,.box [.arr 414 (List.length l3)]),(405,.box [.arr 415 (List.length l4)]),(406,.box [.fn 55 [.sptr [.lst 3 (List.map GRoom.lv c0)],.ptr 402 0,.sptr [.lst 2 (List.map GNeed.lv c2)],.ptr 404 0,.ptr 405 0,.ptr 406 0]]),(412,.arr 4 1 (List.map LV.bool l2)),(414,.nest 22 1 [(0,3,1)] (List.map el1 l3)),(415,.arr 3 1 (List.map LV.I l4))]) R R R R) ?_
     refine LH.seq ?_
     refine LH.block ?_
     refine LH.seqT [(0,.I p0),(1,.sptr [.lst 3 (List.map GRoom.lv c0)]),(2,.ptr 402 0),(3,.sptr [.lst 2 (List.map GNeed.lv c2)]),(4,.ptr 404 0),(5,.ptr 405 0),(6,.ptr 406 0),(9,.I n1),(12,.I (c0.length:Int)),(13,.I n1)] [(402,.box [.arr 412 (List.length l2)]),(404,.box [.arr 414 (List.length l3)]),(405,.box [.arr 415 (List.length l4)]),(406,.box [.fn 55 [.sptr [.lst 3 (List.map GRoom.lv c0)],.ptr 402 0,.sptr [.lst 2 (List.map GNeed.lv c2)],.ptr 404 0,.ptr 405 0,.ptr 406 0]]),(412,.arr 4 1 (List.map LV.bool l2)),(414,.nest 22 1 [(0,3,1)] (List.map el1 l3)),(415,.arr 3 1 (List.map LV.I l4))] R ?_ ?_
     ·refine sMi R ?_
      refine sAi R ?_
      exact zS
     refine LH.seq ?_
     obtain ⟨w7,hv,h⟩:=bindS h
     refine LH.seqJM mixed [] [1402,0,1412,1412,0,0,0,0,0,0,0,0,0,0,0,0] [(0,.I p0),(1,.sptr [.lst 3 (List.map GRoom.lv c0)]),(2,.ptr 402 0),(3,.sptr [.lst 2 (List.map GNeed.lv c2)]),(4,.ptr 404 0),(5,.ptr 405 0),(6,.ptr 406 0),(9,.I n1),(12,.I (c0.length:Int)),(13,.I n1),(31,.bool w7)] [(402,.box [.arr 412 (List.length l2)]),(404,.box [.arr 414 (List.length l3)]),(405,.box [.arr 415 (List.length l4)]),(406,.box [.fn 55 [.sptr [.lst 3 (List.map GRoom.lv c0)],.ptr 402 0,.sptr [.lst 2 (List.map GNeed.lv c2)],.ptr 404 0,.ptr 405 0,.ptr 406 0]]),(412,.arr 4 1 (List.map LV.bool l2)),(414,.nest 22 1 [(0,3,1)] (List.map el1 l3)),(415,.arr 3 1 (List.map LV.I l4))] R R (by kernel_rfl) ?_ ?_
     ·refine mD R R R (fun _ b _ d=>oLdP R b R R tk151 ta151 d) ?_
      refine mMi R ?_
      obtain ⟨x8,hx8,hv⟩:=bindS hv
      refine mD R R R (fun _ b _ d=>oIxA (f:=LV.bool) te151 tk4 ts4 R b R hx8 d) ?_
      refine mD R R R (fun _ b _ d=>oLdE (f:=LV.bool) R b (idxOk hx8).2 R R R tk4 ta4 d) ?_
      refine mMb R ?_
      by_cases hb9:x8=true
      ·replace hv:=iteT hv hb9
       refine mF R R hb9 ?_
       refine mF R R hb9 ?_
       refine mF R R hb9 ?_
       refine mF R R hb9 ?_
       refine mF R R hb9 ?_
       refine mF R R hb9 ?_
       refine mF R R hb9 ?_
       refine mF R R hb9 ?_
       refine mF R R hb9 ?_
       refine mF R R hb9 ?_
       refine mN0 (oPkT (cB hb9) (v:=(.bool _)) R ⟨R,?_⟩)
       obtain rfl:=oI hv
       exact zM
      ·replace hb9:=bF hb9
       replace hv:=iteF hv hb9
       refine mT R (cB hb9) (mN0 (oLd R tk34 ta34 ⟨R,?_⟩))
       refine mT R (cB hb9) (mMi R ?_)
       obtain ⟨x10,hx10,hv⟩:=bindS hv
       refine mT R (cB hb9) (mN0 (oIx (f:=GRoom.lv) te34 tk72 ts72 R R GRoom.ok hx10 R ⟨R,?_⟩))
       refine mT R (cB hb9) (mN0 (oLdA R tk72 ta72 ts72 R R ⟨R,?_⟩))
       refine mT R (cB hb9) (mN0 (oLd R tk37 ta37 ⟨R,?_⟩))
       refine mT R (cB hb9) (mMi R ?_)
       obtain ⟨x11,hx11,hv⟩:=bindS hv
       refine mT R (cB hb9) (mN0 (oIx (f:=GNeed.lv) te37 tk60 ts60 R R GNeed.ok hx11 R ⟨R,?_⟩))
       refine mT R (cB hb9) (mN0 (oLdA R tk60 ta60 ts60 R R ⟨R,?_⟩))
       obtain ⟨r12,hr12,hv⟩:=bindS hv
       refine mT R (cB hb9) (mN0 (oCP (args:=[.agg [.I x10.Rows,.I x10.Cols,.I x10.Offers],.agg [.I x11.Candidate,.I x11.Needs]]) R isF20 R (sbR (sbR sbN)) (q133q hr12) R ⟨R,?_⟩))
       refine mT R (cB hb9) (mN0 (oNot R ⟨R,?_⟩))
       refine mN0 (oPkF (cB hb9) (v:=(.bool _)) R ⟨R,?_⟩)
       obtain rfl:=oI hv
       exact zM
     clear hv
     refine LH.cond (t:=w7) R (fun hc13=>?_) (fun hc13=>?_)
     ·replace h:=iteT h hc13
      refine LH.exit ?_
      refine thenX ?_
      refine blockH ?_
      refine thenN ?_
      refine LH.loneT [(0,.I p0),(1,.sptr [.lst 3 (List.map GRoom.lv c0)]),(2,.ptr 402 0),(3,.sptr [.lst 2 (List.map GNeed.lv c2)]),(4,.ptr 404 0),(5,.ptr 405 0),(6,.ptr 406 0),(12,.I (c0.length:Int)),(13,.I (i64 (n1+1)))] [(402,.box [.arr 412 (List.length l2)]),(404,.box [.arr 414 (List.length l3)]),(405,.box [.arr 415 (List.length l4)]),(406,.box [.fn 55 [.sptr [.lst 3 (List.map GRoom.lv c0)],.ptr 402 0,.sptr [.lst 2 (List.map GNeed.lv c2)],.ptr 404 0,.ptr 405 0,.ptr 406 0]]),(412,.arr 4 1 (List.map LV.bool l2)),(414,.nest 22 1 [(0,3,1)] (List.map el1 l3)),(415,.arr 3 1 (List.map LV.I l4))] R ?_ ?_
      ·refine sN (oAdd R R ?_)
       refine sMi R ?_
       exact zS
      exact roundI ⟨(i64 (n1+1)),l2,l3,l4,hrec1 ▸ h,R,R⟩ (Wk.eq R R R R)
     replace h:=iteF h hc13
     refine LH.skip ?_
     refine thenN ?_
     obtain ⟨x14,hx14,h⟩:=bindS h
     refine LH.seqT [(0,.I p0),(1,.sptr [.lst 3 (List.map GRoom.lv c0)]),(2,.ptr 402 0),(3,.sptr [.lst 2 (List.map GNeed.lv c2)]),(4,.ptr 404 0),(5,.ptr 405 0),(6,.ptr 406 0),(9,.I n1),(12,.I (c0.length:Int)),(13,.I n1)] [(402,.box [.arr 412 (List.length (l2.set n1.toNat true))]),(404,.box [.arr 414 (List.length l3)]),(405,.box [.arr 415 (List.length l4)]),(406,.box [.fn 55 [.sptr [.lst 3 (List.map GRoom.lv c0)],.ptr 402 0,.sptr [.lst 2 (List.map GNeed.lv c2)],.ptr 404 0,.ptr 405 0,.ptr 406 0]]),(412,.arr 4 1 (List.map LV.bool (l2.set n1.toNat true))),(414,.nest 22 1 [(0,3,1)] (List.map el1 l3)),(415,.arr 3 1 (List.map LV.I l4))] R ?_ ?_
     ·refine sN (oLdP R R R R tk151 ta151 ?_)
      refine sMi R ?_
      refine sN (oIxA (f:=LV.bool) te151 tk4 ts4 R R R hx14 ?_)
      refine s_ (oStE (f:=LV.bool) (z':=true) R R R R tk4 ts4 R (idxOk hx14).2 R ?_)
      exact s0 (Wk.to (eQ ⟨R,R,R,R,R,R,R,R,R,R,trivial⟩) (mC ((show _=some (LE.box [.arr 412 (List.length l2)]) from R).trans (by simp)) (mC R (mC R (mC R (mC R (mC R (mC R mN))))))) R (prK R))
     refine LH.seq ?_
     obtain ⟨x15,hx15,h⟩:=bindS h
     obtain ⟨x16,hx16,h⟩:=bindS h
     obtain ⟨r17,hr17,h⟩:=bindS h
     refine LH.seqJM mixed [] [1404,0,1000000414,1000000414,3,0,0,0,0,0,0] [(0,.I p0),(1,.sptr [.lst 3 (List.map GRoom.lv c0)]),(2,.ptr 402 0),(3,.sptr [.lst 2 (List.map GNeed.lv c2)]),(4,.ptr 404 0),(5,.ptr 405 0),(6,.ptr 406 0),(9,.I n1),(12,.I (c0.length:Int)),(13,.I n1),(45,.bool (decide ((x15.length:Int)<r17)))] [(402,.box [.arr 412 (List.length (l2.set n1.toNat true))]),(404,.box [.arr 414 (List.length l3)]),(405,.box [.arr 415 (List.length l4)]),(406,.box [.fn 55 [.sptr [.lst 3 (List.map GRoom.lv c0)],.ptr 402 0,.sptr [.lst 2 (List.map GNeed.lv c2)],.ptr 404 0,.ptr 405 0,.ptr 406 0]]),(412,.arr 4 1 (List.map LV.bool (l2.set n1.toNat true))),(414,.nest 22 1 [(0,3,1)] (List.map el1 l3)),(415,.arr 3 1 (List.map LV.I l4))] R R (by kernel_rfl) ?_ ?_
     ·refine mD R R R (fun _ b _ d=>oLdP R b R R tk117 ta117 d) ?_
      refine mMi R ?_
      refine mFt R (Foot.put1 R (fun m0 h0=>ok_ixFo (f:=el1) (xs:=l3) (cs:=[.L x15]) te117 tk22 ts22 R (h0.trans R) R R hx15 R)) ?_
      refine mFt R (Foot.put0 R (fun m0 h0=>ok_lnF (g:=LV.I) (ys:=x15) (cs:=[.L x15]) R (h0.trans R) (by simp) (focAt hx15) R R tk22 ta22)) ?_
      refine mX (ok_lenS te22 R) ?_
      refine mN0 (oLd R tk34 ta34 ⟨R,?_⟩)
      refine mMi R ?_
      refine mN0 (oIx (f:=GRoom.lv) te34 tk72 ts72 R R GRoom.ok hx16 R ⟨R,?_⟩)
      refine mN0 (oLdA R tk72 ta72 ts72 R R ⟨R,?_⟩)
      refine mN0 (oCP (args:=[.agg [.I x16.Rows,.I x16.Cols,.I x16.Offers]]) R isF56 R (sbR sbN) (q134q hr17) R ⟨R,?_⟩)
      refine mN0 (oLt R R ⟨R,?_⟩)
      exact m0 (Wk.to (eQ ⟨R,R,R,R,R,R,R,R,R,R,R,trivial⟩) (mC R (mC R (mC R (mC R (mC R (mC (focN hx15).symm (mC R mN))))))) R (prK R))
     refine LH.cond (t:=(decide ((x15.length:Int)<r17))) R (fun hc18=>?_) (fun hc18=>?_)
     ·replace h:=iteT h hc18
      obtain ⟨x19,hx19,h⟩:=bindS h
      obtain ⟨v20,hv20,h⟩:=bindS h
      refine LH.seqJM mixed [] [1404,0,1404,0,1000000414,1000151414,0,0,1000000151,3,3] [(0,.I p0),(5,.ptr 405 0),(9,.I n1)] [(402,.box [.arr 412 (List.length (l2.set n1.toNat true))]),(404,.box [.arr 414 (List.length (l3.set (n1).toNat v20))]),(405,.box [.arr 415 (List.length l4)]),(406,.box [.fn 55 [.sptr [.lst 3 (List.map GRoom.lv c0)],.ptr 402 0,.sptr [.lst 2 (List.map GNeed.lv c2)],.ptr 404 0,.ptr 405 0,.ptr 406 0]]),(412,.arr 4 1 (List.map LV.bool (l2.set n1.toNat true))),(414,.nest 22 1 [(0,3,1)] (List.map el1 (l3.set (n1).toNat v20))),(415,.arr 3 1 (List.map LV.I l4))] R R (by kernel_rfl) ?_ ?_
      ·refine mD R R R (fun _ b _ d=>oLdP R b R R tk117 ta117 d) ?_
       refine mMi R ?_
       refine mD R R R (fun _ b _ d=>oLdP R b R R tk117 ta117 d) ?_
       refine mMi R ?_
       refine mFt R (Foot.put1 R (fun m0 h0=>ok_ixFo (f:=el1) (xs:=l3) (cs:=[.L x19]) te117 tk22 ts22 R (h0.trans R) R R hx19 R)) ?_
       refine mFt R (Foot.put2 R (fun m0 h0 h1=>ok_takeF (g:=LV.I) (ys:=x19) (ls:=List.map el1 l3) (cs:=[.L x19]) (id2:=151) (cs':=[.und]) R (h0.trans R) (by simp) (focAt hx19) R R (h1.trans R) tk22 ta22 R)) ?_
       refine mMi R ?_
       refine mN0 (oBS (f:=LV.I) (ys:=[p0]) te22 tr3 ts3 R R R okI ⟨R,?_⟩)
       refine mFt R (Foot.put1 R (fun m0 h0=>OpOk.toR [51,53] (by simp [Op.operands,Call.operands]) (ok_apA (f:=LV.I) te22 tr3 ts3 R (h0.trans R) (prN R) R hv20))) ?_
       refine mX (ok_ixG (f:=el1) (xs:=l3) te117 tk22 ts22 R R R R hx19) ?_
       refine mX_ (ok_putF (g:=LV.I) (ys:=v20) (ls:=List.map el1 l3) (cs:=[.und]) (cs':=[.L v20]) R R (by simp) (focAt hx19) R R R R R (prN R) tk22 ts22 R) ?_
       exact m0 (Wk.to (eQ ⟨R,R,R,trivial⟩) (mC R (mC ((show _=some (LE.box [.arr 414 (List.length l3)]) from R).trans (by simp)) (mC R (mC R (mC R (mC (unfN R R) (mC R mN))))))) R (prK R))
      obtain ⟨x21,hx21,h⟩:=bindS h
      refine LH.seqT [] [(402,.box [.arr 412 (List.length (l2.set n1.toNat true))]),(404,.box [.arr 414 (List.length (l3.set (n1).toNat v20))]),(405,.box [.arr 415 (List.length (l4.set p0.toNat n1))]),(406,.box [.fn 55 [.sptr [.lst 3 (List.map GRoom.lv c0)],.ptr 402 0,.sptr [.lst 2 (List.map GNeed.lv c2)],.ptr 404 0,.ptr 405 0,.ptr 406 0]]),(412,.arr 4 1 (List.map LV.bool (l2.set n1.toNat true))),(414,.nest 22 1 [(0,3,1)] (List.map el1 (l3.set (n1).toNat v20))),(415,.arr 3 1 (List.map LV.I (l4.set p0.toNat n1)))] R ?_ ?_
      ·refine sN (oLdP R R R R tk22 ta22 ?_)
       refine sMi R ?_
       refine sMi R ?_
       refine sN (oIxA (f:=LV.I) te22 tk3 ts3 R R R hx21 ?_)
       refine s_ (oStE (f:=LV.I) (z':=n1) R R R R tk3 ts3 R (idxOk hx21).2 R ?_)
       exact s0 (Wk.to eN (mC R (mC R (mC ((show _=some (LE.box [.arr 415 (List.length l4)]) from R).trans (by simp)) (mC R (mC R (mC R (mC R mN))))))) R (prK R))
      refine LH.seqT [(8,.bool true)] [(402,.box [.arr 412 (List.length (l2.set n1.toNat true))]),(404,.box [.arr 414 (List.length (l3.set (n1).toNat v20))]),(405,.box [.arr 415 (List.length (l4.set p0.toNat n1))]),(406,.box [.fn 55 [.sptr [.lst 3 (List.map GRoom.lv c0)],.ptr 402 0,.sptr [.lst 2 (List.map GNeed.lv c2)],.ptr 404 0,.ptr 405 0,.ptr 406 0]]),(412,.arr 4 1 (List.map LV.bool (l2.set n1.toNat true))),(414,.nest 22 1 [(0,3,1)] (List.map el1 (l3.set (n1).toNat v20))),(415,.arr 3 1 (List.map LV.I (l4.set p0.toNat n1)))] R ?_ ?_
      ·refine sAb R ?_
       exact zS
      refine LH.ret ?_
      refine thenR ?_
      refine blockR ?_
      refine thenR ?_
      refine roundR ?_
      refine blockR ?_
      refine thenR ?_
      obtain rfl:=oI h
      exact retE (aT Tryz.results55) (lrT R (lr0 ⟨memN (mC R (mC R (mC R (mC R (mC R (mC R (mC R mN))))))),R,prK R,Sub.rfl⟩))
     replace h:=iteF h hc18
     refine LH.skip ?_
     refine thenN ?_
     obtain ⟨x22,hx22,h⟩:=bindS h
     refine LH.seqT [(0,.I p0),(1,.sptr [.lst 3 (List.map GRoom.lv c0)]),(2,.ptr 402 0),(3,.sptr [.lst 2 (List.map GNeed.lv c2)]),(4,.ptr 404 0),(5,.ptr 405 0),(6,.ptr 406 0),(9,.I n1),(12,.I (c0.length:Int)),(13,.I n1),(64,.I (x22.length:Int)),(65,.I 0)] [(402,.box [.arr 412 (List.length (l2.set n1.toNat true))]),(404,.box [.arr 414 (List.length l3)]),(405,.box [.arr 415 (List.length l4)]),(406,.box [.fn 55 [.sptr [.lst 3 (List.map GRoom.lv c0)],.ptr 402 0,.sptr [.lst 2 (List.map GNeed.lv c2)],.ptr 404 0,.ptr 405 0,.ptr 406 0]]),(412,.arr 4 1 (List.map LV.bool (l2.set n1.toNat true))),(414,.nest 22 1 [(0,3,1)] (List.map el1 l3)),(415,.arr 3 1 (List.map LV.I l4))] R ?_ ?_
     ·refine sN (oLdP R R R R tk117 ta117 ?_)
      refine sMi R ?_
      refine sX ((ok_ixFo (f:=el1) (xs:=l3) (cs:=[.L x22]) te117 tk22 ts22 R R R R hx22 R).ok) ?_
      refine sX ((ok_lnF (g:=LV.I) (ys:=x22) (cs:=[.L x22]) R R (by simp) (focAt hx22) R R tk22 ta22).ok) ?_
      refine sX ((ok_lenS te22 R).ok) ?_
      refine sMi R ?_
      exact s0 (Wk.to (eQ ⟨R,R,R,R,R,R,R,R,R,R,R,R,trivial⟩) (mC R (mC R (mC R (mC R (mC R (mC (focN hx22).symm (mC R mN))))))) R (prK R))
     refine LH.block ?_
     refine LH.loop (fun n e m=>∃ (n23:Int) (l24:List Bool) (l25:List (List Int)) (l26:List Int),q69q rec1 self p0 c0 c2 n1 x22 n n23 l24 l25 l26=some r∧e=Env.of [(0,.I p0),(1,.sptr [.lst 3 (List.map GRoom.lv c0)]),(2,.ptr 402 0),(3,.sptr [.lst 2 (List.map GNeed.lv c2)]),(4,.ptr 404 0),(5,.ptr 405 0),(6,.ptr 406 0),(9,.I n1),(12,.I (c0.length:Int)),(13,.I n1),(64,.I (x22.length:Int)),(65,.I n23)]∧m=Mem.of [(402,.box [.arr 412 (List.length l24)]),(404,.box [.arr 414 (List.length l25)]),(405,.box [.arr 415 (List.length l26)]),(406,.box [.fn 55 [.sptr [.lst 3 (List.map GRoom.lv c0)],.ptr 402 0,.sptr [.lst 2 (List.map GNeed.lv c2)],.ptr 404 0,.ptr 405 0,.ptr 406 0]]),(412,.arr 4 1 (List.map LV.bool l24)),(414,.nest 22 1 [(0,3,1)] (List.map el1 l25)),(415,.arr 3 1 (List.map LV.I l26))]) F ⟨0,(l2.set n1.toNat true),l3,l4,h,R,R⟩ ?_
     clear h
     rintro n e m ⟨n23,l24,l25,l26,h,rfl,rfl⟩
     rcases n with _ | n
     · cases (show Option.none=some _ from h)
     obtain ⟨rec2,hrec2⟩:∃ f,f=q69q rec1 self p0 c0 c2 n1 x22 n:=⟨_,rfl⟩
     replace h:q43q rec1 self p0 c0 c2 n1 x22 rec2 n23 l24 l25 l26=some r:=hrec2 ▸ h
     unfold q43q at h
     refine LH.seqT [(0,.I p0),(1,.sptr [.lst 3 (List.map GRoom.lv c0)]),(2,.ptr 402 0),(3,.sptr [.lst 2 (List.map GNeed.lv c2)]),(4,.ptr 404 0),(5,.ptr 405 0),(6,.ptr 406 0),(9,.I n1),(12,.I (c0.length:Int)),(13,.I n1),(64,.I (x22.length:Int)),(65,.I n23),(66,.bool (decide (n23<(x22.length:Int))))] [(402,.box [.arr 412 (List.length l24)]),(404,.box [.arr 414 (List.length l25)]),(405,.box [.arr 415 (List.length l26)]),(406,.box [.fn 55 [.sptr [.lst 3 (List.map GRoom.lv c0)],.ptr 402 0,.sptr [.lst 2 (List.map GNeed.lv c2)],.ptr 404 0,.ptr 405 0,.ptr 406 0]]),(412,.arr 4 1 (List.map LV.bool l24)),(414,.nest 22 1 [(0,3,1)] (List.map el1 l25)),(415,.arr 3 1 (List.map LV.I l26))] R ?_ ?_
     ·refine sN (oLt R R ?_)
      exact zS
     refine LH.seq ?_
     refine LH.cond (t:=(decide (n23<(x22.length:Int)))) R (fun hc27=>?_) (fun hc27=>?_)
     ·replace h:=iteT h hc27
      refine LH.skip ?_
      refine thenN ?_
      refine LH.wk (Wk.eq (el:=[(0,.I p0),(1,.sptr [.lst 3 (List.map GRoom.lv c0)]),(2,.ptr 402 0),(3,.sptr [.lst 2 (List.map GNeed.lv c2)]),(4,.ptr 404 0),(5,.ptr 405 0),(6,.ptr 406 0),(9,.I n1),(12,.I (c0.length:Int)),(13,.I n1),(64,.I (x22.length:Int)),(65,.I n23)]) (ml:=[(402,.box [.arr 412 (List.length l24)]),(404,.box [.arr 414 (List.length l25)]),(405,.box [.arr 415 (List.length l26)]),(406,.box [.fn 55 [.sptr [.lst 3 (List.map GRoom.lv c0)],.ptr 402 0,.sptr [.lst 2 (List.map GNeed.lv c2)],.ptr 404 0,.ptr 405 0,.ptr 406 0]]),(412,.arr 4 1 (List.map LV.bool l24)),(414,.nest 22 1 [(0,3,1)] (List.map el1 l25)),(415,.arr 3 1 (List.map LV.I l26))]) R R R R) ?_
      refine LH.seq ?_
      refine LH.block ?_
      refine LH.seqT [(0,.I p0),(1,.sptr [.lst 3 (List.map GRoom.lv c0)]),(2,.ptr 402 0),(3,.sptr [.lst 2 (List.map GNeed.lv c2)]),(4,.ptr 404 0),(5,.ptr 405 0),(6,.ptr 406 0),(9,.I n1),(10,.I n23),(12,.I (c0.length:Int)),(13,.I n1),(64,.I (x22.length:Int)),(65,.I n23)] [(402,.box [.arr 412 (List.length l24)]),(404,.box [.arr 414 (List.length l25)]),(405,.box [.arr 415 (List.length l26)]),(406,.box [.fn 55 [.sptr [.lst 3 (List.map GRoom.lv c0)],.ptr 402 0,.sptr [.lst 2 (List.map GNeed.lv c2)],.ptr 404 0,.ptr 405 0,.ptr 406 0]]),(412,.arr 4 1 (List.map LV.bool l24)),(414,.nest 22 1 [(0,3,1)] (List.map el1 l25)),(415,.arr 3 1 (List.map LV.I l26))] R ?_ ?_
      ·refine sMi R ?_
       refine sAi R ?_
       exact zS
      obtain ⟨x28,hx28,h⟩:=bindS h
      obtain ⟨x29,hx29,h⟩:=bindS h
      obtain ⟨r30,hr30,h⟩:=bindS h
      refine LH.seqJM mixed [] [1406,1404,0,1000000414,1000172414,0,1172,1172,3] [(0,.I p0),(1,.sptr [.lst 3 (List.map GRoom.lv c0)]),(2,.ptr 402 0),(3,.sptr [.lst 2 (List.map GNeed.lv c2)]),(4,.ptr 404 0),(5,.ptr 405 0),(6,.ptr 406 0),(9,.I n1),(10,.I n23),(12,.I (c0.length:Int)),(13,.I n1),(64,.I (x22.length:Int)),(65,.I n23),(76,.bool r30.1)] [(402,.box [.arr 412 (List.length r30.2.1)]),(404,.box [.arr 414 (List.length r30.2.2.1)]),(405,.box [.arr 415 (List.length r30.2.2.2)]),(406,.box [.fn 55 [.sptr [.lst 3 (List.map GRoom.lv c0)],.ptr 402 0,.sptr [.lst 2 (List.map GNeed.lv c2)],.ptr 404 0,.ptr 405 0,.ptr 406 0]]),(412,.arr 4 1 (List.map LV.bool r30.2.1)),(414,.nest 22 1 [(0,3,1)] (List.map el1 r30.2.2.1)),(415,.arr 3 1 (List.map LV.I r30.2.2.2))] R R (by kernel_rfl) ?_ ?_
      ·refine mD R R R (fun _ b _ d=>oLdP R b R R tk113 ta113 d) ?_
       refine mD R R R (fun _ b _ d=>oLdP R b R R tk117 ta117 d) ?_
       refine mMi R ?_
       refine mFt R (Foot.put1 R (fun m0 h0=>ok_ixFo (f:=el1) (xs:=l25) (cs:=[.L x28]) te117 tk22 ts22 R (h0.trans R) R R hx28 R)) ?_
       refine mFt R (Foot.put2 R (fun m0 h0 h1=>ok_takeLF (g:=LV.I) (ys:=x28) (ls:=List.map el1 l25) (cs:=[.L x28]) (id2:=172) (cs':=[.und]) R (h0.trans R) (by simp) (focAt hx28) R R (h1.trans R) tk22 ta22 R)) ?_
       refine mMi R ?_
       refine mD R R R (fun _ b _ d=>oIxA (f:=LV.I) te22 tk3 ts3 R b R hx29 d) ?_
       refine mD R R R (fun _ b _ d=>oLdE (f:=LV.I) R b (idxOk hx29).2 R R R tk3 ta3 d) ?_
       refine mX (OpOkR.pre (pre_unlink (id:=414) (id2:=172) (o0:=0) (i:=(n1).toNat) (n2:=List.length x28) (g:=LV.I) (ys:=x28) (ls:=List.map el1 l25) (cs:=[.und]) (cs':=[.L x28]) R (focAt hx28) R R R R (prN R) R) (ok_callF (args:=[.I x29,.sptr [.lst 3 (List.map GRoom.lv c0)],.ptr 402 0,.sptr [.lst 2 (List.map GNeed.lv c2)],.ptr 404 0,.ptr 405 0,.ptr 406 0]) (ml:=[(402,.box [.arr 412 (List.length l24)]),(404,.box [.arr 414 (List.length l25)]),(405,.box [.arr 415 (List.length l26)]),(406,.box [.fn 55 [.sptr [.lst 3 (List.map GRoom.lv c0)],.ptr 402 0,.sptr [.lst 2 (List.map GNeed.lv c2)],.ptr 404 0,.ptr 405 0,.ptr 406 0]]),(412,.arr 4 1 (List.map LV.bool l24)),(414,.nest 22 1 [(0,3,1)] (List.map el1 l25)),(415,.arr 3 1 (List.map LV.I l26))]) (ml':=[(402,.box [.arr 412 (List.length r30.2.1)]),(404,.box [.arr 414 (List.length r30.2.2.1)]),(405,.box [.arr 415 (List.length r30.2.2.2)]),(406,.box [.fn 55 [.sptr [.lst 3 (List.map GRoom.lv c0)],.ptr 402 0,.sptr [.lst 2 (List.map GNeed.lv c2)],.ptr 404 0,.ptr 405 0,.ptr 406 0]]),(412,.arr 4 1 (List.map LV.bool r30.2.1)),(414,.nest 22 1 [(0,3,1)] (List.map el1 r30.2.2.1)),(415,.arr 3 1 (List.map LV.I r30.2.2.2))]) R isF55 R (sbR (sbR (sbR (sbR (sbR (sbR (sbR sbN))))))) (ih hr30) (mC R (mC R (mC R (mC R (mC R (mC (focN hx28).symm (mC R mN))))))) (newI R (newI R (newI R (newI R (newI R (newI R (newI R newN))))))) R)) ?_
       exact zM
      refine LH.cond (t:=r30.1) R (fun hc31=>?_) (fun hc31=>?_)
      ·replace h:=iteT h hc31
       obtain ⟨x32,hx32,h⟩:=bindS h
       obtain ⟨x33,hx33,h⟩:=bindS h
       refine LH.seqT [(0,.I p0),(5,.ptr 405 0),(9,.I n1)] [(402,.box [.arr 412 (List.length r30.2.1)]),(404,.box [.arr 414 (List.length (r30.2.2.1.set (n1).toNat (x32.set n23.toNat p0)))]),(405,.box [.arr 415 (List.length r30.2.2.2)]),(406,.box [.fn 55 [.sptr [.lst 3 (List.map GRoom.lv c0)],.ptr 402 0,.sptr [.lst 2 (List.map GNeed.lv c2)],.ptr 404 0,.ptr 405 0,.ptr 406 0]]),(412,.arr 4 1 (List.map LV.bool r30.2.1)),(414,.nest 22 1 [(0,3,1)] (List.map el1 (r30.2.2.1.set (n1).toNat (x32.set n23.toNat p0)))),(415,.arr 3 1 (List.map LV.I r30.2.2.2))] R ?_ ?_
       ·refine sN (oLdP R R R R tk117 ta117 ?_)
        refine sMi R ?_
        refine sX ((ok_ixFo (f:=el1) (xs:=r30.2.2.1) (cs:=[.L x32]) te117 tk22 ts22 R R R R hx32 R).ok) ?_
        refine sX ((ok_takeLF (g:=LV.I) (ys:=x32) (ls:=List.map el1 r30.2.2.1) (cs:=[.L x32]) (id2:=180) (cs':=[.und]) R R (by simp) (focAt hx32) R R R tk22 ta22 R).ok) ?_
        refine sMi R ?_
        refine sMi R ?_
        refine sN (oIxA (f:=LV.I) te22 tk3 ts3 R R R hx33 ?_)
        refine s_ (oStE (f:=LV.I) (z':=p0) R R R R tk3 ts3 R (idxOk hx33).2 R ?_)
        exact s0 (Wk.trans (Wk.unlinkF (id:=414) (id2:=180) (o0:=0) (i:=(n1).toNat) (n2:=List.length x32) (g:=LV.I) (ys:=(x32.set n23.toNat p0)) (ls:=List.map el1 r30.2.2.1) (cs:=[.und]) (cs':=[.L (x32.set n23.toNat p0)]) R (focAt hx32) R R R (by simp) (prN R) R) (Wk.to (eQ ⟨R,R,R,trivial⟩) (mC R (mC ((show _=some (LE.box [.arr 414 (List.length r30.2.2.1)]) from R).trans (by simp)) (mC R (mC R (mC R (mC (unfN R R) (mC R mN))))))) R (prK R)))
       obtain ⟨x34,hx34,h⟩:=bindS h
       refine LH.seqT [] [(402,.box [.arr 412 (List.length r30.2.1)]),(404,.box [.arr 414 (List.length (r30.2.2.1.set (n1).toNat (x32.set n23.toNat p0)))]),(405,.box [.arr 415 (List.length (r30.2.2.2.set p0.toNat n1))]),(406,.box [.fn 55 [.sptr [.lst 3 (List.map GRoom.lv c0)],.ptr 402 0,.sptr [.lst 2 (List.map GNeed.lv c2)],.ptr 404 0,.ptr 405 0,.ptr 406 0]]),(412,.arr 4 1 (List.map LV.bool r30.2.1)),(414,.nest 22 1 [(0,3,1)] (List.map el1 (r30.2.2.1.set (n1).toNat (x32.set n23.toNat p0)))),(415,.arr 3 1 (List.map LV.I (r30.2.2.2.set p0.toNat n1)))] R ?_ ?_
       ·refine sN (oLdP R R R R tk22 ta22 ?_)
        refine sMi R ?_
        refine sMi R ?_
        refine sN (oIxA (f:=LV.I) te22 tk3 ts3 R R R hx34 ?_)
        refine s_ (oStE (f:=LV.I) (z':=n1) R R R R tk3 ts3 R (idxOk hx34).2 R ?_)
        exact s0 (Wk.to eN (mC R (mC R (mC ((show _=some (LE.box [.arr 415 (List.length r30.2.2.2)]) from R).trans (by simp)) (mC R (mC R (mC R (mC R mN))))))) R (prK R))
       refine LH.seqT [(8,.bool true)] [(402,.box [.arr 412 (List.length r30.2.1)]),(404,.box [.arr 414 (List.length (r30.2.2.1.set (n1).toNat (x32.set n23.toNat p0)))]),(405,.box [.arr 415 (List.length (r30.2.2.2.set p0.toNat n1))]),(406,.box [.fn 55 [.sptr [.lst 3 (List.map GRoom.lv c0)],.ptr 402 0,.sptr [.lst 2 (List.map GNeed.lv c2)],.ptr 404 0,.ptr 405 0,.ptr 406 0]]),(412,.arr 4 1 (List.map LV.bool r30.2.1)),(414,.nest 22 1 [(0,3,1)] (List.map el1 (r30.2.2.1.set (n1).toNat (x32.set n23.toNat p0)))),(415,.arr 3 1 (List.map LV.I (r30.2.2.2.set p0.toNat n1)))] R ?_ ?_
       ·refine sAb R ?_
        exact zS
       refine LH.ret ?_
       refine blockR ?_
       refine thenR ?_
       refine roundR ?_
       refine blockR ?_
       refine blockR ?_
       refine thenR ?_
       refine roundR ?_
       refine blockR ?_
       refine thenR ?_
       obtain rfl:=oI h
       exact retE (aT Tryz.results55) (lrT R (lr0 ⟨memN (mC R (mC R (mC R (mC R (mC R (mC R (mC R mN))))))),R,prK R,Sub.rfl⟩))
      replace h:=iteF h hc31
      refine LH.skip ?_
      refine blockN ?_
      refine thenN ?_
      refine LH.loneT [(0,.I p0),(1,.sptr [.lst 3 (List.map GRoom.lv c0)]),(2,.ptr 402 0),(3,.sptr [.lst 2 (List.map GNeed.lv c2)]),(4,.ptr 404 0),(5,.ptr 405 0),(6,.ptr 406 0),(9,.I n1),(12,.I (c0.length:Int)),(13,.I n1),(64,.I (x22.length:Int)),(65,.I (i64 (n23+1)))] [(402,.box [.arr 412 (List.length r30.2.1)]),(404,.box [.arr 414 (List.length r30.2.2.1)]),(405,.box [.arr 415 (List.length r30.2.2.2)]),(406,.box [.fn 55 [.sptr [.lst 3 (List.map GRoom.lv c0)],.ptr 402 0,.sptr [.lst 2 (List.map GNeed.lv c2)],.ptr 404 0,.ptr 405 0,.ptr 406 0]]),(412,.arr 4 1 (List.map LV.bool r30.2.1)),(414,.nest 22 1 [(0,3,1)] (List.map el1 r30.2.2.1)),(415,.arr 3 1 (List.map LV.I r30.2.2.2))] R ?_ ?_
      ·refine sN (oAdd R R ?_)
       refine sMi R ?_
       exact zS
      exact roundI ⟨(i64 (n23+1)),r30.2.1,r30.2.2.1,r30.2.2.2,hrec2 ▸ h,R,R⟩ (Wk.eq R R R R)
     replace h:=iteF h hc27
     refine LH.exit ?_
     refine thenX ?_
     refine roundX ?_
     refine blockH ?_
     refine blockN ?_
     refine thenN ?_
     refine LH.loneT [(0,.I p0),(1,.sptr [.lst 3 (List.map GRoom.lv c0)]),(2,.ptr 402 0),(3,.sptr [.lst 2 (List.map GNeed.lv c2)]),(4,.ptr 404 0),(5,.ptr 405 0),(6,.ptr 406 0),(12,.I (c0.length:Int)),(13,.I (i64 (n1+1)))] [(402,.box [.arr 412 (List.length l24)]),(404,.box [.arr 414 (List.length l25)]),(405,.box [.arr 415 (List.length l26)]),(406,.box [.fn 55 [.sptr [.lst 3 (List.map GRoom.lv c0)],.ptr 402 0,.sptr [.lst 2 (List.map GNeed.lv c2)],.ptr 404 0,.ptr 405 0,.ptr 406 0]]),(412,.arr 4 1 (List.map LV.bool l24)),(414,.nest 22 1 [(0,3,1)] (List.map el1 l25)),(415,.arr 3 1 (List.map LV.I l26))] R ?_ ?_
     ·refine sN (oAdd R R ?_)
      refine sMi R ?_
      exact zS
     exact roundI ⟨(i64 (n1+1)),l24,l25,l26,hrec1 ▸ h,R,R⟩ (Wk.eq R R R R)
    replace h:=iteF h hc5
    refine LH.exit ?_
    refine thenX ?_
    refine roundX ?_
    refine blockH ?_
    refine thenN ?_
    refine LH.seqT [(8,.bool false)] [(402,.box [.arr 412 (List.length l2)]),(404,.box [.arr 414 (List.length l3)]),(405,.box [.arr 415 (List.length l4)]),(406,.box [.fn 55 [.sptr [.lst 3 (List.map GRoom.lv c0)],.ptr 402 0,.sptr [.lst 2 (List.map GNeed.lv c2)],.ptr 404 0,.ptr 405 0,.ptr 406 0]]),(412,.arr 4 1 (List.map LV.bool l2)),(414,.nest 22 1 [(0,3,1)] (List.map el1 l3)),(415,.arr 3 1 (List.map LV.I l4))] R ?_ ?_
    ·refine sAb R ?_
     exact zS
    refine LH.ret ?_
    obtain rfl:=oI h
    exact retE (aT Tryz.results55) (lrT R (lr0 ⟨memN (mC R (mC R (mC R (mC R (mC R (mC R (mC R mN))))))),R,prK R,Sub.rfl⟩))

theorem q182q {p0:Int} {p1:Int} {p2:Int} {r:Int} (h:q81q p0 p1 p2=some r):LCall Tryz.prog 108 [.I p0,.I p1,.I p2] (Mem.of []) (.I r) (Mem.of []):=by
  unfold q81q at h
  refine bodyT Tryz.func108 R (nT Tryz.ntmps108 R) (LH.wk (Wk.eq (el:=[(0,.I p0),(1,.I p1),(2,.I p2)]) (ml:=[]) R R R R) (LH.seqT [(0,.I p0),(1,.I p1),(2,.I p2)] [] R (sAi R zS) (LH.seq ?_)))
  obtain ⟨w2,hv,h⟩:=bindS h
  refine LH.seqT [(0,.I p0),(1,.I p1),(2,.I p2),(25,.bool w2)] [] R ?_ ?_
  ·refine sMi R ?_
   obtain ⟨r3,hr3,hv⟩:=bindS hv
   refine sN (oCP (args:=[.I p2]) R isF102 R (sbR sbN) (q142q hr3) R (sN (oNot R (sMb R ?_))))
   by_cases hb4:(!r3)=true
   ·replace hv:=iteT hv hb4
    refine sF R R hb4 (sF R R hb4 (sN (oPkT (cB hb4) (v:=(.bool _)) R (sMb R (sF R R R (sF R R R (sN (oPkT R (v:=(.bool _)) R (sMb R (sF R R R (sF R R R (sN (oPkT R (v:=(.bool _)) R (sMb R (sF R R R (sF R R R (sN (oPkT R (v:=(.bool _)) R ?_))))))))))))))))))
    obtain rfl:=oI hv
    exact zS
   ·replace hb4:=bF hb4
    replace hv:=iteF hv hb4
    refine sT R (cB hb4) (oM (v:=(.int _ _)) R (sT R (cB hb4) (oLt R R (sN (oPkF (cB hb4) (v:=(.bool _)) R (sMb R ?_))))))
    by_cases hb5:(decide (p0<0))=true
    ·replace hv:=iteT hv hb5
     refine sF R R hb5 (sF R R hb5 (sN (oPkT (cB hb5) (v:=(.bool _)) R (sMb R (sF R R R (sF R R R (sN (oPkT R (v:=(.bool _)) R (sMb R (sF R R R (sF R R R (sN (oPkT R (v:=(.bool _)) R ?_)))))))))))))
     obtain rfl:=oI hv
     exact zS
    ·replace hb5:=bF hb5
     replace hv:=iteF hv hb5
     refine sT R (cB hb5) (oM (v:=(.int _ _)) R (sT R (cB hb5) (oGe R R (sN (oPkF (cB hb5) (v:=(.bool _)) R (sMb R ?_))))))
     by_cases hb6:(decide (p0 ≥ 8))=true
     ·replace hv:=iteT hv hb6
      refine sF R R hb6 (sF R R hb6 (sN (oPkT (cB hb6) (v:=(.bool _)) R (sMb R (sF R R R (sF R R R (sN (oPkT R (v:=(.bool _)) R ?_))))))))
      obtain rfl:=oI hv
      exact zS
     ·replace hb6:=bF hb6
      replace hv:=iteF hv hb6
      refine sT R (cB hb6) (oM (v:=(.int _ _)) R (sT R (cB hb6) (oLt R R (sN (oPkF (cB hb6) (v:=(.bool _)) R (sMb R ?_))))))
      by_cases hb7:(decide (p1<0))=true
      ·replace hv:=iteT hv hb7
       refine sF R R hb7 (sF R R hb7 (sN (oPkT (cB hb7) (v:=(.bool _)) R ?_)))
       obtain rfl:=oI hv
       exact zS
      ·replace hb7:=bF hb7
       replace hv:=iteF hv hb7
       refine sT R (cB hb7) (oM (v:=(.int _ _)) R (sT R (cB hb7) (oGe R R (sN (oPkF (cB hb7) (v:=(.bool _)) R ?_)))))
       obtain rfl:=oI hv
       exact zS
  clear hv
  refine LH.cond (t:=w2) R (fun hc8=>?_) (fun hc8=>?_)
  ·replace h:=iteT h hc8
   refine LH.seqT [(6,.I 0)] [] R (sAi R zS) (LH.ret (thenR ?_))
   obtain rfl:=oI h
   exact retE (aT Tryz.results108) (lrT R (lr0 ⟨memN mN,R,prK R,Sub.rfl⟩))
  replace h:=iteF h hc8
  refine LH.skip (thenN (LH.wk (Wk.eq (el:=[(0,.I p0),(1,.I p1),(2,.I p2)]) (ml:=[]) R R R R) (LH.seq (LH.seqT [(0,.I p0),(1,.I p1),(2,.I p2),(27,.bool (p2 == 2))] [] R (sMi R (sN (oEq R R zS))) (LH.cond (t:=(p2 == 2)) R (fun hc9=>?_) (fun hc9=>?_))))))
  ·replace h:=iteT h hc9
   obtain ⟨v10,hv10,h⟩:=bindS h
   refine LH.seqT [(6,.I v10)] [] R (sMi R (sMi R (sN (oAdd R R (sMi R (sN (oRem R R hv10 (sAi R zS)))))))) (LH.ret (thenR ?_))
   obtain rfl:=oI h
   exact retE (aT Tryz.results108) (lrT R (lr0 ⟨memN mN,R,prK R,Sub.rfl⟩))
  replace h:=iteF h hc9
  refine LH.skip (thenN ?_)
  obtain ⟨v11,hv11,h⟩:=bindS h
  refine LH.seqT [(6,.I v11)] [] R (sMi R (sMi R (sN (oMul R R (sN (oAdd R R (sMi R (sN (oRem R R hv11 (sAi R zS)))))))))) (LH.ret ?_)
  obtain rfl:=oI h
  exact retE (aT Tryz.results108) (lrT R (lr0 ⟨memN mN,R,prK R,Sub.rfl⟩))

set_option maxHeartbeats 4000000 in
theorem q187q {F:Nat} {p0:List GRoom} {p1:List GNeed} {p2:Int} {p3:List Int} {r:List Gq8 × Int} (h:q132q F p0 p1 p2 p3=some r):LCall Tryz.prog 58 [.lst 3 (List.map GRoom.lv p0),.lst 2 (List.map GNeed.lv p1),.I p2,.L p3] (Mem.of []) (.tup [.lst 5 (List.map Gq8.lv r.1),.I r.2]) (Mem.of []):=by
  unfold q132q at h
  refine bodyT Tryz.func58 R (nT Tryz.ntmps58 R) (LH.wk (Wk.eq (el:=[(0,.lst 3 (List.map GRoom.lv p0)),(1,.lst 2 (List.map GNeed.lv p1)),(2,.I p2),(3,.L p3)]) (ml:=[]) R R R R) (LH.seqT [(0,.lst 3 (List.map GRoom.lv p0)),(1,.lst 2 (List.map GNeed.lv p1)),(2,.I p2),(3,.L p3)] [] R (sAn R (sAi R zS)) (LH.seq ?_)))
  obtain ⟨r1,hr1,h⟩:=bindS h
  refine LH.seqT [(0,.lst 3 (List.map GRoom.lv p0)),(1,.lst 2 (List.map GNeed.lv p1)),(2,.I p2),(3,.L p3),(10,.I r1)] [] R (sMl R (sMl R (sMi R (sN (oCP (args:=[.lst 3 (List.map GRoom.lv p0),.lst 2 (List.map GNeed.lv p1),.I p2]) R isF53 R (sbR (sbR (sbR sbN))) (q151q hr1) R (sAi R zS)))))) (LH.seqT [(0,.lst 3 (List.map GRoom.lv p0)),(1,.lst 2 (List.map GNeed.lv p1)),(2,.I p2),(3,.L p3),(10,.I r1),(26,.bool (r1 != 0))] [] R (sMi R (sN (oNe R R zS))) (LH.cond (t:=(r1 != 0)) R (fun hc2=>?_) (fun hc2=>?_)))
  ·replace h:=iteT h hc2
   refine LH.seqT [(8,.nil),(9,.I r1)] [] R (sMi R (sAn R (sAi R zS))) (LH.ret (thenR ?_))
   obtain rfl:=oI h
   exact retE (aT Tryz.results58) (lrT R (lrT R (lr0 ⟨memN mN,R,prK R,(Sub.tup (sbL (sbR sbN)))⟩)))
  replace h:=iteF h hc2
  refine LH.skip (thenN (LH.wk (Wk.eq (el:=[(0,.lst 3 (List.map GRoom.lv p0)),(1,.lst 2 (List.map GNeed.lv p1)),(2,.I p2),(3,.L p3)]) (ml:=[]) R R R R) (LH.seq (LH.seqT [(0,.lst 3 (List.map GRoom.lv p0)),(1,.lst 2 (List.map GNeed.lv p1)),(2,.I p2),(3,.L p3),(32,.bool ((p3.length:Int) != (p1.length:Int)))] [] R (sMl R (sN (oLnL (f:=LV.I) te22 R (sMl R (sN (oLnL (f:=GNeed.lv) te37 R (sN (oNe R R zS)))))))) (LH.cond (t:=((p3.length:Int) != (p1.length:Int))) R (fun hc3=>?_) (fun hc3=>?_))))))
  ·replace h:=iteT h hc3
   refine LH.seqT [(8,.nil),(9,.I 1)] [] R (sAn R (sAi R zS)) (LH.ret (thenR ?_))
   obtain rfl:=oI h
   exact retE (aT Tryz.results58) (lrT R (lrT R (lr0 ⟨memN mN,R,prK R,(Sub.tup (sbL (sbR sbN)))⟩)))
  replace h:=iteF h hc3
  refine LH.skip (thenN (LH.wk (Wk.eq (el:=[(0,.lst 3 (List.map GRoom.lv p0)),(1,.lst 2 (List.map GNeed.lv p1)),(2,.I p2),(3,.L p3)]) (ml:=[]) R R R R) (LH.seq (LH.seqT [(0,.lst 3 (List.map GRoom.lv p0)),(1,.lst 2 (List.map GNeed.lv p1)),(2,.I p2),(3,.L p3),(33,.L p3),(34,.I (p3.length:Int)),(35,.I 0)] [] R (sMl R (sN (oLnL (f:=LV.I) te22 R (sMi R zS)))) (LH.block (LH.loop (fun n e m=>∃ (n4:Int),q94q F p0 p1 p2 p3 n n4=some r∧e=Env.of [(0,.lst 3 (List.map GRoom.lv p0)),(1,.lst 2 (List.map GNeed.lv p1)),(2,.I p2),(3,.L p3),(33,.L p3),(34,.I (p3.length:Int)),(35,.I n4)]∧m=Mem.of []) F ⟨0,h,R,R⟩ ?_))))))
  clear h
  rintro n e m ⟨n4,h,rfl,rfl⟩
  rcases n with _ | n
  · cases (show Option.none=some _ from h)
  obtain ⟨rec1,hrec1⟩:∃ f,f=q94q F p0 p1 p2 p3 n:=⟨_,rfl⟩
  replace h:q49q F p0 p1 p2 p3 rec1 n4=some r:=hrec1 ▸ h
  unfold q49q at h
  refine LH.seqT [(0,.lst 3 (List.map GRoom.lv p0)),(1,.lst 2 (List.map GNeed.lv p1)),(2,.I p2),(3,.L p3),(33,.L p3),(34,.I (p3.length:Int)),(35,.I n4),(36,.bool (decide (n4<(p3.length:Int))))] [] R (sN (oLt R R zS)) (LH.seq (LH.cond (t:=(decide (n4<(p3.length:Int)))) R (fun hc5=>?_) (fun hc5=>?_)))
  ·replace h:=iteT h hc5
   refine LH.skip (thenN (LH.wk (Wk.eq (el:=[(0,.lst 3 (List.map GRoom.lv p0)),(1,.lst 2 (List.map GNeed.lv p1)),(2,.I p2),(3,.L p3),(33,.L p3),(34,.I (p3.length:Int)),(35,.I n4)]) (ml:=[]) R R R R) (LH.seq (LH.block ?_))))
   obtain ⟨x6,hx6,h⟩:=bindS h
   refine LH.seqT [(0,.lst 3 (List.map GRoom.lv p0)),(1,.lst 2 (List.map GNeed.lv p1)),(2,.I p2),(3,.L p3),(12,.I x6),(33,.L p3),(34,.I (p3.length:Int)),(35,.I n4)] [] R (sN (oIx (f:=LV.I) te22 tk3 ts3 R R okI hx6 R (sN (oLd R tk3 ta3 (sAi R zS))))) (LH.seqT [(0,.lst 3 (List.map GRoom.lv p0)),(1,.lst 2 (List.map GNeed.lv p1)),(2,.I p2),(3,.L p3),(33,.L p3),(34,.I (p3.length:Int)),(35,.I n4),(46,.bool ((decide (x6<0)) || (decide (x6 ≥ (p0.length:Int)))))] [] R ?_ ?_)
   ·refine sMi R (sN (oLt R R (sMb R ?_)))
    by_cases hb8:(decide (x6<0))=true
    ·exact sF R R hb8 (sF R R hb8 (sF R R hb8 (sF R R hb8 (sN (oPkT (cB hb8) (v:=(.bool _)) R (s0 (Wk.to (eC R (eC R (eC R (eC R (eC R (eC R (eC R (eC (cB (orT hb8)) eN)))))))) mN R (prK R))))))))
    ·replace hb8:=bF hb8
     exact sT R (cB hb8) (oM (v:=(.int _ _)) R (sT R (cB hb8) (oM (v:=(.lst _ _)) R (sT R (cB hb8) (oLnL (f:=GRoom.lv) te34 R (sT R (cB hb8) (oGe R R (sN (oPkF (cB hb8) (v:=(.bool _)) R (s0 (Wk.to (eC R (eC R (eC R (eC R (eC R (eC R (eC R (eC (cB (orF hb8)) eN)))))))) mN R (prK R))))))))))))
   refine LH.cond (t:=((decide (x6<0)) || (decide (x6 ≥ (p0.length:Int))))) R (fun hc9=>?_) (fun hc9=>?_)
   ·replace h:=iteT h hc9
    refine LH.seqT [(8,.nil),(9,.I 2)] [] R (sAn R (sAi R zS)) (LH.ret (blockR (thenR (roundR (blockR (thenR ?_))))))
    obtain rfl:=oI h
    exact retE (aT Tryz.results58) (lrT R (lrT R (lr0 ⟨memN mN,R,prK R,(Sub.tup (sbL (sbR sbN)))⟩)))
   replace h:=iteF h hc9
   refine LH.skip (blockN (thenN (LH.loneT [(0,.lst 3 (List.map GRoom.lv p0)),(1,.lst 2 (List.map GNeed.lv p1)),(2,.I p2),(3,.L p3),(33,.L p3),(34,.I (p3.length:Int)),(35,.I (i64 (n4+1)))] [] R (sN (oAdd R R (sMi R zS))) ?_)))
   exact roundI ⟨(i64 (n4+1)),hrec1 ▸ h,R,R⟩ (Wk.eq R R R R)
  replace h:=iteF h hc5
  refine LH.exit (thenX (roundX (blockH (thenN (LH.wk (Wk.eq (el:=[(0,.lst 3 (List.map GRoom.lv p0)),(1,.lst 2 (List.map GNeed.lv p1)),(2,.I p2),(3,.L p3)]) (ml:=[]) R R R R) (LH.seq (LH.seqT [(0,.lst 3 (List.map GRoom.lv p0)),(1,.lst 2 (List.map GNeed.lv p1)),(2,.I p2),(3,.L p3),(48,.L p3),(49,.I (p3.length:Int)),(50,.I 0)] [] R (sMl R (sN (oLnL (f:=LV.I) te22 R (sMi R zS)))) (LH.block (LH.loop (fun n e m=>∃ (n10:Int),q95q F p0 p1 p2 p3 n n10=some r∧e=Env.of [(0,.lst 3 (List.map GRoom.lv p0)),(1,.lst 2 (List.map GNeed.lv p1)),(2,.I p2),(3,.L p3),(48,.L p3),(49,.I (p3.length:Int)),(50,.I n10)]∧m=Mem.of []) F ⟨0,h,R,R⟩ ?_)))))))))
  clear h
  rintro n e m ⟨n10,h,rfl,rfl⟩
  rcases n with _ | n
  · cases (show Option.none=some _ from h)
  obtain ⟨rec2,hrec2⟩:∃ f,f=q95q F p0 p1 p2 p3 n:=⟨_,rfl⟩
  replace h:q50q F p0 p1 p2 p3 rec2 n10=some r:=hrec2 ▸ h
  unfold q50q at h
  refine LH.seqT [(0,.lst 3 (List.map GRoom.lv p0)),(1,.lst 2 (List.map GNeed.lv p1)),(2,.I p2),(3,.L p3),(48,.L p3),(49,.I (p3.length:Int)),(50,.I n10),(51,.bool (decide (n10<(p3.length:Int))))] [] R (sN (oLt R R zS)) (LH.seq (LH.cond (t:=(decide (n10<(p3.length:Int)))) R (fun hc11=>?_) (fun hc11=>?_)))
  ·replace h:=iteT h hc11
   refine LH.skip (thenN (LH.wk (Wk.eq (el:=[(0,.lst 3 (List.map GRoom.lv p0)),(1,.lst 2 (List.map GNeed.lv p1)),(2,.I p2),(3,.L p3),(48,.L p3),(49,.I (p3.length:Int)),(50,.I n10)]) (ml:=[]) R R R R) (LH.seq (LH.block ?_))))
   obtain ⟨x12,hx12,h⟩:=bindS h
   refine LH.seqT [(0,.lst 3 (List.map GRoom.lv p0)),(1,.lst 2 (List.map GNeed.lv p1)),(2,.I p2),(3,.L p3),(13,.I n10),(14,.I x12),(48,.L p3),(49,.I (p3.length:Int)),(50,.I n10)] [] R (sMi R (sN (oIx (f:=LV.I) te22 tk3 ts3 R R okI hx12 R (sN (oLd R tk3 ta3 (sAi R (sAi R zS))))))) ?_
   obtain ⟨x13,hx13,h⟩:=bindS h
   obtain ⟨x14,hx14,h⟩:=bindS h
   obtain ⟨r15,hr15,h⟩:=bindS h
   refine LH.seqJM mixed [] [0,0,0,0,0,0,0,0,0,0] [(0,.lst 3 (List.map GRoom.lv p0)),(1,.lst 2 (List.map GNeed.lv p1)),(2,.I p2),(3,.L p3),(48,.L p3),(49,.I (p3.length:Int)),(50,.I n10),(64,.bool (!r15))] [] R R (by kernel_rfl) (mMl R (mMi R (mN0 (oIx (f:=GRoom.lv) te34 tk72 ts72 R R GRoom.ok hx13 R ⟨R,mN0 (oLdA R tk72 ta72 ts72 R R ⟨R,mMl R (mMi R (mN0 (oIx (f:=GNeed.lv) te37 tk60 ts60 R R GNeed.ok hx14 R ⟨R,mN0 (oLdA R tk60 ta60 ts60 R R ⟨R,mN0 (oCP (args:=[.agg [.I x13.Rows,.I x13.Cols,.I x13.Offers],.agg [.I x14.Candidate,.I x14.Needs]]) R isF20 R (sbR (sbR sbN)) (q133q hr15) R ⟨R,mN0 (oNot R ⟨R,zM⟩)⟩)⟩)⟩)))⟩)⟩)))) (LH.cond (t:=(!r15)) R (fun hc16=>?_) (fun hc16=>?_))
   ·replace h:=iteT h hc16
    refine LH.seqT [(8,.nil),(9,.I 9)] [] R (sAn R (sAi R zS)) (LH.ret (blockR (thenR (roundR (blockR (thenR ?_))))))
    obtain rfl:=oI h
    exact retE (aT Tryz.results58) (lrT R (lrT R (lr0 ⟨memN mN,R,prK R,(Sub.tup (sbL (sbR sbN)))⟩)))
   replace h:=iteF h hc16
   refine LH.skip (blockN (thenN (LH.loneT [(0,.lst 3 (List.map GRoom.lv p0)),(1,.lst 2 (List.map GNeed.lv p1)),(2,.I p2),(3,.L p3),(48,.L p3),(49,.I (p3.length:Int)),(50,.I (i64 (n10+1)))] [] R (sN (oAdd R R (sMi R zS))) ?_)))
   exact roundI ⟨(i64 (n10+1)),hrec2 ▸ h,R,R⟩ (Wk.eq R R R R)
  replace h:=iteF h hc11
  refine LH.exit (thenX (roundX (blockH (thenN ?_))))
  obtain ⟨v17,hv17,h⟩:=bindS h
  refine LH.seqT [(0,.lst 3 (List.map GRoom.lv p0)),(1,.lst 2 (List.map GNeed.lv p1)),(2,.I p2),(3,.L p3),(15,.arr 168 (List.length v17))] [(168,.arr 3 1 (List.map LV.I v17))] R (sMl R (sN (oLnL (f:=GRoom.lv) te34 R (sN (oMk (f:=LV.I) (z:=0) (id:=168) R te22 tz3 tr3 ts3 R R R hv17 R (sAa R zS)))))) ?_
  obtain ⟨v18,hv18,h⟩:=bindS h
  refine LH.seqT [(0,.lst 3 (List.map GRoom.lv p0)),(1,.lst 2 (List.map GNeed.lv p1)),(2,.I p2),(3,.L p3),(15,.arr 168 (List.length v17)),(16,.arr 171 (List.length v18))] [(168,.arr 3 1 (List.map LV.I v17)),(171,.arr 69 5 (List.map Gq8.lv v18))] R (sMl R (sN (oLnL (f:=GNeed.lv) te37 R (sN (oMk (f:=Gq8.lv) (z:=(Gq8.mk 0 (GSeat.mk 0 0 0) 0)) (id:=171) R te61 tz69 tr69 ts69 R R R hv18 R (sAa R zS)))))) (LH.seq (LH.seqT [(0,.lst 3 (List.map GRoom.lv p0)),(1,.lst 2 (List.map GNeed.lv p1)),(2,.I p2),(15,.arr 168 (List.length v17)),(16,.arr 171 (List.length v18)),(72,.L p3),(73,.I (p3.length:Int)),(74,.I 0)] [(168,.arr 3 1 (List.map LV.I v17)),(171,.arr 69 5 (List.map Gq8.lv v18))] R (sMl R (sN (oLnL (f:=LV.I) te22 R (sMi R zS)))) (LH.block (LH.loop (fun n e m=>∃ (n19:Int) (l20:List Int) (l21:List Gq8),q96q p0 p1 p2 p3 n n19 l20 l21=some r∧e=Env.of [(0,.lst 3 (List.map GRoom.lv p0)),(1,.lst 2 (List.map GNeed.lv p1)),(2,.I p2),(15,.arr 168 (List.length l20)),(16,.arr 171 (List.length l21)),(72,.L p3),(73,.I (p3.length:Int)),(74,.I n19)]∧m=Mem.of [(168,.arr 3 1 (List.map LV.I l20)),(171,.arr 69 5 (List.map Gq8.lv l21))]) F ⟨0,v17,v18,h,R,R⟩ ?_))))
  clear h
  rintro n e m ⟨n19,l20,l21,h,rfl,rfl⟩
  rcases n with _ | n
  · cases (show Option.none=some _ from h)
  obtain ⟨rec3,hrec3⟩:∃ f,f=q96q p0 p1 p2 p3 n:=⟨_,rfl⟩
  replace h:q51q p0 p1 p2 p3 rec3 n19 l20 l21=some r:=hrec3 ▸ h
  unfold q51q at h
  refine LH.seqT [(0,.lst 3 (List.map GRoom.lv p0)),(1,.lst 2 (List.map GNeed.lv p1)),(2,.I p2),(15,.arr 168 (List.length l20)),(16,.arr 171 (List.length l21)),(72,.L p3),(73,.I (p3.length:Int)),(74,.I n19),(75,.bool (decide (n19<(p3.length:Int))))] [(168,.arr 3 1 (List.map LV.I l20)),(171,.arr 69 5 (List.map Gq8.lv l21))] R (sN (oLt R R zS)) (LH.seq (LH.cond (t:=(decide (n19<(p3.length:Int)))) R (fun hc22=>?_) (fun hc22=>?_)))
  ·replace h:=iteT h hc22
   refine LH.skip (thenN (LH.wk (Wk.eq (el:=[(0,.lst 3 (List.map GRoom.lv p0)),(1,.lst 2 (List.map GNeed.lv p1)),(2,.I p2),(15,.arr 168 (List.length l20)),(16,.arr 171 (List.length l21)),(72,.L p3),(73,.I (p3.length:Int)),(74,.I n19)]) (ml:=[(168,.arr 3 1 (List.map LV.I l20)),(171,.arr 69 5 (List.map Gq8.lv l21))]) R R R R) (LH.seq (LH.block ?_))))
   obtain ⟨x23,hx23,h⟩:=bindS h
   refine LH.seqT [(0,.lst 3 (List.map GRoom.lv p0)),(1,.lst 2 (List.map GNeed.lv p1)),(2,.I p2),(15,.arr 168 (List.length l20)),(16,.arr 171 (List.length l21)),(17,.I n19),(18,.I x23),(72,.L p3),(73,.I (p3.length:Int)),(74,.I n19)] [(168,.arr 3 1 (List.map LV.I l20)),(171,.arr 69 5 (List.map Gq8.lv l21))] R (sMi R (sN (oIx (f:=LV.I) te22 tk3 ts3 R R okI hx23 R (sN (oLd R tk3 ta3 (sAi R (sAi R zS))))))) (LH.seq ?_)
   obtain ⟨x24,hx24,h⟩:=bindS h
   obtain ⟨x25,hx25,h⟩:=bindS h
   obtain ⟨r26,hr26,h⟩:=bindS h
   refine LH.seqJM mixed [] [0,0,1168,1168,0,0,0,0,0,0] [(0,.lst 3 (List.map GRoom.lv p0)),(1,.lst 2 (List.map GNeed.lv p1)),(2,.I p2),(15,.arr 168 (List.length l20)),(16,.arr 171 (List.length l21)),(17,.I n19),(18,.I x23),(72,.L p3),(73,.I (p3.length:Int)),(74,.I n19),(88,.bool (x24 == r26))] [(168,.arr 3 1 (List.map LV.I l20)),(171,.arr 69 5 (List.map Gq8.lv l21))] R R (by kernel_rfl) (mMa R (mMi R (mD R R R (fun _ b _ d=>oIxA (f:=LV.I) te22 tk3 ts3 R b R hx24 d) (mD R R R (fun _ b _ d=>oLdE (f:=LV.I) R b (idxOk hx24).2 R R R tk3 ta3 d) (mMl R (mMi R (mN0 (oIx (f:=GRoom.lv) te34 tk72 ts72 R R GRoom.ok hx25 R ⟨R,mN0 (oLdA R tk72 ta72 ts72 R R ⟨R,mN0 (oCP (args:=[.agg [.I x25.Rows,.I x25.Cols,.I x25.Offers]]) R isF56 R (sbR sbN) (q134q hr26) R ⟨R,mN0 (oEq R R ⟨R,zM⟩)⟩)⟩)⟩)))))))) (LH.cond (t:=(x24 == r26)) R (fun hc27=>?_) (fun hc27=>?_))
   ·replace h:=iteT h hc27
    refine LH.seqT [(8,.nil),(9,.I 3)] [] R (sAn R (sAi R zS)) (LH.ret (thenR (blockR (thenR (roundR (blockR (thenR ?_)))))))
    obtain rfl:=oI h
    exact retE (aT Tryz.results58) (lrT R (lrT R (lr0 ⟨memN mN,R,prK R,(Sub.tup (sbL (sbR sbN)))⟩)))
   replace h:=iteF h hc27
   refine LH.skip (thenN ?_)
   obtain ⟨x28,hx28,h⟩:=bindS h
   obtain ⟨x29,hx29,h⟩:=bindS h
   obtain ⟨v30,hv30,h⟩:=bindS h
   obtain ⟨x31,hx31,h⟩:=bindS h
   obtain ⟨x32,hx32,h⟩:=bindS h
   obtain ⟨v33,hv33,h⟩:=bindS h
   refine LH.seqJM mixed [] [0,0,1168,1168,0,0,0,0,0,0,0,0,1168,1168,0,0,0,0,0,0,0,0] [(0,.lst 3 (List.map GRoom.lv p0)),(1,.lst 2 (List.map GNeed.lv p1)),(2,.I p2),(15,.arr 168 (List.length l20)),(16,.arr 171 (List.length l21)),(17,.I n19),(18,.I x23),(19,.I v30),(20,.I v33),(72,.L p3),(73,.I (p3.length:Int)),(74,.I n19)] [(168,.arr 3 1 (List.map LV.I l20)),(171,.arr 69 5 (List.map Gq8.lv l21))] R R (by kernel_rfl) ?_ ?_
   ·exact mMa R (mMi R (mD R R R (fun _ b _ d=>oIxA (f:=LV.I) te22 tk3 ts3 R b R hx28 d) (mD R R R (fun _ b _ d=>oLdE (f:=LV.I) R b (idxOk hx28).2 R R R tk3 ta3 d) (mMl R (mMi R (mN0 (oIx (f:=GRoom.lv) te34 tk72 ts72 R R GRoom.ok hx29 R ⟨R,mN0 (oFaS tf72_1 tk3 ts3 R R R ⟨R,mN0 (oLd R tk3 ta3 ⟨R,mN0 (oQuo R R hv30 ⟨R,mMa R (mMi R (mD R R R (fun _ b _ d=>oIxA (f:=LV.I) te22 tk3 ts3 R b R hx31 d) (mD R R R (fun _ b _ d=>oLdE (f:=LV.I) R b (idxOk hx31).2 R R R tk3 ta3 d) (mMl R (mMi R (mN0 (oIx (f:=GRoom.lv) te34 tk72 ts72 R R GRoom.ok hx32 R ⟨R,mN0 (oFaS tf72_1 tk3 ts3 R R R ⟨R,mN0 (oLd R tk3 ta3 ⟨R,mN0 (oRem R R hv33 ⟨R,mAi R (mAi R zM)⟩)⟩)⟩)⟩)))))))⟩)⟩)⟩)⟩)))))))
   obtain ⟨x34,hx34,h⟩:=bindS h
   obtain ⟨x35,hx35,h⟩:=bindS h
   refine LH.seqT [(0,.lst 3 (List.map GRoom.lv p0)),(1,.lst 2 (List.map GNeed.lv p1)),(2,.I p2),(15,.arr 168 (List.length (l20.set x23.toNat (i64 (x34+1))))),(16,.arr 171 (List.length l21)),(17,.I n19),(18,.I x23),(19,.I v30),(20,.I v33),(72,.L p3),(73,.I (p3.length:Int)),(74,.I n19)] [(168,.arr 3 1 (List.map LV.I (l20.set x23.toNat (i64 (x34+1))))),(171,.arr 69 5 (List.map Gq8.lv l21))] R (sMa R (sMi R (sN (oIxA (f:=LV.I) te22 tk3 ts3 R R R hx34 (sN (oLdE (f:=LV.I) R R (idxOk hx34).2 R R R tk3 ta3 (sN (oAdd R R (sN (oIxA (f:=LV.I) te22 tk3 ts3 R R R hx35 (s_ (oStE (f:=LV.I) (z':=(i64 (x34+1))) R R R R tk3 ts3 R (idxOk hx35).2 R (s0 (Wk.to (eC R (eC R (eC R (eC (congrArg (LV.arr 168) (by simp)) (eC R (eC R (eC R (eC R (eC R (eC R (eC R (eC R eN)))))))))))) ⟨R,R,trivial⟩ R (prK R))))))))))))))) ?_
   obtain ⟨x36,hx36,h⟩:=bindS h
   obtain ⟨r37,hr37,h⟩:=bindS h
   obtain ⟨x38,hx38,h⟩:=bindS h
   refine LH.loneTM mixed [] [0,0,0,0,0,0,0,0,0,0,0,0,0,0,0,0,1171,100171] [(0,.lst 3 (List.map GRoom.lv p0)),(1,.lst 2 (List.map GNeed.lv p1)),(2,.I p2),(15,.arr 168 (List.length (l20.set x23.toNat (i64 (x34+1))))),(16,.arr 171 (List.length (l21.set n19.toNat (Gq8.mk x36.Candidate (GSeat.mk x23 v30 v33) r37)))),(72,.L p3),(73,.I (p3.length:Int)),(74,.I n19)] [(168,.arr 3 1 (List.map LV.I (l20.set x23.toNat (i64 (x34+1))))),(171,.arr 69 5 (List.map Gq8.lv (l21.set n19.toNat (Gq8.mk x36.Candidate (GSeat.mk x23 v30 v33) r37))))] R R (by kernel_rfl) ?_ ?_
   ·exact mMa R (mMi R (mMl R (mMi R (mN0 (oIx (f:=GNeed.lv) te37 tk60 ts60 R R GNeed.ok hx36 R ⟨R,mN0 (oFaS tf60_0 tk3 ts3 R R R ⟨R,mN0 (oLd R tk3 ta3 ⟨R,mMi R (mMi R (mMi R (mN0 (oBd (vs:=[(0,.I x23),(1,.I v30),(2,.I v33)]) tu67 tz67 R (lf tf67_0 ts3 tk3 R R R (lf tf67_1 ts3 tk3 R R R (lf tf67_2 ts3 tk3 R R R lf0))) ⟨R,mMi R (mMi R (mMi R (mN0 (oCP (args:=[.I v30,.I v33,.I p2]) R isF108 R (sbR (sbR (sbR sbN))) (q182q hr37) R ⟨R,mN0 (oBd (vs:=[(0,.I x36.Candidate),(1,.agg [.I x23,.I v30,.I v33]),(2,.I r37)]) tu69 tz69 R (lf tf69_0 ts3 tk3 R R R (lf tf69_1 ts67 tk67 R R R (lf tf69_2 ts3 tk3 R R R lf0))) ⟨R,mD R R R (fun _ b _ d=>oIxA (f:=Gq8.lv) te61 tk69 ts69 R b R hx38 d) (mS R R R (fun _ b _ d=>oStE (f:=Gq8.lv) (z':=(Gq8.mk x36.Candidate (GSeat.mk x23 v30 v33) r37)) R R R R tk69 ts69 b (idxOk hx38).2 R d) (m0 (Wk.to (eC R (eC R (eC R (eC R (eC (congrArg (LV.arr 171) (by simp)) (eC R (eC R (eC R eN)))))))) ⟨R,R,trivial⟩ R (prK R))))⟩)⟩))))⟩))))⟩)⟩)⟩)))))
   refine blockN (thenN (LH.loneT [(0,.lst 3 (List.map GRoom.lv p0)),(1,.lst 2 (List.map GNeed.lv p1)),(2,.I p2),(15,.arr 168 (List.length (l20.set x23.toNat (i64 (x34+1))))),(16,.arr 171 (List.length (l21.set n19.toNat (Gq8.mk x36.Candidate (GSeat.mk x23 v30 v33) r37)))),(72,.L p3),(73,.I (p3.length:Int)),(74,.I (i64 (n19+1)))] [(168,.arr 3 1 (List.map LV.I (l20.set x23.toNat (i64 (x34+1))))),(171,.arr 69 5 (List.map Gq8.lv (l21.set n19.toNat (Gq8.mk x36.Candidate (GSeat.mk x23 v30 v33) r37))))] R (sN (oAdd R R (sMi R zS))) ?_))
   exact roundI ⟨(i64 (n19+1)),(l20.set x23.toNat (i64 (x34+1))),(l21.set n19.toNat (Gq8.mk x36.Candidate (GSeat.mk x23 v30 v33) r37)),hrec3 ▸ h,R,R⟩ (Wk.eq R R R R)
  replace h:=iteF h hc22
  refine LH.exit (thenX (roundX (blockH (thenN (LH.wk ((Wk.trans (Wk.eq (el:=[(16,.arr 171 (List.length l21))]) (ml:=[(171,.arr 69 5 (List.map Gq8.lv l21))]) R R R R) (Wk.trans (Wk.frzL (f:=Gq8.lv) (el':=[(16,.lst 5 (List.map Gq8.lv l21))]) 171 69 5 l21 R R (prN R) (fZ fN)) (Wk.eq (el:=[(16,.lst 5 (List.map Gq8.lv l21))]) (ml:=[]) R R R R)))) (LH.seqT [(8,.lst 5 (List.map Gq8.lv l21)),(9,.I 0)] [] R (sMl R (sAl R (sAi R zS))) (LH.ret ?_)))))))
  obtain rfl:=oI h
  exact retE (aT Tryz.results58) (lrT R (lrT R (lr0 ⟨memN mN,R,prK R,(Sub.tup (sbR (sbR sbN)))⟩)))

set_option maxHeartbeats 4000000 in
theorem q165q {F:Nat} {p0:List GRoom} {p1:List GNeed} {p2:Int} {r:List Gq8 × List Int × Int} (h:q120q F p0 p1 p2=some r):LCall Tryz.prog 17 [.lst 3 (List.map GRoom.lv p0),.lst 2 (List.map GNeed.lv p1),.I p2] (Mem.of []) (.tup [.lst 5 (List.map Gq8.lv r.1),.L r.2.1,.I r.2.2]) (Mem.of []):=by
  unfold q120q at h
  refine bodyT Tryz.func17 R (nT Tryz.ntmps17 R) (LH.wk (Wk.eq (el:=[(0,.lst 3 (List.map GRoom.lv p0)),(1,.lst 2 (List.map GNeed.lv p1)),(2,.I p2)]) (ml:=[]) R R R R) (LH.seqT [(2,.I p2),(3,.sptr [.lst 3 (List.map GRoom.lv p0)]),(4,.sptr [.lst 2 (List.map GNeed.lv p1)]),(7,.nil)] [] R (sB (oBxR R R R R (sB (oBxR R R R R (sAn R (sAn R (sAi R zS))))))) (LH.seq ?_)))
  obtain ⟨r1,hr1,h⟩:=bindS h
  refine LH.seqT [(2,.I p2),(3,.sptr [.lst 3 (List.map GRoom.lv p0)]),(4,.sptr [.lst 2 (List.map GNeed.lv p1)]),(7,.nil),(9,.I r1)] [] R (sN (oLd R tk34 ta34 (sN (oLd R tk37 ta37 (sMi R (sN (oCP (args:=[.lst 3 (List.map GRoom.lv p0),.lst 2 (List.map GNeed.lv p1),.I p2]) R isF53 R (sbR (sbR (sbR sbN))) (q151q hr1) R (sAi R zS)))))))) (LH.seqT [(2,.I p2),(3,.sptr [.lst 3 (List.map GRoom.lv p0)]),(4,.sptr [.lst 2 (List.map GNeed.lv p1)]),(7,.nil),(9,.I r1),(21,.bool (r1 != 0))] [] R (sMi R (sN (oNe R R zS))) (LH.cond (t:=(r1 != 0)) R (fun hc2=>?_) (fun hc2=>?_)))
  ·replace h:=iteT h hc2
   refine LH.seqT [(6,.nil),(7,.nil),(8,.I r1)] [] R (sMi R (sAn R (sAn R (sAi R zS)))) (LH.ret (thenR ?_))
   obtain rfl:=oI h
   exact retE (aT Tryz.results17) (lrT R (lrT R (lrT R (lr0 ⟨memN mN,R,prK R,(Sub.tup (sbL (sbL (sbR sbN))))⟩))))
  replace h:=iteF h hc2
  refine LH.skip (thenN ?_)
  obtain ⟨l3,hl3,h⟩:=bindS h
  refine LH.seqT [(2,.I p2),(3,.sptr [.lst 3 (List.map GRoom.lv p0)]),(4,.sptr [.lst 2 (List.map GNeed.lv p1)]),(7,.nil),(10,.ptr 405 0)] [(405,.box [.arr 415 (List.length l3)]),(415,.arr 3 1 (List.map LV.I l3))] R (sN (oBS (f:=LV.I) (ys:=[(-1)]) te22 tr3 ts3 R R R okI (sN (oLd R tk37 ta37 (sN (oLnL (f:=GNeed.lv) te37 R (sN (oCM (args:=[.L [(-1)],.I (p1.length:Int)]) (ml:=[]) (ml':=[(415,.arr 3 1 (List.map LV.I l3))]) R isF54 R (sbR (sbR sbN)) (repW54 415 hl3) mN (newF R newN) R (sX (ok_alI 305 R tz22 R R) (s_ (oSt R R R tk22 ts22 R R R zS))))))))))) ?_
  obtain ⟨v4,hv4,h⟩:=bindS h
  refine LH.seqT [(2,.I p2),(3,.sptr [.lst 3 (List.map GRoom.lv p0)]),(4,.sptr [.lst 2 (List.map GNeed.lv p1)]),(7,.nil),(10,.ptr 405 0),(11,.ptr 404 0)] [(404,.box [.arr 414 (List.length v4)]),(405,.box [.arr 415 (List.length l3)]),(414,.nest 22 1 [(0,3,1)] (List.map el1 v4)),(415,.arr 3 1 (List.map LV.I l3))] R (sN (oLd R tk34 ta34 (sN (oLnL (f:=GRoom.lv) te34 R (sX ((ok_mk1 (f:=el1) (z':=([]:List Int)) (v:=v4) (id:=414) (os:=[(0,3,1)]) te117 tz22 tr22 ts22 R R hv4 R R R).ok) (sX (ok_alI 304 R tz117 R R) (s_ (oSt R R R tk117 ts117 R R R zS)))))))) (LH.seqT [(2,.I p2),(3,.sptr [.lst 3 (List.map GRoom.lv p0)]),(4,.sptr [.lst 2 (List.map GNeed.lv p1)]),(7,.nil),(10,.ptr 405 0),(11,.ptr 404 0),(12,.ptr 402 0)] [(402,.box [.nil]),(404,.box [.arr 414 (List.length v4)]),(405,.box [.arr 415 (List.length l3)]),(414,.nest 22 1 [(0,3,1)] (List.map el1 v4)),(415,.arr 3 1 (List.map LV.I l3))] R (sX (ok_alI 302 R tz151 R R) zS) (LH.seqT [(2,.I p2),(3,.sptr [.lst 3 (List.map GRoom.lv p0)]),(4,.sptr [.lst 2 (List.map GNeed.lv p1)]),(7,.nil),(10,.ptr 405 0),(11,.ptr 404 0),(12,.ptr 402 0),(13,.ptr 406 0)] [(402,.box [.nil]),(404,.box [.arr 414 (List.length v4)]),(405,.box [.arr 415 (List.length l3)]),(406,.box [.nilf]),(414,.nest 22 1 [(0,3,1)] (List.map el1 v4)),(415,.arr 3 1 (List.map LV.I l3))] R (sX (ok_alI 306 R tz113 R R) zS) (LH.seqT [(2,.I p2),(3,.sptr [.lst 3 (List.map GRoom.lv p0)]),(4,.sptr [.lst 2 (List.map GNeed.lv p1)]),(7,.nil),(10,.ptr 405 0),(11,.ptr 404 0),(12,.ptr 402 0),(13,.ptr 406 0)] [(402,.box [.nil]),(404,.box [.arr 414 (List.length v4)]),(405,.box [.arr 415 (List.length l3)]),(406,.box [.fn 55 [.sptr [.lst 3 (List.map GRoom.lv p0)],.ptr 402 0,.sptr [.lst 2 (List.map GNeed.lv p1)],.ptr 404 0,.ptr 405 0,.ptr 406 0]]),(414,.nest 22 1 [(0,3,1)] (List.map el1 v4)),(415,.arr 3 1 (List.map LV.I l3))] R (sN (oMF (vs:=[.sptr [.lst 3 (List.map GRoom.lv p0)],.ptr 402 0,.sptr [.lst 2 (List.map GNeed.lv p1)],.ptr 404 0,.ptr 405 0,.ptr 406 0]) R (s_ (oSt R R R tk113 ts113 R R R zS)))) (LH.seq (LH.seqT [(2,.I p2),(3,.sptr [.lst 3 (List.map GRoom.lv p0)]),(4,.sptr [.lst 2 (List.map GNeed.lv p1)]),(7,.nil),(10,.ptr 405 0),(11,.ptr 404 0),(12,.ptr 402 0),(13,.ptr 406 0),(32,.I (p1.length:Int)),(33,.I 0)] [(402,.box [.nil]),(404,.box [.arr 414 (List.length v4)]),(405,.box [.arr 415 (List.length l3)]),(406,.box [.fn 55 [.sptr [.lst 3 (List.map GRoom.lv p0)],.ptr 402 0,.sptr [.lst 2 (List.map GNeed.lv p1)],.ptr 404 0,.ptr 405 0,.ptr 406 0]]),(414,.nest 22 1 [(0,3,1)] (List.map el1 v4)),(415,.arr 3 1 (List.map LV.I l3))] R (sN (oLd R tk37 ta37 (sN (oLnL (f:=GNeed.lv) te37 R (sMi R zS))))) (LH.block (LH.wk ((Wk.trans (Wk.eq (el:=[(2,.I p2),(3,.sptr [.lst 3 (List.map GRoom.lv p0)]),(4,.sptr [.lst 2 (List.map GNeed.lv p1)]),(7,.nil),(10,.ptr 405 0),(11,.ptr 404 0),(12,.ptr 402 0),(13,.ptr 406 0),(32,.I (p1.length:Int)),(33,.I 0)]) (ml:=[(402,.box [.nil]),(404,.box [.arr 414 (List.length v4)]),(405,.box [.arr 415 (List.length l3)]),(406,.box [.fn 55 [.sptr [.lst 3 (List.map GRoom.lv p0)],.ptr 402 0,.sptr [.lst 2 (List.map GNeed.lv p1)],.ptr 404 0,.ptr 405 0,.ptr 406 0]]),(414,.nest 22 1 [(0,3,1)] (List.map el1 v4)),(415,.arr 3 1 (List.map LV.I l3))]) R R R R) (Wk.trans (Wk.eq (el:=[(2,.I p2),(3,.sptr [.lst 3 (List.map GRoom.lv p0)]),(4,.sptr [.lst 2 (List.map GNeed.lv p1)]),(7,.nil),(10,.ptr 405 0),(11,.ptr 404 0),(12,.ptr 402 0),(13,.ptr 406 0),(32,.I (p1.length:Int)),(33,.I 0)]) (ml:=[(402,.box [.nil]),(404,.box [.arr 414 (List.length v4)]),(405,.box [.arr 415 (List.length l3)]),(406,.box [.fn 55 [.sptr [.lst 3 (List.map GRoom.lv p0)],.ptr 402 0,.sptr [.lst 2 (List.map GNeed.lv p1)],.ptr 404 0,.ptr 405 0,.ptr 406 0]]),(414,.nest 22 1 [(0,3,1)] (List.map el1 v4)),(415,.arr 3 1 (List.map LV.I l3))]) R R R R) (Wk.trans (Wk.ownBx 412 4 1 402 0 R R R R R (prN R)) (Wk.eq (el:=[(2,.I p2),(3,.sptr [.lst 3 (List.map GRoom.lv p0)]),(4,.sptr [.lst 2 (List.map GNeed.lv p1)]),(7,.nil),(10,.ptr 405 0),(11,.ptr 404 0),(12,.ptr 402 0),(13,.ptr 406 0),(32,.I (p1.length:Int)),(33,.I 0)]) (ml:=[(402,.box [.arr 412 (List.length ([]:List Bool))]),(404,.box [.arr 414 (List.length v4)]),(405,.box [.arr 415 (List.length l3)]),(406,.box [.fn 55 [.sptr [.lst 3 (List.map GRoom.lv p0)],.ptr 402 0,.sptr [.lst 2 (List.map GNeed.lv p1)],.ptr 404 0,.ptr 405 0,.ptr 406 0]]),(412,.arr 4 1 (List.map LV.bool ([]:List Bool))),(414,.nest 22 1 [(0,3,1)] (List.map el1 v4)),(415,.arr 3 1 (List.map LV.I l3))]) R R R R))))) (LH.loop (fun n e m=>∃ (n5:Int) (l6:List Bool) (l7:List (List Int)) (l8:List Int),q114q F p0 p1 p2 n n5 l6 l7 l8=some r∧e=Env.of [(2,.I p2),(3,.sptr [.lst 3 (List.map GRoom.lv p0)]),(4,.sptr [.lst 2 (List.map GNeed.lv p1)]),(7,.nil),(10,.ptr 405 0),(11,.ptr 404 0),(12,.ptr 402 0),(13,.ptr 406 0),(32,.I (p1.length:Int)),(33,.I n5)]∧m=Mem.of [(402,.box [.arr 412 (List.length l6)]),(404,.box [.arr 414 (List.length l7)]),(405,.box [.arr 415 (List.length l8)]),(406,.box [.fn 55 [.sptr [.lst 3 (List.map GRoom.lv p0)],.ptr 402 0,.sptr [.lst 2 (List.map GNeed.lv p1)],.ptr 404 0,.ptr 405 0,.ptr 406 0]]),(412,.arr 4 1 (List.map LV.bool l6)),(414,.nest 22 1 [(0,3,1)] (List.map el1 l7)),(415,.arr 3 1 (List.map LV.I l8))]) F ⟨0,([]:List Bool),v4,l3,h,R,R⟩ ?_))))))))
  clear h
  rintro n e m ⟨n5,l6,l7,l8,h,rfl,rfl⟩
  rcases n with _ | n
  · cases (show Option.none=some _ from h)
  obtain ⟨rec1,hrec1⟩:∃ f,f=q114q F p0 p1 p2 n:=⟨_,rfl⟩
  replace h:q70q F p0 p1 p2 rec1 n5 l6 l7 l8=some r:=hrec1 ▸ h
  unfold q70q at h
  refine LH.seqT [(2,.I p2),(3,.sptr [.lst 3 (List.map GRoom.lv p0)]),(4,.sptr [.lst 2 (List.map GNeed.lv p1)]),(7,.nil),(10,.ptr 405 0),(11,.ptr 404 0),(12,.ptr 402 0),(13,.ptr 406 0),(32,.I (p1.length:Int)),(33,.I n5),(34,.bool (decide (n5<(p1.length:Int))))] [(402,.box [.arr 412 (List.length l6)]),(404,.box [.arr 414 (List.length l7)]),(405,.box [.arr 415 (List.length l8)]),(406,.box [.fn 55 [.sptr [.lst 3 (List.map GRoom.lv p0)],.ptr 402 0,.sptr [.lst 2 (List.map GNeed.lv p1)],.ptr 404 0,.ptr 405 0,.ptr 406 0]]),(412,.arr 4 1 (List.map LV.bool l6)),(414,.nest 22 1 [(0,3,1)] (List.map el1 l7)),(415,.arr 3 1 (List.map LV.I l8))] R (sN (oLt R R zS)) (LH.seq (LH.cond (t:=(decide (n5<(p1.length:Int)))) R (fun hc9=>?_) (fun hc9=>?_)))
  ·replace h:=iteT h hc9
   refine LH.skip (thenN (LH.wk (Wk.eq (el:=[(2,.I p2),(3,.sptr [.lst 3 (List.map GRoom.lv p0)]),(4,.sptr [.lst 2 (List.map GNeed.lv p1)]),(7,.nil),(10,.ptr 405 0),(11,.ptr 404 0),(12,.ptr 402 0),(13,.ptr 406 0),(32,.I (p1.length:Int)),(33,.I n5)]) (ml:=[(402,.box [.arr 412 (List.length l6)]),(404,.box [.arr 414 (List.length l7)]),(405,.box [.arr 415 (List.length l8)]),(406,.box [.fn 55 [.sptr [.lst 3 (List.map GRoom.lv p0)],.ptr 402 0,.sptr [.lst 2 (List.map GNeed.lv p1)],.ptr 404 0,.ptr 405 0,.ptr 406 0]]),(412,.arr 4 1 (List.map LV.bool l6)),(414,.nest 22 1 [(0,3,1)] (List.map el1 l7)),(415,.arr 3 1 (List.map LV.I l8))]) R R R R) (LH.seq (LH.block (LH.seqT [(2,.I p2),(3,.sptr [.lst 3 (List.map GRoom.lv p0)]),(4,.sptr [.lst 2 (List.map GNeed.lv p1)]),(7,.nil),(10,.ptr 405 0),(11,.ptr 404 0),(12,.ptr 402 0),(13,.ptr 406 0),(14,.I n5),(32,.I (p1.length:Int)),(33,.I n5)] [(402,.box [.arr 412 (List.length l6)]),(404,.box [.arr 414 (List.length l7)]),(405,.box [.arr 415 (List.length l8)]),(406,.box [.fn 55 [.sptr [.lst 3 (List.map GRoom.lv p0)],.ptr 402 0,.sptr [.lst 2 (List.map GNeed.lv p1)],.ptr 404 0,.ptr 405 0,.ptr 406 0]]),(412,.arr 4 1 (List.map LV.bool l6)),(414,.nest 22 1 [(0,3,1)] (List.map el1 l7)),(415,.arr 3 1 (List.map LV.I l8))] R (sMi R (sAi R zS)) ?_)))))
   obtain ⟨v10,hv10,h⟩:=bindS h
   refine LH.seqT [(2,.I p2),(3,.sptr [.lst 3 (List.map GRoom.lv p0)]),(4,.sptr [.lst 2 (List.map GNeed.lv p1)]),(7,.nil),(10,.ptr 405 0),(11,.ptr 404 0),(12,.ptr 402 0),(13,.ptr 406 0),(14,.I n5),(32,.I (p1.length:Int)),(33,.I n5)] [(402,.box [.arr 412 (List.length v10)]),(404,.box [.arr 414 (List.length l7)]),(405,.box [.arr 415 (List.length l8)]),(406,.box [.fn 55 [.sptr [.lst 3 (List.map GRoom.lv p0)],.ptr 402 0,.sptr [.lst 2 (List.map GNeed.lv p1)],.ptr 404 0,.ptr 405 0,.ptr 406 0]]),(412,.arr 4 1 (List.map LV.bool v10)),(414,.nest 22 1 [(0,3,1)] (List.map el1 l7)),(415,.arr 3 1 (List.map LV.I l8))] R (sN (oLd R tk34 ta34 (sN (oLnL (f:=GRoom.lv) te34 R (SOps.wk (Wk.trans (Wk.eq (el:=[(2,.I p2),(3,.sptr [.lst 3 (List.map GRoom.lv p0)]),(4,.sptr [.lst 2 (List.map GNeed.lv p1)]),(7,.nil),(10,.ptr 405 0),(11,.ptr 404 0),(12,.ptr 402 0),(13,.ptr 406 0),(14,.I n5),(32,.I (p1.length:Int)),(33,.I n5),(36,.lst 3 (List.map GRoom.lv p0)),(37,.I (p0.length:Int))]) (ml:=[(402,.box [.arr 412 (List.length l6)]),(404,.box [.arr 414 (List.length l7)]),(405,.box [.arr 415 (List.length l8)]),(406,.box [.fn 55 [.sptr [.lst 3 (List.map GRoom.lv p0)],.ptr 402 0,.sptr [.lst 2 (List.map GNeed.lv p1)],.ptr 404 0,.ptr 405 0,.ptr 406 0]]),(412,.arr 4 1 (List.map LV.bool l6)),(414,.nest 22 1 [(0,3,1)] (List.map el1 l7)),(415,.arr 3 1 (List.map LV.I l8))]) R R R R) (Wk.trans (Wk.undBx 402 0 R R) (Wk.eq (el:=[(2,.I p2),(3,.sptr [.lst 3 (List.map GRoom.lv p0)]),(4,.sptr [.lst 2 (List.map GNeed.lv p1)]),(7,.nil),(10,.ptr 405 0),(11,.ptr 404 0),(12,.ptr 402 0),(13,.ptr 406 0),(14,.I n5),(32,.I (p1.length:Int)),(33,.I n5),(36,.lst 3 (List.map GRoom.lv p0)),(37,.I (p0.length:Int))]) (ml:=[(402,.box [.und]),(404,.box [.arr 414 (List.length l7)]),(405,.box [.arr 415 (List.length l8)]),(406,.box [.fn 55 [.sptr [.lst 3 (List.map GRoom.lv p0)],.ptr 402 0,.sptr [.lst 2 (List.map GNeed.lv p1)],.ptr 404 0,.ptr 405 0,.ptr 406 0]]),(414,.nest 22 1 [(0,3,1)] (List.map el1 l7)),(415,.arr 3 1 (List.map LV.I l8))]) R R R R))) (sX ((ok_mkI (f:=LV.bool) (z:=false) (id:=412) te151 tz4 tr4 ts4 R R R hv10 R R).ok) (s_ (oSt R R R tk151 ts151 R R R zS)))))))) (LH.seq ?_)
   obtain ⟨r11,hr11,h⟩:=bindS h
   refine LH.seqT [(2,.I p2),(3,.sptr [.lst 3 (List.map GRoom.lv p0)]),(4,.sptr [.lst 2 (List.map GNeed.lv p1)]),(7,.nil),(10,.ptr 405 0),(11,.ptr 404 0),(12,.ptr 402 0),(13,.ptr 406 0),(14,.I n5),(32,.I (p1.length:Int)),(33,.I n5),(41,.bool r11.1)] [(402,.box [.arr 412 (List.length r11.2.1)]),(404,.box [.arr 414 (List.length r11.2.2.1)]),(405,.box [.arr 415 (List.length r11.2.2.2)]),(406,.box [.fn 55 [.sptr [.lst 3 (List.map GRoom.lv p0)],.ptr 402 0,.sptr [.lst 2 (List.map GNeed.lv p1)],.ptr 404 0,.ptr 405 0,.ptr 406 0]]),(412,.arr 4 1 (List.map LV.bool r11.2.1)),(414,.nest 22 1 [(0,3,1)] (List.map el1 r11.2.2.1)),(415,.arr 3 1 (List.map LV.I r11.2.2.2))] R (sN (oLdP R R R R tk113 ta113 (sMi R (sX (((ok_callF (args:=[.I n5,.sptr [.lst 3 (List.map GRoom.lv p0)],.ptr 402 0,.sptr [.lst 2 (List.map GNeed.lv p1)],.ptr 404 0,.ptr 405 0,.ptr 406 0]) (ml:=[(402,.box [.arr 412 (List.length v10)]),(404,.box [.arr 414 (List.length l7)]),(405,.box [.arr 415 (List.length l8)]),(406,.box [.fn 55 [.sptr [.lst 3 (List.map GRoom.lv p0)],.ptr 402 0,.sptr [.lst 2 (List.map GNeed.lv p1)],.ptr 404 0,.ptr 405 0,.ptr 406 0]]),(412,.arr 4 1 (List.map LV.bool v10)),(414,.nest 22 1 [(0,3,1)] (List.map el1 l7)),(415,.arr 3 1 (List.map LV.I l8))]) (ml':=[(402,.box [.arr 412 (List.length r11.2.1)]),(404,.box [.arr 414 (List.length r11.2.2.1)]),(405,.box [.arr 415 (List.length r11.2.2.2)]),(406,.box [.fn 55 [.sptr [.lst 3 (List.map GRoom.lv p0)],.ptr 402 0,.sptr [.lst 2 (List.map GNeed.lv p1)],.ptr 404 0,.ptr 405 0,.ptr 406 0]]),(412,.arr 4 1 (List.map LV.bool r11.2.1)),(414,.nest 22 1 [(0,3,1)] (List.map el1 r11.2.2.1)),(415,.arr 3 1 (List.map LV.I r11.2.2.2))]) R isF55 R (sbR (sbR (sbR (sbR (sbR (sbR (sbR sbN))))))) (q180q hr11) (mC R (mC R (mC R (mC R (mC R (mC R (mC R mN))))))) (newI R (newI R (newI R (newI R (newI R (newI R (newI R newN))))))) R)).ok) zS)))) (LH.cond (t:=r11.1) R (fun hc12=>?_) (fun hc12=>?_))
   ·replace h:=iteT h hc12
    refine LH.exit (thenX (blockH (thenN (LH.loneT [(2,.I p2),(3,.sptr [.lst 3 (List.map GRoom.lv p0)]),(4,.sptr [.lst 2 (List.map GNeed.lv p1)]),(7,.nil),(10,.ptr 405 0),(11,.ptr 404 0),(12,.ptr 402 0),(13,.ptr 406 0),(32,.I (p1.length:Int)),(33,.I (i64 (n5+1)))] [(402,.box [.arr 412 (List.length r11.2.1)]),(404,.box [.arr 414 (List.length r11.2.2.1)]),(405,.box [.arr 415 (List.length r11.2.2.2)]),(406,.box [.fn 55 [.sptr [.lst 3 (List.map GRoom.lv p0)],.ptr 402 0,.sptr [.lst 2 (List.map GNeed.lv p1)],.ptr 404 0,.ptr 405 0,.ptr 406 0]]),(412,.arr 4 1 (List.map LV.bool r11.2.1)),(414,.nest 22 1 [(0,3,1)] (List.map el1 r11.2.2.1)),(415,.arr 3 1 (List.map LV.I r11.2.2.2))] R (sN (oAdd R R (sMi R zS))) ?_))))
    exact roundI ⟨(i64 (n5+1)),r11.2.1,r11.2.2.1,r11.2.2.2,hrec1 ▸ h,R,R⟩ (Wk.eq R R R R)
   replace h:=iteF h hc12
   refine LH.skip (thenN (LH.wk ((Wk.trans (Wk.eq (el:=[(3,.sptr [.lst 3 (List.map GRoom.lv p0)]),(7,.nil),(11,.ptr 404 0),(12,.ptr 402 0),(14,.I n5)]) (ml:=[(402,.box [.arr 412 (List.length r11.2.1)]),(404,.box [.arr 414 (List.length r11.2.2.1)]),(412,.arr 4 1 (List.map LV.bool r11.2.1)),(414,.nest 22 1 [(0,3,1)] (List.map el1 r11.2.2.1))]) R R R R) (Wk.trans (Wk.eq (el:=[(3,.sptr [.lst 3 (List.map GRoom.lv p0)]),(7,.nil),(11,.ptr 404 0),(12,.ptr 402 0),(14,.I n5)]) (ml:=[(402,.box [.arr 412 (List.length r11.2.1)]),(404,.box [.arr 414 (List.length r11.2.2.1)]),(412,.arr 4 1 (List.map LV.bool r11.2.1)),(414,.nest 22 1 [(0,3,1)] (List.map el1 r11.2.2.1))]) R R R R) (Wk.trans (Wk.trans (Wk.frzBx (f:=LV.bool) 412 4 1 r11.2.1 402 R R R (frAZ frA0) R R (prN R)) (Wk.eq (el:=[(3,.sptr [.lst 3 (List.map GRoom.lv p0)]),(7,.nil),(11,.ptr 404 0),(12,.ptr 402 0),(14,.I n5)]) (ml:=[(402,.box [.lst 1 (List.map LV.bool r11.2.1)]),(404,.box [.arr 414 (List.length r11.2.2.1)]),(414,.nest 22 1 [(0,3,1)] (List.map el1 r11.2.2.1))]) R R R R)) (Wk.trans (Wk.eq (el:=[(3,.sptr [.lst 3 (List.map GRoom.lv p0)]),(7,.nil),(11,.ptr 404 0),(12,.ptr 402 0),(14,.I n5)]) (ml:=[(402,.box [.lst 1 (List.map LV.bool r11.2.1)]),(404,.box [.arr 414 (List.length r11.2.2.1)]),(414,.nest 22 1 [(0,3,1)] (List.map el1 r11.2.2.1))]) R R R R) (Wk.trans (Wk.trans (Wk.trans (Wk.unnest1 (f1:=(lvl 1 LV.I)) 414 22 [(0,3,1)] r11.2.2.1 R okL (fun _=>R)) (Wk.eq (el:=[(3,.sptr [.lst 3 (List.map GRoom.lv p0)]),(7,.nil),(11,.ptr 404 0),(12,.ptr 402 0),(14,.I n5)]) (ml:=[(402,.box [.lst 1 (List.map LV.bool r11.2.1)]),(404,.box [.arr 414 (List.length r11.2.2.1)]),(414,.arr 22 1 (List.map (lvl 1 LV.I) r11.2.2.1))]) R R R R)) (Wk.trans (Wk.frzBx (f:=(lvl 1 LV.I)) 414 22 1 r11.2.2.1 404 R R R (frAZ frA0) R R (prN R)) (Wk.eq (el:=[(3,.sptr [.lst 3 (List.map GRoom.lv p0)]),(7,.nil),(11,.ptr 404 0),(12,.ptr 402 0),(14,.I n5)]) (ml:=[(402,.box [.lst 1 (List.map LV.bool r11.2.1)]),(404,.box [.lst 1 (List.map (lvl 1 LV.I) r11.2.2.1)])]) R R R R))) (Wk.trans (Wk.frzB 402 [.lst 1 (List.map LV.bool r11.2.1)] R R R (prN R)) (Wk.trans (Wk.frzB 404 [.lst 1 (List.map (lvl 1 LV.I) r11.2.2.1)] R R R (prN R)) (Wk.eq (el:=[(3,.sptr [.lst 3 (List.map GRoom.lv p0)]),(7,.nil),(11,.sptr [.lst 1 (List.map (lvl 1 LV.I) r11.2.2.1)]),(12,.sptr [.lst 1 (List.map LV.bool r11.2.1)]),(14,.I n5)]) (ml:=[]) R R R R))))))))) ?_))
   obtain ⟨v13,hv13,h⟩:=bindS h
   refine LH.seqT [(3,.sptr [.lst 3 (List.map GRoom.lv p0)]),(7,.arr 145 (List.length v13)),(11,.sptr [.lst 1 (List.map (lvl 1 LV.I) r11.2.2.1)]),(12,.sptr [.lst 1 (List.map LV.bool r11.2.1)])] [(145,.arr 3 1 (List.map LV.I v13))] R (sMn R (sMi R (sN (oBS (f:=LV.I) (ys:=[n5]) te22 tr3 ts3 R R R okI (sN (oApN (f:=LV.I) (id:=145) R te22 tr3 ts3 R R hv13 R (sAa R zS))))))) (LH.seq (LH.seqT [(7,.arr 145 (List.length v13)),(11,.sptr [.lst 1 (List.map (lvl 1 LV.I) r11.2.2.1)]),(12,.sptr [.lst 1 (List.map LV.bool r11.2.1)]),(47,.I (p0.length:Int)),(48,.I 0)] [(145,.arr 3 1 (List.map LV.I v13))] R (sN (oLd R tk34 ta34 (sN (oLnL (f:=GRoom.lv) te34 R (sMi R zS))))) (LH.block (LH.loop (fun n e m=>∃ (n14:Int) (l15:List Int),q57q p0 r11 n n14 l15=some r∧e=Env.of [(7,.arr 145 (List.length l15)),(11,.sptr [.lst 1 (List.map (lvl 1 LV.I) r11.2.2.1)]),(12,.sptr [.lst 1 (List.map LV.bool r11.2.1)]),(47,.I (p0.length:Int)),(48,.I n14)]∧m=Mem.of [(145,.arr 3 1 (List.map LV.I l15))]) F ⟨0,v13,h,R,R⟩ ?_))))
   clear h
   rintro n e m ⟨n14,l15,h,rfl,rfl⟩
   rcases n with _ | n
   · cases (show Option.none=some _ from h)
   obtain ⟨rec2,hrec2⟩:∃ f,f=q57q p0 r11 n:=⟨_,rfl⟩
   replace h:q71q p0 r11 rec2 n14 l15=some r:=hrec2 ▸ h
   unfold q71q at h
   refine LH.seqT [(7,.arr 145 (List.length l15)),(11,.sptr [.lst 1 (List.map (lvl 1 LV.I) r11.2.2.1)]),(12,.sptr [.lst 1 (List.map LV.bool r11.2.1)]),(47,.I (p0.length:Int)),(48,.I n14),(49,.bool (decide (n14<(p0.length:Int))))] [(145,.arr 3 1 (List.map LV.I l15))] R (sN (oLt R R zS)) (LH.seq (LH.cond (t:=(decide (n14<(p0.length:Int)))) R (fun hc16=>?_) (fun hc16=>?_)))
   ·replace h:=iteT h hc16
    refine LH.skip (thenN (LH.wk (Wk.eq (el:=[(7,.arr 145 (List.length l15)),(11,.sptr [.lst 1 (List.map (lvl 1 LV.I) r11.2.2.1)]),(12,.sptr [.lst 1 (List.map LV.bool r11.2.1)]),(47,.I (p0.length:Int)),(48,.I n14)]) (ml:=[(145,.arr 3 1 (List.map LV.I l15))]) R R R R) (LH.seq (LH.block (LH.seqT [(7,.arr 145 (List.length l15)),(11,.sptr [.lst 1 (List.map (lvl 1 LV.I) r11.2.2.1)]),(12,.sptr [.lst 1 (List.map LV.bool r11.2.1)]),(15,.I n14),(47,.I (p0.length:Int)),(48,.I n14)] [(145,.arr 3 1 (List.map LV.I l15))] R (sMi R (sAi R zS)) ?_)))))
    obtain ⟨x17,hx17,h⟩:=bindS h
    refine LH.seqT [(7,.arr 145 (List.length l15)),(11,.sptr [.lst 1 (List.map (lvl 1 LV.I) r11.2.2.1)]),(12,.sptr [.lst 1 (List.map LV.bool r11.2.1)]),(15,.I n14),(47,.I (p0.length:Int)),(48,.I n14),(54,.bool x17)] [(145,.arr 3 1 (List.map LV.I l15))] R (sN (oLd R tk151 ta151 (sMi R (sN (oIx (f:=LV.bool) te151 tk4 ts4 R R okB hx17 R (sN (oLd R tk4 ta4 zS))))))) (LH.cond (t:=x17) R (fun hc18=>?_) (fun hc18=>?_))
    ·replace h:=iteT h hc18
     obtain ⟨x19,hx19,h⟩:=bindS h
     obtain ⟨v20,hv20,h⟩:=bindS h
     refine LH.loneT [(7,.arr 145 (List.length v20)),(11,.sptr [.lst 1 (List.map (lvl 1 LV.I) r11.2.2.1)]),(12,.sptr [.lst 1 (List.map LV.bool r11.2.1)]),(47,.I (p0.length:Int)),(48,.I n14)] [(145,.arr 3 1 (List.map LV.I v20))] R (sMa R (sN (oLd R tk117 ta117 (sMi R (sN (oIx (f:=(lvl 1 LV.I)) te117 tk22 ts22 R R okL hx19 R (sN (oLd R tk22 ta22 (sN (oAp (f:=LV.I) te22 tr3 ts3 R R (prN R) R hv20 (sAa R zS))))))))))) (blockN (thenN (LH.loneT [(7,.arr 145 (List.length v20)),(11,.sptr [.lst 1 (List.map (lvl 1 LV.I) r11.2.2.1)]),(12,.sptr [.lst 1 (List.map LV.bool r11.2.1)]),(47,.I (p0.length:Int)),(48,.I (i64 (n14+1)))] [(145,.arr 3 1 (List.map LV.I v20))] R (sN (oAdd R R (sMi R zS))) ?_)))
     exact roundI ⟨(i64 (n14+1)),v20,hrec2 ▸ h,R,R⟩ (Wk.eq R R R R)
    replace h:=iteF h hc18
    refine LH.skip (blockN (thenN (LH.loneT [(7,.arr 145 (List.length l15)),(11,.sptr [.lst 1 (List.map (lvl 1 LV.I) r11.2.2.1)]),(12,.sptr [.lst 1 (List.map LV.bool r11.2.1)]),(47,.I (p0.length:Int)),(48,.I (i64 (n14+1)))] [(145,.arr 3 1 (List.map LV.I l15))] R (sN (oAdd R R (sMi R zS))) ?_)))
    exact roundI ⟨(i64 (n14+1)),l15,hrec2 ▸ h,R,R⟩ (Wk.eq R R R R)
   replace h:=iteF h hc16
   refine LH.exit (thenX (roundX (blockH (thenN ?_))))
   obtain ⟨l21,hl21,h⟩:=bindS h
   refine LH.seqT [(7,.L l21)] [] R (sMa R (sN (oCM (args:=[.arr 145 (List.length l15)]) (ml:=[(145,.arr 3 1 (List.map LV.I l15))]) (ml':=[(145,.arr 3 1 (List.map LV.I l21))]) R isF57 R (sbR sbN) (sortS_ok Tryz.lays189 R 145 3 hl21) (mC R mN) (newI R newN) R (s0 ((Wk.trans (Wk.to (el:=[(7,.arr 145 (List.length l21))]) (ml:=[(145,.arr 3 1 (List.map LV.I l21))]) (eC (congrArg (LV.arr 145) (sortS_len hl21)) eN) ⟨R,trivial⟩ R (prK R)) (Wk.trans (Wk.frzL (f:=LV.I) (el':=[(7,.L l21)]) 145 3 1 l21 R R (prN R) (fZ fN)) (Wk.eq R R R R)))))))) (LH.seqT [(6,.nil),(7,.L l21),(8,.I 10)] [] R (sMl R (sAn R (sAl R (sAi R zS)))) (LH.ret (blockR (thenR (roundR (blockR (thenR ?_)))))))
   obtain rfl:=oI h
   exact retE (aT Tryz.results17) (lrT R (lrT R (lrT R (lr0 ⟨memN mN,R,prK R,(Sub.tup (sbL (sbR (sbR sbN))))⟩))))
  replace h:=iteF h hc9
  refine LH.exit (thenX (roundX (blockH (thenN (LH.wk ((Wk.trans (Wk.eq (el:=[(2,.I p2),(3,.sptr [.lst 3 (List.map GRoom.lv p0)]),(4,.sptr [.lst 2 (List.map GNeed.lv p1)]),(10,.ptr 405 0)]) (ml:=[(405,.box [.arr 415 (List.length l8)]),(415,.arr 3 1 (List.map LV.I l8))]) R R R R) (Wk.trans (Wk.eq (el:=[(2,.I p2),(3,.sptr [.lst 3 (List.map GRoom.lv p0)]),(4,.sptr [.lst 2 (List.map GNeed.lv p1)]),(10,.ptr 405 0)]) (ml:=[(405,.box [.arr 415 (List.length l8)]),(415,.arr 3 1 (List.map LV.I l8))]) R R R R) (Wk.trans (Wk.trans (Wk.frzBx (f:=LV.I) 415 3 1 l8 405 R R R (frAZ frA0) R R (prN R)) (Wk.eq (el:=[(2,.I p2),(3,.sptr [.lst 3 (List.map GRoom.lv p0)]),(4,.sptr [.lst 2 (List.map GNeed.lv p1)]),(10,.ptr 405 0)]) (ml:=[(405,.box [.L l8])]) R R R R)) (Wk.trans (Wk.frzB 405 [.L l8] R R R (prN R)) (Wk.eq (el:=[(2,.I p2),(3,.sptr [.lst 3 (List.map GRoom.lv p0)]),(4,.sptr [.lst 2 (List.map GNeed.lv p1)]),(10,.sptr [.L l8])]) (ml:=[]) R R R R)))))) ?_)))))
  obtain ⟨r22,hr22,h⟩:=bindS h
  refine LH.seqT [(6,.lst 5 (List.map Gq8.lv r22.1)),(8,.I r22.2)] [] R (sN (oLd R tk34 ta34 (sN (oLd R tk37 ta37 (sMi R (sN (oLd R tk22 ta22 (sN (oCP (args:=[.lst 3 (List.map GRoom.lv p0),.lst 2 (List.map GNeed.lv p1),.I p2,.L l8]) R isF58 R (sbR (sbR (sbR (sbR sbN)))) (q187q hr22) R (sMt R (sN (oEx R R (sN (oEx R R (sAl R (sAi R zS)))))))))))))))) (LH.seqT [(6,.lst 5 (List.map Gq8.lv r22.1)),(7,.nil),(8,.I r22.2)] [] R (sMl R (sMi R (sAl R (sAn R (sAi R zS))))) (LH.ret ?_))
  obtain rfl:=oI h
  exact retE (aT Tryz.results17) (lrT R (lrT R (lrT R (lr0 ⟨memN mN,R,prK R,(Sub.tup (sbR (sbL (sbR sbN))))⟩))))

theorem q192q {F:Nat} {p0:List Int} {p1:Int} {r:Bool} (h:q150q F p0 p1=some r):LCall Tryz.prog 59 [.L p0,.I p1] (Mem.of []) (.bool r) (Mem.of []):=by
  unfold q150q at h
  refine bodyT Tryz.func59 R (nT Tryz.ntmps59 R) (LH.wk (Wk.eq (el:=[(0,.L p0),(1,.I p1)]) (ml:=[]) R R R R) (LH.seqT [(0,.L p0),(1,.I p1)] [] R (sAb R zS) (LH.seq (LH.seqT [(0,.L p0),(1,.I p1),(7,.L p0),(8,.I (p0.length:Int)),(9,.I 0)] [] R (sMl R (sN (oLnL (f:=LV.I) te22 R (sMi R zS)))) (LH.block (LH.loop (fun n e m=>∃ (n1:Int),q59q p0 p1 n n1=some r∧e=Env.of [(0,.L p0),(1,.I p1),(7,.L p0),(8,.I (p0.length:Int)),(9,.I n1)]∧m=Mem.of []) F ⟨0,h,R,R⟩ ?_))))))
  clear h
  rintro n e m ⟨n1,h,rfl,rfl⟩
  rcases n with _ | n
  · cases (show Option.none=some _ from h)
  obtain ⟨rec1,hrec1⟩:∃ f,f=q59q p0 p1 n:=⟨_,rfl⟩
  replace h:q73q p0 p1 rec1 n1=some r:=hrec1 ▸ h
  unfold q73q at h
  refine LH.seqT [(0,.L p0),(1,.I p1),(7,.L p0),(8,.I (p0.length:Int)),(9,.I n1),(10,.bool (decide (n1<(p0.length:Int))))] [] R (sN (oLt R R zS)) (LH.seq (LH.cond (t:=(decide (n1<(p0.length:Int)))) R (fun hc2=>?_) (fun hc2=>?_)))
  ·replace h:=iteT h hc2
   refine LH.skip (thenN (LH.wk (Wk.eq (el:=[(0,.L p0),(1,.I p1),(7,.L p0),(8,.I (p0.length:Int)),(9,.I n1)]) (ml:=[]) R R R R) (LH.seq (LH.block ?_))))
   obtain ⟨x3,hx3,h⟩:=bindS h
   refine LH.seqT [(0,.L p0),(1,.I p1),(5,.I n1),(6,.I x3),(7,.L p0),(8,.I (p0.length:Int)),(9,.I n1)] [] R (sMi R (sN (oIx (f:=LV.I) te22 tk3 ts3 R R okI hx3 R (sN (oLd R tk3 ta3 (sAi R (sAi R zS))))))) ?_
   obtain ⟨w5,hv,h⟩:=bindS h
   refine LH.seqT [(0,.L p0),(1,.I p1),(7,.L p0),(8,.I (p0.length:Int)),(9,.I n1),(33,.bool w5)] [] R ?_ ?_
   ·refine sMi R (sN (oLt R R (sMb R ?_)))
    by_cases hb6:(decide (x3<0))=true
    ·replace hv:=iteT hv hb6
     refine sF R R hb6 (sF R R hb6 (sF R R hb6 (sN (oPkT (cB hb6) (v:=(.bool _)) R (sMb R (sF R R R (sF R R R (sF R R R (sU R R (sU R R (sU R R (sU R R (sU R R (sU R R (sU R R (sF R R R (sN (oPkT R (v:=(.bool _)) R ?_))))))))))))))))))
     obtain rfl:=oI hv
     exact zS
    ·replace hb6:=bF hb6
     replace hv:=iteF hv hb6
     refine sT R (cB hb6) (oM (v:=(.int _ _)) R (sT R (cB hb6) (oM (v:=(.int _ _)) R (sT R (cB hb6) (oGe R R (sN (oPkF (cB hb6) (v:=(.bool _)) R (sMb R ?_))))))))
     by_cases hb7:(decide (x3 ≥ p1))=true
     ·replace hv:=iteT hv hb7
      refine sF R R hb7 (sF R R hb7 (sF R R hb7 (sU R R (sU R R (sU R R (sU R R (sU R R (sU R R (sU R R (sF R R hb7 (sN (oPkT (cB hb7) (v:=(.bool _)) R ?_))))))))))))
      obtain rfl:=oI hv
      exact zS
     ·replace hb7:=bF hb7
      replace hv:=iteF hv hb7
      refine sT R (cB hb7) (oM (v:=(.int _ _)) R (sT R (cB hb7) (oGt R R (sT R (cB hb7) (oM (v:=(.bool _)) R ?_)))))
      by_cases hb8:(decide (n1 > 0))=true
      ·replace hv:=iteT hv hb8
       refine sT R (cB hb8) (oM (v:=(.lst _ _)) R (sT R (cB hb8) (oM (v:=(.int _ _)) R (sT R (cB hb8) (oSub R R ?_)))))
       obtain ⟨x9,hx9,hv⟩:=bindS hv
       refine sT R (cB hb8) (oIx (f:=LV.I) te22 tk3 ts3 R R okI hx9 R (sT R (cB hb8) (oLd R tk3 ta3 (sT R (cB hb8) (oM (v:=(.int _ _)) R (sT R (cB hb8) (oGe R R (sT R (cB hb7) (oPkT (cB hb8) (v:=(.bool _)) R (sN (oPkF (cB hb7) (v:=(.bool _)) R ?_)))))))))))
       obtain rfl:=oI hv
       exact zS
      ·replace hb8:=bF hb8
       replace hv:=iteF hv hb8
       refine sF R R hb8 (sF R R hb8 (sF R R hb8 (sF R R hb8 (sF R R hb8 (sF R R hb8 (sF R R hb8 (sT R (cB hb7) (oPkF (cB hb8) (v:=(.bool _)) R (sN (oPkF (cB hb7) (v:=(.bool _)) R ?_))))))))))
       obtain rfl:=oI hv
       exact zS
   clear hv
   refine LH.cond (t:=w5) R (fun hc10=>?_) (fun hc10=>?_)
   ·replace h:=iteT h hc10
    refine LH.seqT [(4,.bool false)] [] R (sAb R zS) (LH.ret (blockR (thenR (roundR (blockR (thenR ?_))))))
    obtain rfl:=oI h
    exact retE (aT Tryz.results59) (lrT R (lr0 ⟨memN mN,R,prK R,Sub.rfl⟩))
   replace h:=iteF h hc10
   refine LH.skip (blockN (thenN (LH.loneT [(0,.L p0),(1,.I p1),(7,.L p0),(8,.I (p0.length:Int)),(9,.I (i64 (n1+1)))] [] R (sN (oAdd R R (sMi R zS))) ?_)))
   exact roundI ⟨(i64 (n1+1)),hrec1 ▸ h,R,R⟩ (Wk.eq R R R R)
  replace h:=iteF h hc2
  refine LH.exit (thenX (roundX (blockH (thenN (LH.seqT [(4,.bool true)] [] R (sAb R zS) (LH.ret ?_))))))
  obtain rfl:=oI h
  exact retE (aT Tryz.results59) (lrT R (lr0 ⟨memN mN,R,prK R,Sub.rfl⟩))

theorem q181q {p0:Int} {c0:GRoom} {c1:List GNeed} {r:Bool} (h:q35q p0 c0 c1=some r):LCall Tryz.prog 61 [.I p0,.sptr [.I c0.Rows,.I c0.Cols,.I c0.Offers],.sptr [.lst 2 (List.map GNeed.lv c1)]] (Mem.of []) (.bool r) (Mem.of []):=by
  unfold q35q at h
  refine bodyT Tryz.func61 R (nT Tryz.ntmps61 R) (LH.wk (Wk.eq (el:=[(0,.I p0),(1,.sptr [.I c0.Rows,.I c0.Cols,.I c0.Offers]),(2,.sptr [.lst 2 (List.map GNeed.lv c1)])]) (ml:=[]) R R R R) (LH.seqT [(0,.I p0),(1,.sptr [.I c0.Rows,.I c0.Cols,.I c0.Offers]),(2,.sptr [.lst 2 (List.map GNeed.lv c1)])] [] R (sAb R zS) ?_))
  obtain ⟨x1,hx1,h⟩:=bindS h
  obtain ⟨r2,hr2,h⟩:=bindS h
  refine LH.seqJM mixed [] [0,0,0,0,0,0,0] [(4,.bool r2)] [] R R (by kernel_rfl) (mN0 (oLdA R tk72 ta72 ts72 R R ⟨R,mN0 (oLd R tk37 ta37 ⟨R,mMi R (mN0 (oIx (f:=GNeed.lv) te37 tk60 ts60 R R GNeed.ok hx1 R ⟨R,mN0 (oLdA R tk60 ta60 ts60 R R ⟨R,mN0 (oCP (args:=[.agg [.I c0.Rows,.I c0.Cols,.I c0.Offers],.agg [.I x1.Candidate,.I x1.Needs]]) R isF20 R (sbR (sbR sbN)) (q133q hr2) R ⟨R,mAb R zM⟩)⟩)⟩))⟩)⟩)) (LH.ret ?_)
  obtain rfl:=oI h
  exact retE (aT Tryz.results61) (lrT R (lr0 ⟨memN mN,R,prK R,Sub.rfl⟩))

end Go.Proofs.YtiinmaihgmfniaaGreat
