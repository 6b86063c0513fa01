import Derived.Test.YtmollikhdbaikaaGreatZW4
set_option linter.unusedVariables false
set_option linter.unusedSimpArgs false
set_option maxRecDepth 100000
set_option maxHeartbeats 1000000
namespace Go.Proofs.YtmollikhdbaikaaGreat
open Go.L Go.Sh
set_option maxHeartbeats 4000000 in
theorem q209q {F:Nat} {p0:Gq2} {p1:Gq2} {r:Bool} (h:q97q F p0 p1=some r):LCall Tryz.prog 23 [.agg [.I p0.ID,.lst 5 (List.map GItem.lv p0.Versions),.lst 1 (List.map LV.bool p0.Approved),.lst 3 (List.map GUse.lv p0.Uses),.bool p0.Withdrawn],.agg [.I p1.ID,.lst 5 (List.map GItem.lv p1.Versions),.lst 1 (List.map LV.bool p1.Approved),.lst 3 (List.map GUse.lv p1.Uses),.bool p1.Withdrawn]] (Mem.of []) (.bool r) (Mem.of []):=by
  unfold q97q at h
  refine bodyT Tryz.func23 R (nT Tryz.ntmps23 R) (LH.wk (Wk.eq (el:=[(0,.agg [.I p0.ID,.lst 5 (List.map GItem.lv p0.Versions),.lst 1 (List.map LV.bool p0.Approved),.lst 3 (List.map GUse.lv p0.Uses),.bool p0.Withdrawn]),(1,.agg [.I p1.ID,.lst 5 (List.map GItem.lv p1.Versions),.lst 1 (List.map LV.bool p1.Approved),.lst 3 (List.map GUse.lv p1.Uses),.bool p1.Withdrawn])]) (ml:=[]) R R R R) (LH.seqT [(2,.sptr [.I p0.ID,.lst 5 (List.map GItem.lv p0.Versions),.lst 1 (List.map LV.bool p0.Approved),.lst 3 (List.map GUse.lv p0.Uses),.bool p0.Withdrawn]),(3,.sptr [.I p1.ID,.lst 5 (List.map GItem.lv p1.Versions),.lst 1 (List.map LV.bool p1.Approved),.lst 3 (List.map GUse.lv p1.Uses),.bool p1.Withdrawn])] [] R (sB (oBxR R R R R (sB (oBxR R R R R (sAb R zS))))) (LH.seq (LH.seqT [(2,.sptr [.I p0.ID,.lst 5 (List.map GItem.lv p0.Versions),.lst 1 (List.map LV.bool p0.Approved),.lst 3 (List.map GUse.lv p0.Uses),.bool p0.Withdrawn]),(3,.sptr [.I p1.ID,.lst 5 (List.map GItem.lv p1.Versions),.lst 1 (List.map LV.bool p1.Approved),.lst 3 (List.map GUse.lv p1.Uses),.bool p1.Withdrawn]),(46,.bool ((p0.ID != p1.ID) || ((!(p0.Withdrawn == p1.Withdrawn)) || (((p0.Versions.length:Int) != (p1.Versions.length:Int)) || (((p0.Approved.length:Int) != (p1.Approved.length:Int)) || ((p0.Uses.length:Int) != (p1.Uses.length:Int)))))))] [] R ?_ ?_))))
  ·refine sN (oFaS tf49_0 tk3 ts3 R R R (sN (oLd R tk3 ta3 (sN (oFaS tf49_0 tk3 ts3 R R R (sN (oLd R tk3 ta3 (sN (oNe R R (sMb R ?_))))))))))
   by_cases hb2:(p0.ID != p1.ID)=true
   ·exact sF R R hb2 (sF R R hb2 (sF R R hb2 (sF R R hb2 (sF R R hb2 (sN (oPkT (cB hb2) (v:=(.bool _)) R (sMb R (sF R R R (sF R R R (sF R R R (sF R R R (sF R R R (sF R R R (sF R R R (sN (oPkT R (v:=(.bool _)) R (sMb R (sF R R R (sF R R R (sF R R R (sF R R R (sF R R R (sF R R R (sF R R R (sN (oPkT R (v:=(.bool _)) R (sMb R (sF R R R (sF R R R (sF R R R (sF R R R (sF R R R (sF R R R (sF R R R (sN (oPkT R (v:=(.bool _)) R (s0 (Wk.to (eC R (eC R (eC (cB (orT hb2)) eN))) mN R (prK R)))))))))))))))))))))))))))))))))))))))
   ·replace hb2:=bF hb2
    refine sT R (cB hb2) (oFaS tf49_4 tk4 ts4 R R R (sT R (cB hb2) (oLd R tk4 ta4 (sT R (cB hb2) (oFaS tf49_4 tk4 ts4 R R R (sT R (cB hb2) (oLd R tk4 ta4 (sT R (cB hb2) (oNeB R R tb4 (sN (oPkF (cB hb2) (v:=(.bool _)) R (sMb R ?_))))))))))))
    by_cases hb3:(!(p0.Withdrawn == p1.Withdrawn))=true
    ·exact sF R R hb3 (sF R R hb3 (sF R R hb3 (sF R R hb3 (sF R R hb3 (sF R R hb3 (sF R R hb3 (sN (oPkT (cB hb3) (v:=(.bool _)) R (sMb R (sF R R R (sF R R R (sF R R R (sF R R R (sF R R R (sF R R R (sF R R R (sN (oPkT R (v:=(.bool _)) R (sMb R (sF R R R (sF R R R (sF R R R (sF R R R (sF R R R (sF R R R (sF R R R (sN (oPkT R (v:=(.bool _)) R (s0 (Wk.to (eC R (eC R (eC (cB (Eq.trans (orT hb3) (orF hb2))) eN))) mN R (prK R)))))))))))))))))))))))))))))))
    ·replace hb3:=bF hb3
     refine sT R (cB hb3) (oFaS tf49_1 tk45 ts45 R R R (sT R (cB hb3) (oLd R tk45 ta45 (sT R (cB hb3) (oLnL (f:=GItem.lv) te45 R (sT R (cB hb3) (oFaS tf49_1 tk45 ts45 R R R (sT R (cB hb3) (oLd R tk45 ta45 (sT R (cB hb3) (oLnL (f:=GItem.lv) te45 R (sT R (cB hb3) (oNe R R (sN (oPkF (cB hb3) (v:=(.bool _)) R (sMb R ?_))))))))))))))))
     by_cases hb4:((p0.Versions.length:Int) != (p1.Versions.length:Int))=true
     ·exact sF R R hb4 (sF R R hb4 (sF R R hb4 (sF R R hb4 (sF R R hb4 (sF R R hb4 (sF R R hb4 (sN (oPkT (cB hb4) (v:=(.bool _)) R (sMb R (sF R R R (sF R R R (sF R R R (sF R R R (sF R R R (sF R R R (sF R R R (sN (oPkT R (v:=(.bool _)) R (s0 (Wk.to (eC R (eC R (eC (cB (Eq.trans (Eq.trans (orT hb4) (orF hb3)) (orF hb2))) eN))) mN R (prK R)))))))))))))))))))))
     ·replace hb4:=bF hb4
      refine sT R (cB hb4) (oFaS tf49_2 tk46 ts46 R R R (sT R (cB hb4) (oLd R tk46 ta46 (sT R (cB hb4) (oLnL (f:=LV.bool) te46 R (sT R (cB hb4) (oFaS tf49_2 tk46 ts46 R R R (sT R (cB hb4) (oLd R tk46 ta46 (sT R (cB hb4) (oLnL (f:=LV.bool) te46 R (sT R (cB hb4) (oNe R R (sN (oPkF (cB hb4) (v:=(.bool _)) R (sMb R ?_))))))))))))))))
      by_cases hb5:((p0.Approved.length:Int) != (p1.Approved.length:Int))=true
      ·exact sF R R hb5 (sF R R hb5 (sF R R hb5 (sF R R hb5 (sF R R hb5 (sF R R hb5 (sF R R hb5 (sN (oPkT (cB hb5) (v:=(.bool _)) R (s0 (Wk.to (eC R (eC R (eC (cB (Eq.trans (Eq.trans (Eq.trans (orT hb5) (orF hb4)) (orF hb3)) (orF hb2))) eN))) mN R (prK R)))))))))))
      ·replace hb5:=bF hb5
       exact sT R (cB hb5) (oFaS tf49_3 tk47 ts47 R R R (sT R (cB hb5) (oLd R tk47 ta47 (sT R (cB hb5) (oLnL (f:=GUse.lv) te47 R (sT R (cB hb5) (oFaS tf49_3 tk47 ts47 R R R (sT R (cB hb5) (oLd R tk47 ta47 (sT R (cB hb5) (oLnL (f:=GUse.lv) te47 R (sT R (cB hb5) (oNe R R (sN (oPkF (cB hb5) (v:=(.bool _)) R (s0 (Wk.to (eC R (eC R (eC (cB (Eq.trans (Eq.trans (Eq.trans (orF hb5) (orF hb4)) (orF hb3)) (orF hb2))) eN))) mN R (prK R))))))))))))))))))
  refine LH.cond (t:=((p0.ID != p1.ID) || ((!(p0.Withdrawn == p1.Withdrawn)) || (((p0.Versions.length:Int) != (p1.Versions.length:Int)) || (((p0.Approved.length:Int) != (p1.Approved.length:Int)) || ((p0.Uses.length:Int) != (p1.Uses.length:Int))))))) R (fun hc6=>?_) (fun hc6=>?_)
  ·replace h:=iteT h hc6
   refine LH.seqT [(4,.bool false)] [] R (sAb R zS) (LH.ret (thenR ?_))
   obtain rfl:=oI h
   exact retE (aT Tryz.results23) (lrT R (lr0 ⟨memN mN,R,prK R,Sub.rfl⟩))
  replace h:=iteF h hc6
  refine LH.skip (thenN (LH.wk (Wk.eq (el:=[(2,.sptr [.I p0.ID,.lst 5 (List.map GItem.lv p0.Versions),.lst 1 (List.map LV.bool p0.Approved),.lst 3 (List.map GUse.lv p0.Uses),.bool p0.Withdrawn]),(3,.sptr [.I p1.ID,.lst 5 (List.map GItem.lv p1.Versions),.lst 1 (List.map LV.bool p1.Approved),.lst 3 (List.map GUse.lv p1.Uses),.bool p1.Withdrawn])]) (ml:=[]) R R R R) (LH.seq (LH.seqT [(2,.sptr [.I p0.ID,.lst 5 (List.map GItem.lv p0.Versions),.lst 1 (List.map LV.bool p0.Approved),.lst 3 (List.map GUse.lv p0.Uses),.bool p0.Withdrawn]),(3,.sptr [.I p1.ID,.lst 5 (List.map GItem.lv p1.Versions),.lst 1 (List.map LV.bool p1.Approved),.lst 3 (List.map GUse.lv p1.Uses),.bool p1.Withdrawn]),(5,.I 0)] [] R (sAi R zS) (LH.block (LH.loop (fun n e m=>∃ (n7:Int),q24q F p0 p1 n n7=some r∧e=Env.of [(2,.sptr [.I p0.ID,.lst 5 (List.map GItem.lv p0.Versions),.lst 1 (List.map LV.bool p0.Approved),.lst 3 (List.map GUse.lv p0.Uses),.bool p0.Withdrawn]),(3,.sptr [.I p1.ID,.lst 5 (List.map GItem.lv p1.Versions),.lst 1 (List.map LV.bool p1.Approved),.lst 3 (List.map GUse.lv p1.Uses),.bool p1.Withdrawn]),(5,.I n7)]∧m=Mem.of []) F ⟨0,h,R,R⟩ ?_))))))
  clear h
  rintro n e m ⟨n7,h,rfl,rfl⟩
  rcases n with _ | n
  · cases (show Option.none=some _ from h)
  obtain ⟨rec1,hrec1⟩:∃ f,f=q24q F p0 p1 n:=⟨_,rfl⟩
  replace h:q45q F p0 p1 rec1 n7=some r:=hrec1 ▸ h
  unfold q45q at h
  refine LH.seq (LH.seqT [(2,.sptr [.I p0.ID,.lst 5 (List.map GItem.lv p0.Versions),.lst 1 (List.map LV.bool p0.Approved),.lst 3 (List.map GUse.lv p0.Uses),.bool p0.Withdrawn]),(3,.sptr [.I p1.ID,.lst 5 (List.map GItem.lv p1.Versions),.lst 1 (List.map LV.bool p1.Approved),.lst 3 (List.map GUse.lv p1.Uses),.bool p1.Withdrawn]),(5,.I n7),(51,.bool (decide (n7<(p0.Versions.length:Int))))] [] R (sMi R (sN (oFaS tf49_1 tk45 ts45 R R R (sN (oLd R tk45 ta45 (sN (oLnL (f:=GItem.lv) te45 R (sN (oLt R R zS))))))))) (LH.cond (t:=(decide (n7<(p0.Versions.length:Int)))) R (fun hc8=>?_) (fun hc8=>?_)))
  ·replace h:=iteT h hc8
   refine LH.skip (thenN (LH.wk (Wk.eq (el:=[(2,.sptr [.I p0.ID,.lst 5 (List.map GItem.lv p0.Versions),.lst 1 (List.map LV.bool p0.Approved),.lst 3 (List.map GUse.lv p0.Uses),.bool p0.Withdrawn]),(3,.sptr [.I p1.ID,.lst 5 (List.map GItem.lv p1.Versions),.lst 1 (List.map LV.bool p1.Approved),.lst 3 (List.map GUse.lv p1.Uses),.bool p1.Withdrawn]),(5,.I n7)]) (ml:=[]) R R R R) (LH.seq (LH.block ?_))))
   obtain ⟨x9,hx9,h⟩:=bindS h
   obtain ⟨x10,hx10,h⟩:=bindS h
   obtain ⟨r11,hr11,h⟩:=bindS h
   refine LH.seqJM mixed [] [0,0,0,0,0,0,0,0,0,0,0,0] [(2,.sptr [.I p0.ID,.lst 5 (List.map GItem.lv p0.Versions),.lst 1 (List.map LV.bool p0.Approved),.lst 3 (List.map GUse.lv p0.Uses),.bool p0.Withdrawn]),(3,.sptr [.I p1.ID,.lst 5 (List.map GItem.lv p1.Versions),.lst 1 (List.map LV.bool p1.Approved),.lst 3 (List.map GUse.lv p1.Uses),.bool p1.Withdrawn]),(5,.I n7),(65,.bool (!r11))] [] R R (by kernel_rfl) (mN0 (oFaS tf49_1 tk45 ts45 R R R ⟨R,mN0 (oLd R tk45 ta45 ⟨R,mMi R (mN0 (oIx (f:=GItem.lv) te45 tk54 ts54 R R GItem.ok hx9 R ⟨R,mN0 (oLdA R tk54 ta54 ts54 R R ⟨R,mN0 (oFaS tf49_1 tk45 ts45 R R R ⟨R,mN0 (oLd R tk45 ta45 ⟨R,mMi R (mN0 (oIx (f:=GItem.lv) te45 tk54 ts54 R R GItem.ok hx10 R ⟨R,mN0 (oLdA R tk54 ta54 ts54 R R ⟨R,mN0 (oCP (args:=[GItem.lv x9,GItem.lv x10]) R isF24 R (sbR (sbR sbN)) (q205q hr11) R ⟨R,mN0 (oNot R ⟨R,zM⟩)⟩)⟩)⟩))⟩)⟩)⟩)⟩))⟩)⟩)) (LH.cond (t:=(!r11)) R (fun hc12=>?_) (fun hc12=>?_))
   ·replace h:=iteT h hc12
    refine LH.seqT [(4,.bool false)] [] R (sAb R zS) (LH.ret (blockR (thenR (roundR (blockR (thenR ?_))))))
    obtain rfl:=oI h
    exact retE (aT Tryz.results23) (lrT R (lr0 ⟨memN mN,R,prK R,Sub.rfl⟩))
   replace h:=iteF h hc12
   refine LH.skip (blockN (thenN (LH.loneT [(2,.sptr [.I p0.ID,.lst 5 (List.map GItem.lv p0.Versions),.lst 1 (List.map LV.bool p0.Approved),.lst 3 (List.map GUse.lv p0.Uses),.bool p0.Withdrawn]),(3,.sptr [.I p1.ID,.lst 5 (List.map GItem.lv p1.Versions),.lst 1 (List.map LV.bool p1.Approved),.lst 3 (List.map GUse.lv p1.Uses),.bool p1.Withdrawn]),(5,.I (i64 (n7+1)))] [] R (sMi R (sN (oAdd R R (sAi R zS)))) ?_)))
   exact roundI ⟨(i64 (n7+1)),hrec1 ▸ h,R,R⟩ (Wk.eq R R R R)
  replace h:=iteF h hc8
  refine LH.exit (thenX (roundX (blockH (thenN (LH.wk (Wk.eq (el:=[(2,.sptr [.I p0.ID,.lst 5 (List.map GItem.lv p0.Versions),.lst 1 (List.map LV.bool p0.Approved),.lst 3 (List.map GUse.lv p0.Uses),.bool p0.Withdrawn]),(3,.sptr [.I p1.ID,.lst 5 (List.map GItem.lv p1.Versions),.lst 1 (List.map LV.bool p1.Approved),.lst 3 (List.map GUse.lv p1.Uses),.bool p1.Withdrawn])]) (ml:=[]) R R R R) (LH.seq (LH.seqT [(2,.sptr [.I p0.ID,.lst 5 (List.map GItem.lv p0.Versions),.lst 1 (List.map LV.bool p0.Approved),.lst 3 (List.map GUse.lv p0.Uses),.bool p0.Withdrawn]),(3,.sptr [.I p1.ID,.lst 5 (List.map GItem.lv p1.Versions),.lst 1 (List.map LV.bool p1.Approved),.lst 3 (List.map GUse.lv p1.Uses),.bool p1.Withdrawn]),(6,.I 0)] [] R (sAi R zS) (LH.block (LH.loop (fun n e m=>∃ (n13:Int),q17q F p0 p1 n n13=some r∧e=Env.of [(2,.sptr [.I p0.ID,.lst 5 (List.map GItem.lv p0.Versions),.lst 1 (List.map LV.bool p0.Approved),.lst 3 (List.map GUse.lv p0.Uses),.bool p0.Withdrawn]),(3,.sptr [.I p1.ID,.lst 5 (List.map GItem.lv p1.Versions),.lst 1 (List.map LV.bool p1.Approved),.lst 3 (List.map GUse.lv p1.Uses),.bool p1.Withdrawn]),(6,.I n13)]∧m=Mem.of []) F ⟨0,h,R,R⟩ ?_)))))))))
  clear h
  rintro n e m ⟨n13,h,rfl,rfl⟩
  rcases n with _ | n
  · cases (show Option.none=some _ from h)
  obtain ⟨rec2,hrec2⟩:∃ f,f=q17q F p0 p1 n:=⟨_,rfl⟩
  replace h:q46q F p0 p1 rec2 n13=some r:=hrec2 ▸ h
  unfold q46q at h
  refine LH.seq (LH.seqT [(2,.sptr [.I p0.ID,.lst 5 (List.map GItem.lv p0.Versions),.lst 1 (List.map LV.bool p0.Approved),.lst 3 (List.map GUse.lv p0.Uses),.bool p0.Withdrawn]),(3,.sptr [.I p1.ID,.lst 5 (List.map GItem.lv p1.Versions),.lst 1 (List.map LV.bool p1.Approved),.lst 3 (List.map GUse.lv p1.Uses),.bool p1.Withdrawn]),(6,.I n13),(70,.bool (decide (n13<(p0.Approved.length:Int))))] [] R (sMi R (sN (oFaS tf49_2 tk46 ts46 R R R (sN (oLd R tk46 ta46 (sN (oLnL (f:=LV.bool) te46 R (sN (oLt R R zS))))))))) (LH.cond (t:=(decide (n13<(p0.Approved.length:Int)))) R (fun hc14=>?_) (fun hc14=>?_)))
  ·replace h:=iteT h hc14
   refine LH.skip (thenN (LH.wk (Wk.eq (el:=[(2,.sptr [.I p0.ID,.lst 5 (List.map GItem.lv p0.Versions),.lst 1 (List.map LV.bool p0.Approved),.lst 3 (List.map GUse.lv p0.Uses),.bool p0.Withdrawn]),(3,.sptr [.I p1.ID,.lst 5 (List.map GItem.lv p1.Versions),.lst 1 (List.map LV.bool p1.Approved),.lst 3 (List.map GUse.lv p1.Uses),.bool p1.Withdrawn]),(6,.I n13)]) (ml:=[]) R R R R) (LH.seq (LH.block ?_))))
   obtain ⟨x15,hx15,h⟩:=bindS h
   obtain ⟨x16,hx16,h⟩:=bindS h
   refine LH.seqJM mixed [] [0,0,0,0,0,0,0,0,0,0,0] [(2,.sptr [.I p0.ID,.lst 5 (List.map GItem.lv p0.Versions),.lst 1 (List.map LV.bool p0.Approved),.lst 3 (List.map GUse.lv p0.Uses),.bool p0.Withdrawn]),(3,.sptr [.I p1.ID,.lst 5 (List.map GItem.lv p1.Versions),.lst 1 (List.map LV.bool p1.Approved),.lst 3 (List.map GUse.lv p1.Uses),.bool p1.Withdrawn]),(6,.I n13),(83,.bool (!(x15 == x16)))] [] R R (by kernel_rfl) (mN0 (oFaS tf49_2 tk46 ts46 R R R ⟨R,mN0 (oLd R tk46 ta46 ⟨R,mMi R (mN0 (oIx (f:=LV.bool) te46 tk4 ts4 R R okB hx15 R ⟨R,mN0 (oLd R tk4 ta4 ⟨R,mN0 (oFaS tf49_2 tk46 ts46 R R R ⟨R,mN0 (oLd R tk46 ta46 ⟨R,mMi R (mN0 (oIx (f:=LV.bool) te46 tk4 ts4 R R okB hx16 R ⟨R,mN0 (oLd R tk4 ta4 ⟨R,mN0 (oNeB R R tb4 ⟨R,zM⟩)⟩)⟩))⟩)⟩)⟩)⟩))⟩)⟩)) (LH.cond (t:=(!(x15 == x16))) R (fun hc17=>?_) (fun hc17=>?_))
   ·replace h:=iteT h hc17
    refine LH.seqT [(4,.bool false)] [] R (sAb R zS) (LH.ret (blockR (thenR (roundR (blockR (thenR ?_))))))
    obtain rfl:=oI h
    exact retE (aT Tryz.results23) (lrT R (lr0 ⟨memN mN,R,prK R,Sub.rfl⟩))
   replace h:=iteF h hc17
   refine LH.skip (blockN (thenN (LH.loneT [(2,.sptr [.I p0.ID,.lst 5 (List.map GItem.lv p0.Versions),.lst 1 (List.map LV.bool p0.Approved),.lst 3 (List.map GUse.lv p0.Uses),.bool p0.Withdrawn]),(3,.sptr [.I p1.ID,.lst 5 (List.map GItem.lv p1.Versions),.lst 1 (List.map LV.bool p1.Approved),.lst 3 (List.map GUse.lv p1.Uses),.bool p1.Withdrawn]),(6,.I (i64 (n13+1)))] [] R (sMi R (sN (oAdd R R (sAi R zS)))) ?_)))
   exact roundI ⟨(i64 (n13+1)),hrec2 ▸ h,R,R⟩ (Wk.eq R R R R)
  replace h:=iteF h hc14
  refine LH.exit (thenX (roundX (blockH (thenN (LH.wk (Wk.eq (el:=[(2,.sptr [.I p0.ID,.lst 5 (List.map GItem.lv p0.Versions),.lst 1 (List.map LV.bool p0.Approved),.lst 3 (List.map GUse.lv p0.Uses),.bool p0.Withdrawn]),(3,.sptr [.I p1.ID,.lst 5 (List.map GItem.lv p1.Versions),.lst 1 (List.map LV.bool p1.Approved),.lst 3 (List.map GUse.lv p1.Uses),.bool p1.Withdrawn])]) (ml:=[]) R R R R) (LH.seq (LH.seqT [(2,.sptr [.I p0.ID,.lst 5 (List.map GItem.lv p0.Versions),.lst 1 (List.map LV.bool p0.Approved),.lst 3 (List.map GUse.lv p0.Uses),.bool p0.Withdrawn]),(3,.sptr [.I p1.ID,.lst 5 (List.map GItem.lv p1.Versions),.lst 1 (List.map LV.bool p1.Approved),.lst 3 (List.map GUse.lv p1.Uses),.bool p1.Withdrawn]),(7,.I 0)] [] R (sAi R zS) (LH.block (LH.loop (fun n e m=>∃ (n18:Int),q25q p0 p1 n n18=some r∧e=Env.of [(2,.sptr [.I p0.ID,.lst 5 (List.map GItem.lv p0.Versions),.lst 1 (List.map LV.bool p0.Approved),.lst 3 (List.map GUse.lv p0.Uses),.bool p0.Withdrawn]),(3,.sptr [.I p1.ID,.lst 5 (List.map GItem.lv p1.Versions),.lst 1 (List.map LV.bool p1.Approved),.lst 3 (List.map GUse.lv p1.Uses),.bool p1.Withdrawn]),(7,.I n18)]∧m=Mem.of []) F ⟨0,h,R,R⟩ ?_)))))))))
  clear h
  rintro n e m ⟨n18,h,rfl,rfl⟩
  rcases n with _ | n
  · cases (show Option.none=some _ from h)
  obtain ⟨rec3,hrec3⟩:∃ f,f=q25q p0 p1 n:=⟨_,rfl⟩
  replace h:q47q p0 p1 rec3 n18=some r:=hrec3 ▸ h
  unfold q47q at h
  refine LH.seq (LH.seqT [(2,.sptr [.I p0.ID,.lst 5 (List.map GItem.lv p0.Versions),.lst 1 (List.map LV.bool p0.Approved),.lst 3 (List.map GUse.lv p0.Uses),.bool p0.Withdrawn]),(3,.sptr [.I p1.ID,.lst 5 (List.map GItem.lv p1.Versions),.lst 1 (List.map LV.bool p1.Approved),.lst 3 (List.map GUse.lv p1.Uses),.bool p1.Withdrawn]),(7,.I n18),(88,.bool (decide (n18<(p0.Uses.length:Int))))] [] R (sMi R (sN (oFaS tf49_3 tk47 ts47 R R R (sN (oLd R tk47 ta47 (sN (oLnL (f:=GUse.lv) te47 R (sN (oLt R R zS))))))))) (LH.cond (t:=(decide (n18<(p0.Uses.length:Int)))) R (fun hc19=>?_) (fun hc19=>?_)))
  ·replace h:=iteT h hc19
   refine LH.skip (thenN (LH.wk (Wk.eq (el:=[(2,.sptr [.I p0.ID,.lst 5 (List.map GItem.lv p0.Versions),.lst 1 (List.map LV.bool p0.Approved),.lst 3 (List.map GUse.lv p0.Uses),.bool p0.Withdrawn]),(3,.sptr [.I p1.ID,.lst 5 (List.map GItem.lv p1.Versions),.lst 1 (List.map LV.bool p1.Approved),.lst 3 (List.map GUse.lv p1.Uses),.bool p1.Withdrawn]),(7,.I n18)]) (ml:=[]) R R R R) (LH.seq (LH.block ?_))))
   obtain ⟨x20,hx20,h⟩:=bindS h
   obtain ⟨x21,hx21,h⟩:=bindS h
   refine LH.seqJM mixed [] [0,0,0,0,0,0,0,0,0,0,0] [(2,.sptr [.I p0.ID,.lst 5 (List.map GItem.lv p0.Versions),.lst 1 (List.map LV.bool p0.Approved),.lst 3 (List.map GUse.lv p0.Uses),.bool p0.Withdrawn]),(3,.sptr [.I p1.ID,.lst 5 (List.map GItem.lv p1.Versions),.lst 1 (List.map LV.bool p1.Approved),.lst 3 (List.map GUse.lv p1.Uses),.bool p1.Withdrawn]),(7,.I n18),(101,.bool (!(decide (x20=x21))))] [] R R (by kernel_rfl) (mN0 (oFaS tf49_3 tk47 ts47 R R R ⟨R,mN0 (oLd R tk47 ta47 ⟨R,mMi R (mN0 (oIx (f:=GUse.lv) te47 tk88 ts88 R R GUse.ok hx20 R ⟨R,mN0 (oLdA R tk88 ta88 ts88 R R ⟨R,mN0 (oFaS tf49_3 tk47 ts47 R R R ⟨R,mN0 (oLd R tk47 ta47 ⟨R,mMi R (mN0 (oIx (f:=GUse.lv) te47 tk88 ts88 R R GUse.ok hx21 R ⟨R,mN0 (oLdA R tk88 ta88 ts88 R R ⟨R,mN0 (oNeA R R (ae88 x20 x21) ⟨R,zM⟩)⟩)⟩))⟩)⟩)⟩)⟩))⟩)⟩)) (LH.cond (t:=(!(decide (x20=x21)))) R (fun hc22=>?_) (fun hc22=>?_))
   ·replace h:=iteT h hc22
    refine LH.seqT [(4,.bool false)] [] R (sAb R zS) (LH.ret (blockR (thenR (roundR (blockR (thenR ?_))))))
    obtain rfl:=oI h
    exact retE (aT Tryz.results23) (lrT R (lr0 ⟨memN mN,R,prK R,Sub.rfl⟩))
   replace h:=iteF h hc22
   refine LH.skip (blockN (thenN (LH.loneT [(2,.sptr [.I p0.ID,.lst 5 (List.map GItem.lv p0.Versions),.lst 1 (List.map LV.bool p0.Approved),.lst 3 (List.map GUse.lv p0.Uses),.bool p0.Withdrawn]),(3,.sptr [.I p1.ID,.lst 5 (List.map GItem.lv p1.Versions),.lst 1 (List.map LV.bool p1.Approved),.lst 3 (List.map GUse.lv p1.Uses),.bool p1.Withdrawn]),(7,.I (i64 (n18+1)))] [] R (sMi R (sN (oAdd R R (sAi R zS)))) ?_)))
   exact roundI ⟨(i64 (n18+1)),hrec3 ▸ h,R,R⟩ (Wk.eq R R R R)
  replace h:=iteF h hc19
  refine LH.exit (thenX (roundX (blockH (thenN (LH.seqT [(4,.bool true)] [] R (sAb R zS) (LH.ret ?_))))))
  obtain rfl:=oI h
  exact retE (aT Tryz.results23) (lrT R (lr0 ⟨memN mN,R,prK R,Sub.rfl⟩))

theorem q204q {F:Nat} {p0:GBank} {p1:GBank} {r:Bool} (h:q158q F p0 p1=some r):LCall Tryz.prog 12 [.agg [.lst 5 (List.map Gq2.lv p0.Records)],.agg [.lst 5 (List.map Gq2.lv p1.Records)]] (Mem.of []) (.bool r) (Mem.of []):=by
  unfold q158q at h
  refine bodyT Tryz.func12 R (nT Tryz.ntmps12 R) (LH.wk (Wk.eq (el:=[(0,.agg [.lst 5 (List.map Gq2.lv p0.Records)]),(1,.agg [.lst 5 (List.map Gq2.lv p1.Records)])]) (ml:=[]) R R R R) (LH.seqT [(2,.sptr [.lst 5 (List.map Gq2.lv p0.Records)]),(3,.sptr [.lst 5 (List.map Gq2.lv p1.Records)])] [] R (sB (oBxR R R R R (sB (oBxR R R R R (sAb R zS))))) (LH.seq (LH.seqT [(2,.sptr [.lst 5 (List.map Gq2.lv p0.Records)]),(3,.sptr [.lst 5 (List.map Gq2.lv p1.Records)]),(12,.bool ((p0.Records.length:Int) != (p1.Records.length:Int)))] [] R (sN (oFaS tf30_0 tk28 ts28 R R R (sN (oLd R tk28 ta28 (sN (oLnL (f:=Gq2.lv) te28 R (sN (oFaS tf30_0 tk28 ts28 R R R (sN (oLd R tk28 ta28 (sN (oLnL (f:=Gq2.lv) te28 R (sN (oNe R R zS)))))))))))))) (LH.cond (t:=((p0.Records.length:Int) != (p1.Records.length:Int))) R (fun hc1=>?_) (fun hc1=>?_))))))
  ·replace h:=iteT h hc1
   refine LH.seqT [(4,.bool false)] [] R (sAb R zS) (LH.ret (thenR ?_))
   obtain rfl:=oI h
   exact retE (aT Tryz.results12) (lrT R (lr0 ⟨memN mN,R,prK R,Sub.rfl⟩))
  replace h:=iteF h hc1
  refine LH.skip (thenN (LH.wk (Wk.eq (el:=[(2,.sptr [.lst 5 (List.map Gq2.lv p0.Records)]),(3,.sptr [.lst 5 (List.map Gq2.lv p1.Records)])]) (ml:=[]) R R R R) (LH.seq (LH.seqT [(2,.sptr [.lst 5 (List.map Gq2.lv p0.Records)]),(3,.sptr [.lst 5 (List.map Gq2.lv p1.Records)]),(5,.I 0)] [] R (sAi R zS) (LH.block (LH.loop (fun n e m=>∃ (n2:Int),q113q F p0 p1 n n2=some r∧e=Env.of [(2,.sptr [.lst 5 (List.map Gq2.lv p0.Records)]),(3,.sptr [.lst 5 (List.map Gq2.lv p1.Records)]),(5,.I n2)]∧m=Mem.of []) F ⟨0,h,R,R⟩ ?_))))))
  clear h
  rintro n e m ⟨n2,h,rfl,rfl⟩
  rcases n with _ | n
  · cases (show Option.none=some _ from h)
  obtain ⟨rec1,hrec1⟩:∃ f,f=q113q F p0 p1 n:=⟨_,rfl⟩
  replace h:q122q F p0 p1 rec1 n2=some r:=hrec1 ▸ h
  unfold q122q at h
  refine LH.seq (LH.seqT [(2,.sptr [.lst 5 (List.map Gq2.lv p0.Records)]),(3,.sptr [.lst 5 (List.map Gq2.lv p1.Records)]),(5,.I n2),(17,.bool (decide (n2<(p0.Records.length:Int))))] [] R (sMi R (sN (oFaS tf30_0 tk28 ts28 R R R (sN (oLd R tk28 ta28 (sN (oLnL (f:=Gq2.lv) te28 R (sN (oLt R R zS))))))))) (LH.cond (t:=(decide (n2<(p0.Records.length:Int)))) R (fun hc3=>?_) (fun hc3=>?_)))
  ·replace h:=iteT h hc3
   refine LH.skip (thenN (LH.wk (Wk.eq (el:=[(2,.sptr [.lst 5 (List.map Gq2.lv p0.Records)]),(3,.sptr [.lst 5 (List.map Gq2.lv p1.Records)]),(5,.I n2)]) (ml:=[]) R R R R) (LH.seq (LH.block ?_))))
   obtain ⟨x4,hx4,h⟩:=bindS h
   obtain ⟨x5,hx5,h⟩:=bindS h
   obtain ⟨r6,hr6,h⟩:=bindS h
   refine LH.seqJM mixed [] [0,0,0,0,0,0,0,0,0,0,0,0] [(2,.sptr [.lst 5 (List.map Gq2.lv p0.Records)]),(3,.sptr [.lst 5 (List.map Gq2.lv p1.Records)]),(5,.I n2),(31,.bool (!r6))] [] R R (by kernel_rfl) (mN0 (oFaS tf30_0 tk28 ts28 R R R ⟨R,mN0 (oLd R tk28 ta28 ⟨R,mMi R (mN0 (oIx (f:=Gq2.lv) te28 tk49 ts49 R R Gq2.ok hx4 R ⟨R,mN0 (oLdA R tk49 ta49 ts49 R R ⟨R,mN0 (oFaS tf30_0 tk28 ts28 R R R ⟨R,mN0 (oLd R tk28 ta28 ⟨R,mMi R (mN0 (oIx (f:=Gq2.lv) te28 tk49 ts49 R R Gq2.ok hx5 R ⟨R,mN0 (oLdA R tk49 ta49 ts49 R R ⟨R,mN0 (oCP (args:=[.agg [.I x4.ID,.lst 5 (List.map GItem.lv x4.Versions),.lst 1 (List.map LV.bool x4.Approved),.lst 3 (List.map GUse.lv x4.Uses),.bool x4.Withdrawn],.agg [.I x5.ID,.lst 5 (List.map GItem.lv x5.Versions),.lst 1 (List.map LV.bool x5.Approved),.lst 3 (List.map GUse.lv x5.Uses),.bool x5.Withdrawn]]) R isF23 R (sbR (sbR sbN)) (q209q hr6) R ⟨R,mN0 (oNot R ⟨R,zM⟩)⟩)⟩)⟩))⟩)⟩)⟩)⟩))⟩)⟩)) (LH.cond (t:=(!r6)) R (fun hc7=>?_) (fun hc7=>?_))
   ·replace h:=iteT h hc7
    refine LH.seqT [(4,.bool false)] [] R (sAb R zS) (LH.ret (blockR (thenR (roundR (blockR (thenR ?_))))))
    obtain rfl:=oI h
    exact retE (aT Tryz.results12) (lrT R (lr0 ⟨memN mN,R,prK R,Sub.rfl⟩))
   replace h:=iteF h hc7
   refine LH.skip (blockN (thenN (LH.loneT [(2,.sptr [.lst 5 (List.map Gq2.lv p0.Records)]),(3,.sptr [.lst 5 (List.map Gq2.lv p1.Records)]),(5,.I (i64 (n2+1)))] [] R (sMi R (sN (oAdd R R (sAi R zS)))) ?_)))
   exact roundI ⟨(i64 (n2+1)),hrec1 ▸ h,R,R⟩ (Wk.eq R R R R)
  replace h:=iteF h hc3
  refine LH.exit (thenX (roundX (blockH (thenN (LH.seqT [(4,.bool true)] [] R (sAb R zS) (LH.ret ?_))))))
  obtain rfl:=oI h
  exact retE (aT Tryz.results12) (lrT R (lr0 ⟨memN mN,R,prK R,Sub.rfl⟩))

theorem q188q {F:Nat} {p0:List Gq3} {p1:List Gq3} {r:Bool} (h:q92q F p0 p1=some r):LCall Tryz.prog 13 [.lst 3 (List.map Gq3.lv p0),.lst 3 (List.map Gq3.lv p1)] (Mem.of []) (.bool r) (Mem.of []):=by
  unfold q92q at h
  refine bodyT Tryz.func13 R (nT Tryz.ntmps13 R) (LH.wk (Wk.eq (el:=[(0,.lst 3 (List.map Gq3.lv p0)),(1,.lst 3 (List.map Gq3.lv p1))]) (ml:=[]) R R R R) (LH.seqT [(0,.lst 3 (List.map Gq3.lv p0)),(1,.lst 3 (List.map Gq3.lv p1))] [] R (sAb R zS) (LH.seq (LH.seqT [(0,.lst 3 (List.map Gq3.lv p0)),(1,.lst 3 (List.map Gq3.lv p1)),(10,.bool ((p0.length:Int) != (p1.length:Int)))] [] R (sMl R (sN (oLnL (f:=Gq3.lv) te31 R (sMl R (sN (oLnL (f:=Gq3.lv) te31 R (sN (oNe R R zS)))))))) (LH.cond (t:=((p0.length:Int) != (p1.length:Int))) R (fun hc1=>?_) (fun hc1=>?_))))))
  ·replace h:=iteT h hc1
   refine LH.seqT [(4,.bool false)] [] R (sAb R zS) (LH.ret (thenR ?_))
   obtain rfl:=oI h
   exact retE (aT Tryz.results13) (lrT R (lr0 ⟨memN mN,R,prK R,Sub.rfl⟩))
  replace h:=iteF h hc1
  refine LH.skip (thenN (LH.wk (Wk.eq (el:=[(0,.lst 3 (List.map Gq3.lv p0)),(1,.lst 3 (List.map Gq3.lv p1))]) (ml:=[]) R R R R) (LH.seq (LH.seqT [(0,.lst 3 (List.map Gq3.lv p0)),(1,.lst 3 (List.map Gq3.lv p1)),(5,.I 0)] [] R (sAi R zS) (LH.block (LH.loop (fun n e m=>∃ (n2:Int),q64q p0 p1 n n2=some r∧e=Env.of [(0,.lst 3 (List.map Gq3.lv p0)),(1,.lst 3 (List.map Gq3.lv p1)),(5,.I n2)]∧m=Mem.of []) F ⟨0,h,R,R⟩ ?_))))))
  clear h
  rintro n e m ⟨n2,h,rfl,rfl⟩
  rcases n with _ | n
  · cases (show Option.none=some _ from h)
  obtain ⟨rec1,hrec1⟩:∃ f,f=q64q p0 p1 n:=⟨_,rfl⟩
  replace h:q71q p0 p1 rec1 n2=some r:=hrec1 ▸ h
  unfold q71q at h
  refine LH.seq (LH.seqT [(0,.lst 3 (List.map Gq3.lv p0)),(1,.lst 3 (List.map Gq3.lv p1)),(5,.I n2),(14,.bool (decide (n2<(p0.length:Int))))] [] R (sMi R (sMl R (sN (oLnL (f:=Gq3.lv) te31 R (sN (oLt R R zS)))))) (LH.cond (t:=(decide (n2<(p0.length:Int)))) R (fun hc3=>?_) (fun hc3=>?_)))
  ·replace h:=iteT h hc3
   refine LH.skip (thenN (LH.wk (Wk.eq (el:=[(0,.lst 3 (List.map Gq3.lv p0)),(1,.lst 3 (List.map Gq3.lv p1)),(5,.I n2)]) (ml:=[]) R R R R) (LH.seq (LH.block ?_))))
   obtain ⟨x4,hx4,h⟩:=bindS h
   obtain ⟨x5,hx5,h⟩:=bindS h
   refine LH.seqJM mixed [] [0,0,0,0,0,0,0,0,0] [(0,.lst 3 (List.map Gq3.lv p0)),(1,.lst 3 (List.map Gq3.lv p1)),(5,.I n2),(25,.bool (!(decide (x4=x5))))] [] R R (by kernel_rfl) (mMl R (mMi R (mN0 (oIx (f:=Gq3.lv) te31 tk84 ts84 R R Gq3.ok hx4 R ⟨R,mN0 (oLdA R tk84 ta84 ts84 R R ⟨R,mMl R (mMi R (mN0 (oIx (f:=Gq3.lv) te31 tk84 ts84 R R Gq3.ok hx5 R ⟨R,mN0 (oLdA R tk84 ta84 ts84 R R ⟨R,mN0 (oNeA R R (ae84 x4 x5) ⟨R,zM⟩)⟩)⟩)))⟩)⟩)))) (LH.cond (t:=(!(decide (x4=x5)))) R (fun hc6=>?_) (fun hc6=>?_))
   ·replace h:=iteT h hc6
    refine LH.seqT [(4,.bool false)] [] R (sAb R zS) (LH.ret (blockR (thenR (roundR (blockR (thenR ?_))))))
    obtain rfl:=oI h
    exact retE (aT Tryz.results13) (lrT R (lr0 ⟨memN mN,R,prK R,Sub.rfl⟩))
   replace h:=iteF h hc6
   refine LH.skip (blockN (thenN (LH.loneT [(0,.lst 3 (List.map Gq3.lv p0)),(1,.lst 3 (List.map Gq3.lv p1)),(5,.I (i64 (n2+1)))] [] R (sMi R (sN (oAdd R R (sAi R zS)))) ?_)))
   exact roundI ⟨(i64 (n2+1)),hrec1 ▸ h,R,R⟩ (Wk.eq R R R R)
  replace h:=iteF h hc3
  refine LH.exit (thenX (roundX (blockH (thenN (LH.seqT [(4,.bool true)] [] R (sAb R zS) (LH.ret ?_))))))
  obtain rfl:=oI h
  exact retE (aT Tryz.results13) (lrT R (lr0 ⟨memN mN,R,prK R,Sub.rfl⟩))

theorem q211q {F:Nat} {p0:List Int} {p1:Int} {r:Bool} (h:q149q F p0 p1=some r):LCall Tryz.prog 3 [.L p0,.I p1] (Mem.of []) (.bool r) (Mem.of []):=by
  unfold q149q at h
  refine bodyT Tryz.func3 R (nT Tryz.ntmps3 R) (LH.wk (Wk.eq (el:=[(0,.L p0),(1,.I p1)]) (ml:=[]) R R R R) (LH.seqT [(0,.L p0),(1,.I p1)] [] R (sAb R zS) ?_))
  obtain ⟨r1,hr1,h⟩:=bindS h
  refine LH.seqT [(1,.I p1),(5,.ptr 7 0)] [(7,.box [.L r1.L,.I r1.At])] R (sMl R (sN (oCM (args:=[.L p0]) (ml:=[]) (ml':=[(7,.box [.L r1.L,.I r1.At])]) R isF7 R (sbR sbN) (q252q hr1) mN (newF R newN) R (sAp R zS)))) ?_
  obtain ⟨r2,hr2,h⟩:=bindS h
  refine LH.seqT [(1,.I p1),(5,.ptr 7 0),(6,.lst 12 (List.map Gq0.lv r2.1))] [(7,.box [.L r2.2.L,.I r2.2.At])] R (sMp R (sN (oCM (args:=[.ptr 7 0,.I 14,.I 5]) (ml:=[(7,.box [.L r1.L,.I r1.At])]) (ml':=[(7,.box [.L r2.2.L,.I r2.2.At])]) R isF8 R (sbR (sbR (sbR sbN))) (Gq11 hr2) (mC R mN) (newI R newN) R (sAl R zS)))) ?_
  obtain ⟨r3,hr3,h⟩:=bindS h
  refine LH.seqT [(1,.I p1),(6,.lst 12 (List.map Gq0.lv r2.1)),(7,.I r3.1)] [] R (sMp R (sN (oCM (args:=[.ptr 7 0,.I 0,.I 20]) (ml:=[(7,.box [.L r2.2.L,.I r2.2.At])]) (ml':=[(7,.box [.L r3.2.L,.I r3.2.At])]) R isF9 R (sbR (sbR (sbR sbN))) (Gq28 hr3) (mC R mN) (newI R newN) R (sAi R zS)))) ?_
  obtain ⟨r4,hr4,h⟩:=bindS h
  refine LH.seqT [(1,.I p1),(6,.lst 12 (List.map Gq0.lv r2.1)),(7,.I r3.1),(8,.sptr [.lst 5 (List.map Gq2.lv r4.1.Records)]),(9,.lst 3 (List.map Gq3.lv r4.2.1)),(10,.I r4.2.2)] [] R (sMl R (sMi R (sN (oCP (args:=[.lst 12 (List.map Gq0.lv r2.1),.I p1]) R isF10 R (sbR (sbR sbN)) (q194q hr4) R (sMt R (sN (oEx R R (sN (oEx R R (sN (oEx R R (sN (oAl (id:=108) R tz30 R R (s_ (oSt R R R tk30 ts30 R R R (sAl R (sAi R (s0 ((Wk.trans (Wk.eq (el:=[(1,.I p1),(6,.lst 12 (List.map Gq0.lv r2.1)),(7,.I r3.1),(8,.ptr 108 0),(9,.lst 3 (List.map Gq3.lv r4.2.1)),(10,.I r4.2.2)]) (ml:=[(108,.box [.lst 5 (List.map Gq2.lv r4.1.Records)])]) R R R R) (Wk.trans (Wk.frzB 108 [.lst 5 (List.map Gq2.lv r4.1.Records)] R R R (prN R)) (Wk.eq R R R R)))))))))))))))))))))) ?_
  obtain ⟨r5,hr5,h⟩:=bindS h
  refine LH.seqT [(6,.lst 12 (List.map Gq0.lv r2.1)),(7,.I r3.1),(8,.sptr [.lst 5 (List.map Gq2.lv r4.1.Records)]),(9,.lst 3 (List.map Gq3.lv r4.2.1)),(10,.I r4.2.2),(11,.sptr [.lst 5 (List.map Gq2.lv r5.1.Records)]),(12,.lst 3 (List.map Gq3.lv r5.2.1)),(13,.I r5.2.2)] [] R (sMl R (sMi R (sN (oCP (args:=[.lst 12 (List.map Gq0.lv r2.1),.I p1]) R isF11 R (sbR (sbR sbN)) (q206q hr5) R (sMt R (sN (oEx R R (sN (oEx R R (sN (oEx R R (sN (oAl (id:=111) R tz30 R R (s_ (oSt R R R tk30 ts30 R R R (sAl R (sAi R (s0 ((Wk.trans (Wk.eq (el:=[(6,.lst 12 (List.map Gq0.lv r2.1)),(7,.I r3.1),(8,.sptr [.lst 5 (List.map Gq2.lv r4.1.Records)]),(9,.lst 3 (List.map Gq3.lv r4.2.1)),(10,.I r4.2.2),(11,.ptr 111 0),(12,.lst 3 (List.map Gq3.lv r5.2.1)),(13,.I r5.2.2)]) (ml:=[(111,.box [.lst 5 (List.map Gq2.lv r5.1.Records)])]) R R R R) (Wk.trans (Wk.frzB 111 [.lst 5 (List.map Gq2.lv r5.1.Records)] R R R (prN R)) (Wk.eq R R R R)))))))))))))))))))))) ?_
  obtain ⟨r6,hr6,h⟩:=bindS h
  refine LH.seqT [(6,.lst 12 (List.map Gq0.lv r2.1)),(7,.I r3.1),(8,.sptr [.lst 5 (List.map Gq2.lv r4.1.Records)]),(9,.lst 3 (List.map Gq3.lv r4.2.1)),(10,.I r4.2.2),(11,.sptr [.lst 5 (List.map Gq2.lv r5.1.Records)]),(12,.lst 3 (List.map Gq3.lv r5.2.1)),(13,.I r5.2.2),(14,.sptr [.lst 5 (List.map Gq2.lv r6.1.Records)]),(15,.lst 3 (List.map Gq3.lv r6.2.1)),(16,.I r6.2.2)] [] R (sMl R (sMi R (sN (oCP (args:=[.lst 12 (List.map Gq0.lv r2.1),.I r3.1]) R isF10 R (sbR (sbR sbN)) (q194q hr6) R (sMt R (sN (oEx R R (sN (oEx R R (sN (oEx R R (sN (oAl (id:=114) R tz30 R R (s_ (oSt R R R tk30 ts30 R R R (sAl R (sAi R (s0 ((Wk.trans (Wk.eq (el:=[(6,.lst 12 (List.map Gq0.lv r2.1)),(7,.I r3.1),(8,.sptr [.lst 5 (List.map Gq2.lv r4.1.Records)]),(9,.lst 3 (List.map Gq3.lv r4.2.1)),(10,.I r4.2.2),(11,.sptr [.lst 5 (List.map Gq2.lv r5.1.Records)]),(12,.lst 3 (List.map Gq3.lv r5.2.1)),(13,.I r5.2.2),(14,.ptr 114 0),(15,.lst 3 (List.map Gq3.lv r6.2.1)),(16,.I r6.2.2)]) (ml:=[(114,.box [.lst 5 (List.map Gq2.lv r6.1.Records)])]) R R R R) (Wk.trans (Wk.frzB 114 [.lst 5 (List.map Gq2.lv r6.1.Records)] R R R (prN R)) (Wk.eq R R R R)))))))))))))))))))))) ?_
  obtain ⟨r7,hr7,h⟩:=bindS h
  refine LH.seqT [(8,.sptr [.lst 5 (List.map Gq2.lv r4.1.Records)]),(9,.lst 3 (List.map Gq3.lv r4.2.1)),(10,.I r4.2.2),(11,.sptr [.lst 5 (List.map Gq2.lv r5.1.Records)]),(12,.lst 3 (List.map Gq3.lv r5.2.1)),(13,.I r5.2.2),(14,.sptr [.lst 5 (List.map Gq2.lv r6.1.Records)]),(15,.lst 3 (List.map Gq3.lv r6.2.1)),(16,.I r6.2.2),(17,.sptr [.lst 5 (List.map Gq2.lv r7.1.Records)]),(18,.lst 3 (List.map Gq3.lv r7.2.1)),(19,.I r7.2.2)] [] R (sMl R (sMi R (sN (oCP (args:=[.lst 12 (List.map Gq0.lv r2.1),.I r3.1]) R isF11 R (sbR (sbR sbN)) (q206q hr7) R (sMt R (sN (oEx R R (sN (oEx R R (sN (oEx R R (sN (oAl (id:=117) R tz30 R R (s_ (oSt R R R tk30 ts30 R R R (sAl R (sAi R (s0 ((Wk.trans (Wk.eq (el:=[(8,.sptr [.lst 5 (List.map Gq2.lv r4.1.Records)]),(9,.lst 3 (List.map Gq3.lv r4.2.1)),(10,.I r4.2.2),(11,.sptr [.lst 5 (List.map Gq2.lv r5.1.Records)]),(12,.lst 3 (List.map Gq3.lv r5.2.1)),(13,.I r5.2.2),(14,.sptr [.lst 5 (List.map Gq2.lv r6.1.Records)]),(15,.lst 3 (List.map Gq3.lv r6.2.1)),(16,.I r6.2.2),(17,.ptr 117 0),(18,.lst 3 (List.map Gq3.lv r7.2.1)),(19,.I r7.2.2)]) (ml:=[(117,.box [.lst 5 (List.map Gq2.lv r7.1.Records)])]) R R R R) (Wk.trans (Wk.frzB 117 [.lst 5 (List.map Gq2.lv r7.1.Records)] R R R (prN R)) (Wk.eq R R R R)))))))))))))))))))))) ?_
  obtain ⟨w9,hv,h⟩:=bindS h
  refine LH.seqT [(4,.bool w9)] [] R ?_ ?_
  ·refine sN (oLdA R tk30 ta30 ts30 R R (sN (oLdA R tk30 ta30 ts30 R R ?_)))
   obtain ⟨r10,hr10,hv⟩:=bindS hv
   refine sN (oCP (args:=[.agg [.lst 5 (List.map Gq2.lv r4.1.Records)],.agg [.lst 5 (List.map Gq2.lv r5.1.Records)]]) R isF12 R (sbR (sbR sbN)) (q204q hr10) R (sMb R ?_))
   by_cases hb11:r10=true
   ·replace hv:=iteT hv hb11
    refine sT R (cB hb11) (oM (v:=(.lst _ _)) R (sT R (cB hb11) (oM (v:=(.lst _ _)) R ?_)))
    obtain ⟨r12,hr12,hv⟩:=bindS hv
    refine sT R (cB hb11) (oCP (args:=[.lst 3 (List.map Gq3.lv r4.2.1),.lst 3 (List.map Gq3.lv r5.2.1)]) R isF13 R (sbR (sbR sbN)) (q188q hr12) R (sN (oPkT (cB hb11) (v:=(.bool _)) R (sMb R ?_))))
    by_cases hb13:r12=true
    ·replace hv:=iteT hv hb13
     refine sT R (cB hb13) (oM (v:=(.int _ _)) R (sT R (cB hb13) (oM (v:=(.int _ _)) R (sT R (cB hb13) (oEq R R (sN (oPkT (cB hb13) (v:=(.bool _)) R (sMb R ?_))))))))
     by_cases hb14:(r4.2.2 == r5.2.2)=true
     ·replace hv:=iteT hv hb14
      refine sT R (cB hb14) (oLdA R tk30 ta30 ts30 R R (sT R (cB hb14) (oLdA R tk30 ta30 ts30 R R ?_)))
      obtain ⟨r15,hr15,hv⟩:=bindS hv
      refine sT R (cB hb14) (oCP (args:=[.agg [.lst 5 (List.map Gq2.lv r6.1.Records)],.agg [.lst 5 (List.map Gq2.lv r7.1.Records)]]) R isF12 R (sbR (sbR sbN)) (q204q hr15) R (sN (oPkT (cB hb14) (v:=(.bool _)) R (sMb R ?_))))
      by_cases hb16:r15=true
      ·replace hv:=iteT hv hb16
       refine sT R (cB hb16) (oM (v:=(.lst _ _)) R (sT R (cB hb16) (oM (v:=(.lst _ _)) R ?_)))
       obtain ⟨r17,hr17,hv⟩:=bindS hv
       refine sT R (cB hb16) (oCP (args:=[.lst 3 (List.map Gq3.lv r6.2.1),.lst 3 (List.map Gq3.lv r7.2.1)]) R isF13 R (sbR (sbR sbN)) (q188q hr17) R (sN (oPkT (cB hb16) (v:=(.bool _)) R (sMb R ?_))))
       by_cases hb18:r17=true
       ·replace hv:=iteT hv hb18
        refine sT R (cB hb18) (oM (v:=(.int _ _)) R (sT R (cB hb18) (oM (v:=(.int _ _)) R (sT R (cB hb18) (oEq R R (sN (oPkT (cB hb18) (v:=(.bool _)) R (sMb R ?_))))))))
        by_cases hb19:(r6.2.2 == r7.2.2)=true
        ·replace hv:=iteT hv hb19
         obtain ⟨r20,hr20,hv⟩:=bindS hv
         refine sT R (cB hb19) (oCP (args:=[]) R isF14 R sbN (q234q hr20) R (sN (oPkT (cB hb19) (v:=(.bool _)) R (sAb R ?_))))
         obtain rfl:=oI hv
         exact zS
        ·replace hb19:=bF hb19
         replace hv:=iteF hv hb19
         refine sF R R hb19 (sN (oPkF (cB hb19) (v:=(.bool _)) R (sAb R ?_)))
         obtain rfl:=oI hv
         exact zS
       ·replace hb18:=bF hb18
        replace hv:=iteF hv hb18
        refine sF R R hb18 (sF R R hb18 (sF R R hb18 (sN (oPkF (cB hb18) (v:=(.bool _)) R (sMb R (sF R R R (sN (oPkF R (v:=(.bool _)) R (sAb R ?_)))))))))
        obtain rfl:=oI hv
        exact zS
      ·replace hb16:=bF hb16
       replace hv:=iteF hv hb16
       refine sF R R hb16 (sF R R hb16 (sF R R hb16 (sN (oPkF (cB hb16) (v:=(.bool _)) R (sMb R (sF R R R (sF R R R (sF R R R (sN (oPkF R (v:=(.bool _)) R (sMb R (sF R R R (sN (oPkF R (v:=(.bool _)) R (sAb R ?_)))))))))))))))
       obtain rfl:=oI hv
       exact zS
     ·replace hb14:=bF hb14
      replace hv:=iteF hv hb14
      refine sF R R hb14 (sF R R hb14 (sF R R hb14 (sN (oPkF (cB hb14) (v:=(.bool _)) R (sMb R (sF R R R (sF R R R (sF R R R (sN (oPkF R (v:=(.bool _)) R (sMb R (sF R R R (sF R R R (sF R R R (sN (oPkF R (v:=(.bool _)) R (sMb R (sF R R R (sN (oPkF R (v:=(.bool _)) R (sAb R ?_)))))))))))))))))))))
      obtain rfl:=oI hv
      exact zS
    ·replace hb13:=bF hb13
     replace hv:=iteF hv hb13
     refine sF R R hb13 (sF R R hb13 (sF R R hb13 (sN (oPkF (cB hb13) (v:=(.bool _)) R (sMb R (sF R R R (sF R R R (sF R R R (sN (oPkF R (v:=(.bool _)) R (sMb R (sF R R R (sF R R R (sF R R R (sN (oPkF R (v:=(.bool _)) R (sMb R (sF R R R (sF R R R (sF R R R (sN (oPkF R (v:=(.bool _)) R (sMb R (sF R R R (sN (oPkF R (v:=(.bool _)) R (sAb R ?_)))))))))))))))))))))))))))
     obtain rfl:=oI hv
     exact zS
   ·replace hb11:=bF hb11
    replace hv:=iteF hv hb11
    refine sF R R hb11 (sF R R hb11 (sF R R hb11 (sN (oPkF (cB hb11) (v:=(.bool _)) R (sMb R (sF R R R (sF R R R (sF R R R (sN (oPkF R (v:=(.bool _)) R (sMb R (sF R R R (sF R R R (sF R R R (sN (oPkF R (v:=(.bool _)) R (sMb R (sF R R R (sF R R R (sF R R R (sN (oPkF R (v:=(.bool _)) R (sMb R (sF R R R (sF R R R (sF R R R (sN (oPkF R (v:=(.bool _)) R (sMb R (sF R R R (sN (oPkF R (v:=(.bool _)) R (sAb R ?_)))))))))))))))))))))))))))))))))
    obtain rfl:=oI hv
    exact zS
  clear hv
  refine LH.ret ?_
  obtain rfl:=oI h
  exact retE (aT Tryz.results3) (lrT R (lr0 ⟨memN mN,R,prK R,Sub.rfl⟩))

end Go.Proofs.YtmollikhdbaikaaGreat
