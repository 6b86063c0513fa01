import Derived.Test.YtmollikhdbaikaaGreatZW3
set_option linter.unusedVariables false
set_option linter.unusedSimpArgs false
set_option maxRecDepth 100000
set_option maxHeartbeats 1000000
namespace Go.Proofs.YtmollikhdbaikaaGreat
open Go.L Go.Sh
theorem q136q {F:Nat} {p0:GBank} {p1:Int} {r:Int} (h:q78q F p0 p1=some r):LCall Tryz.prog 40 [.agg [.lst 5 (List.map Gq2.lv p0.Records)],.I p1] (Mem.of []) (.I r) (Mem.of []):=by
  unfold q78q at h
  refine bodyT Tryz.func40 R (nT Tryz.ntmps40 R) (LH.wk (Wk.eq (el:=[(0,.agg [.lst 5 (List.map Gq2.lv p0.Records)]),(1,.I p1)]) (ml:=[]) R R R R) (LH.seqT [(1,.I p1),(2,.sptr [.lst 5 (List.map Gq2.lv p0.Records)])] [] R (sB (oBxR R R R R (sAi R zS))) (LH.seq (LH.seqT [(1,.I p1),(2,.sptr [.lst 5 (List.map Gq2.lv p0.Records)]),(5,.I 0)] [] R (sAi R zS) (LH.block (LH.loop (fun n e m=>∃ (n1:Int),q93q p0 p1 n n1=some r∧e=Env.of [(1,.I p1),(2,.sptr [.lst 5 (List.map Gq2.lv p0.Records)]),(5,.I n1)]∧m=Mem.of []) F ⟨0,h,R,R⟩ ?_))))))
  clear h
  rintro n e m ⟨n1,h,rfl,rfl⟩
  rcases n with _ | n
  · cases (show Option.none=some _ from h)
  obtain ⟨rec1,hrec1⟩:∃ f,f=q93q p0 p1 n:=⟨_,rfl⟩
  replace h:q104q p0 p1 rec1 n1=some r:=hrec1 ▸ h
  unfold q104q at h
  refine LH.seq (LH.seqT [(1,.I p1),(2,.sptr [.lst 5 (List.map Gq2.lv p0.Records)]),(5,.I n1),(10,.bool (decide (n1<(p0.Records.length:Int))))] [] R (sMi R (sN (oFaS tf30_0 tk28 ts28 R R R (sN (oLd R tk28 ta28 (sN (oLnL (f:=Gq2.lv) te28 R (sN (oLt R R zS))))))))) (LH.cond (t:=(decide (n1<(p0.Records.length:Int)))) R (fun hc2=>?_) (fun hc2=>?_)))
  ·replace h:=iteT h hc2
   refine LH.skip (thenN (LH.wk (Wk.eq (el:=[(1,.I p1),(2,.sptr [.lst 5 (List.map Gq2.lv p0.Records)]),(5,.I n1)]) (ml:=[]) R R R R) (LH.seq (LH.block ?_))))
   obtain ⟨x3,hx3,h⟩:=bindS h
   refine LH.seqT [(1,.I p1),(2,.sptr [.lst 5 (List.map Gq2.lv p0.Records)]),(5,.I n1),(20,.bool (x3.ID == p1))] [] R (sN (oFaS tf30_0 tk28 ts28 R R R (sN (oLd R tk28 ta28 (sMi R (sN (oIx (f:=Gq2.lv) te28 tk49 ts49 R R Gq2.ok hx3 R (sN (oFaS tf49_0 tk3 ts3 R R R (sN (oLd R tk3 ta3 (sMi R (sN (oEq R R zS)))))))))))))) (LH.cond (t:=(x3.ID == p1)) R (fun hc4=>?_) (fun hc4=>?_))
   ·replace h:=iteT h hc4
    refine LH.seqT [(4,.I n1)] [] R (sMi R (sAi R zS)) (LH.ret (blockR (thenR (roundR (blockR (thenR ?_))))))
    obtain rfl:=oI h
    exact retE (aT Tryz.results40) (lrT R (lr0 ⟨memN mN,R,prK R,Sub.rfl⟩))
   replace h:=iteF h hc4
   refine LH.skip (blockN (thenN (LH.loneT [(1,.I p1),(2,.sptr [.lst 5 (List.map Gq2.lv p0.Records)]),(5,.I (i64 (n1+1)))] [] R (sMi R (sN (oAdd R R (sAi R zS)))) ?_)))
   exact roundI ⟨(i64 (n1+1)),hrec1 ▸ h,R,R⟩ (Wk.eq R R R R)
  replace h:=iteF h hc2
  refine LH.exit (thenX (roundX (blockH (thenN (LH.seqT [(4,.I (-1))] [] R (sAi R zS) (LH.ret ?_))))))
  obtain rfl:=oI h
  exact retE (aT Tryz.results40) (lrT R (lr0 ⟨memN mN,R,prK R,Sub.rfl⟩))

theorem q146q {F:Nat} {p0:GBank} {p1:Gq2} {r:GBank} (h:q79q F p0 p1=some r):LCall Tryz.prog 71 [.agg [.lst 5 (List.map Gq2.lv p0.Records)],.agg [.I p1.ID,.lst 5 (List.map GItem.lv p1.Versions),.lst 1 (List.map LV.bool p1.Approved),.lst 3 (List.map GUse.lv p1.Uses),.bool p1.Withdrawn]] (Mem.of []) (.agg [.lst 5 (List.map Gq2.lv r.Records)]) (Mem.of []):=by
  unfold q79q at h
  refine bodyT Tryz.func71 R (nT Tryz.ntmps71 R) (LH.wk (Wk.eq (el:=[(0,.agg [.lst 5 (List.map Gq2.lv p0.Records)]),(1,.agg [.I p1.ID,.lst 5 (List.map GItem.lv p1.Versions),.lst 1 (List.map LV.bool p1.Approved),.lst 3 (List.map GUse.lv p1.Uses),.bool p1.Withdrawn])]) (ml:=[]) R R R R) (LH.seqT [(2,.sptr [.lst 5 (List.map Gq2.lv p0.Records)]),(3,.sptr [.I p1.ID,.lst 5 (List.map GItem.lv p1.Versions),.lst 1 (List.map LV.bool p1.Approved),.lst 3 (List.map GUse.lv p1.Uses),.bool p1.Withdrawn]),(4,.ptr 104 0)] [(104,.box [.nil])] R (sB (oBxR R R R R (sB (oBxR R R R R (sN (oAl (id:=104) R tz30 R R zS)))))) (LH.seqT [(2,.sptr [.lst 5 (List.map Gq2.lv p0.Records)]),(3,.sptr [.I p1.ID,.lst 5 (List.map GItem.lv p1.Versions),.lst 1 (List.map LV.bool p1.Approved),.lst 3 (List.map GUse.lv p1.Uses),.bool p1.Withdrawn]),(4,.ptr 104 0),(5,.ptr 105 0)] [(104,.box [.nil]),(105,.box [.nil])] R (sN (oAl (id:=105) R tz30 R R zS)) (LH.seqT [(2,.sptr [.lst 5 (List.map Gq2.lv p0.Records)]),(3,.sptr [.I p1.ID,.lst 5 (List.map GItem.lv p1.Versions),.lst 1 (List.map LV.bool p1.Approved),.lst 3 (List.map GUse.lv p1.Uses),.bool p1.Withdrawn]),(4,.ptr 104 0),(5,.ptr 105 0),(6,.bool false)] [(104,.box [.nil]),(105,.box [.nil])] R (sAb R zS) (LH.seq (LH.seqT [(2,.sptr [.lst 5 (List.map Gq2.lv p0.Records)]),(3,.sptr [.I p1.ID,.lst 5 (List.map GItem.lv p1.Versions),.lst 1 (List.map LV.bool p1.Approved),.lst 3 (List.map GUse.lv p1.Uses),.bool p1.Withdrawn]),(4,.ptr 104 0),(5,.ptr 105 0),(6,.bool false),(7,.I 0)] [(104,.box [.nil]),(105,.box [.nil])] R (sAi R zS) (LH.block (LH.wk ((Wk.trans (Wk.eq (el:=[(2,.sptr [.lst 5 (List.map Gq2.lv p0.Records)]),(3,.sptr [.I p1.ID,.lst 5 (List.map GItem.lv p1.Versions),.lst 1 (List.map LV.bool p1.Approved),.lst 3 (List.map GUse.lv p1.Uses),.bool p1.Withdrawn]),(4,.ptr 104 0),(5,.ptr 105 0),(6,.bool false),(7,.I 0)]) (ml:=[(104,.box [.nil]),(105,.box [.nil])]) R R R R) (Wk.trans (Wk.eq (el:=[(2,.sptr [.lst 5 (List.map Gq2.lv p0.Records)]),(3,.sptr [.I p1.ID,.lst 5 (List.map GItem.lv p1.Versions),.lst 1 (List.map LV.bool p1.Approved),.lst 3 (List.map GUse.lv p1.Uses),.bool p1.Withdrawn]),(4,.ptr 104 0),(5,.ptr 105 0),(6,.bool false),(7,.I 0)]) (ml:=[(104,.box [.nil]),(105,.box [.nil])]) R R R R) (Wk.trans (Wk.ownBx 132 49 5 105 0 R R R R R (prN R)) (Wk.eq (el:=[(2,.sptr [.lst 5 (List.map Gq2.lv p0.Records)]),(3,.sptr [.I p1.ID,.lst 5 (List.map GItem.lv p1.Versions),.lst 1 (List.map LV.bool p1.Approved),.lst 3 (List.map GUse.lv p1.Uses),.bool p1.Withdrawn]),(4,.ptr 104 0),(5,.ptr 105 0),(6,.bool false),(7,.I 0)]) (ml:=[(104,.box [.nil]),(105,.box [.arr 132 (List.length ([]:List Gq2))]),(132,.arr 49 5 (List.map Gq2.lv ([]:List Gq2)))]) R R R R))))) (LH.loop (fun n e m=>∃ (b1:Bool) (n2:Int) (l3:List Gq2),q67q p0 p1 n b1 n2 l3=some r∧e=Env.of [(2,.sptr [.lst 5 (List.map Gq2.lv p0.Records)]),(3,.sptr [.I p1.ID,.lst 5 (List.map GItem.lv p1.Versions),.lst 1 (List.map LV.bool p1.Approved),.lst 3 (List.map GUse.lv p1.Uses),.bool p1.Withdrawn]),(4,.ptr 104 0),(5,.ptr 105 0),(6,.bool b1),(7,.I n2)]∧m=Mem.of [(104,.box [.nil]),(105,.box [.arr 132 (List.length l3)]),(132,.arr 49 5 (List.map Gq2.lv l3))]) F ⟨false,0,([]:List Gq2),h,R,R⟩ ?_)))))))))
  clear h
  rintro n e m ⟨b1,n2,l3,h,rfl,rfl⟩
  rcases n with _ | n
  · cases (show Option.none=some _ from h)
  obtain ⟨rec1,hrec1⟩:∃ f,f=q67q p0 p1 n:=⟨_,rfl⟩
  replace h:q125q p0 p1 rec1 b1 n2 l3=some r:=hrec1 ▸ h
  unfold q125q at h
  refine LH.seq (LH.seqT [(2,.sptr [.lst 5 (List.map Gq2.lv p0.Records)]),(3,.sptr [.I p1.ID,.lst 5 (List.map GItem.lv p1.Versions),.lst 1 (List.map LV.bool p1.Approved),.lst 3 (List.map GUse.lv p1.Uses),.bool p1.Withdrawn]),(4,.ptr 104 0),(5,.ptr 105 0),(6,.bool b1),(7,.I n2),(12,.bool (decide (n2<(p0.Records.length:Int))))] [(104,.box [.nil]),(105,.box [.arr 132 (List.length l3)]),(132,.arr 49 5 (List.map Gq2.lv l3))] R (sMi R (sN (oFaS tf30_0 tk28 ts28 R R R (sN (oLd R tk28 ta28 (sN (oLnL (f:=Gq2.lv) te28 R (sN (oLt R R zS))))))))) (LH.cond (t:=(decide (n2<(p0.Records.length:Int)))) R (fun hc4=>?_) (fun hc4=>?_)))
  ·replace h:=iteT h hc4
   refine LH.skip (thenN (LH.wk (Wk.eq (el:=[(2,.sptr [.lst 5 (List.map Gq2.lv p0.Records)]),(3,.sptr [.I p1.ID,.lst 5 (List.map GItem.lv p1.Versions),.lst 1 (List.map LV.bool p1.Approved),.lst 3 (List.map GUse.lv p1.Uses),.bool p1.Withdrawn]),(4,.ptr 104 0),(5,.ptr 105 0),(6,.bool b1),(7,.I n2)]) (ml:=[(104,.box [.nil]),(105,.box [.arr 132 (List.length l3)]),(132,.arr 49 5 (List.map Gq2.lv l3))]) R R R R) (LH.seq (LH.block (LH.mid (fun e m=>∃ (b5:Bool) (l6:List Gq2),q115q rec1 p0 p1 n2 b5 l6=some r∧Wk (fun id=>Mem.of [] id ≠ .none) e m (Env.of [(2,.sptr [.lst 5 (List.map Gq2.lv p0.Records)]),(3,.sptr [.I p1.ID,.lst 5 (List.map GItem.lv p1.Versions),.lst 1 (List.map LV.bool p1.Approved),.lst 3 (List.map GUse.lv p1.Uses),.bool p1.Withdrawn]),(4,.ptr 104 0),(5,.ptr 105 0),(6,.bool b5),(7,.I n2)]) (Mem.of [(104,.box [.nil]),(105,.box [.arr 132 (List.length l6)]),(132,.arr 49 5 (List.map Gq2.lv l6))])) ?_ ?_)))))
   ·obtain ⟨w12,hv,h⟩:=bindS h
    refine LH.seqJM mixed [] [0,0,0,0,0,0,0,0,0,0,0,0,0] [(2,.sptr [.lst 5 (List.map Gq2.lv p0.Records)]),(3,.sptr [.I p1.ID,.lst 5 (List.map GItem.lv p1.Versions),.lst 1 (List.map LV.bool p1.Approved),.lst 3 (List.map GUse.lv p1.Uses),.bool p1.Withdrawn]),(4,.ptr 104 0),(5,.ptr 105 0),(6,.bool b1),(7,.I n2),(27,.bool w12)] [(104,.box [.nil]),(105,.box [.arr 132 (List.length l3)]),(132,.arr 49 5 (List.map Gq2.lv l3))] R R (by kernel_rfl) ?_ ?_
    ·refine mMb R (mN0 (oNot R ⟨R,mMb R ?_⟩))
     by_cases hb13:(!b1)=true
     ·replace hv:=iteT hv hb13
      refine mT R (cB hb13) (mN0 (oFaS tf30_0 tk28 ts28 R R R ⟨R,mT R (cB hb13) (mN0 (oLd R tk28 ta28 ⟨R,mT R (cB hb13) (mMi R ?_)⟩))⟩))
      obtain ⟨x14,hx14,hv⟩:=bindS hv
      refine mT R (cB hb13) (mN0 (oIx (f:=Gq2.lv) te28 tk49 ts49 R R Gq2.ok hx14 R ⟨R,mT R (cB hb13) (mN0 (oFaS tf49_0 tk3 ts3 R R R ⟨R,mT R (cB hb13) (mN0 (oLd R tk3 ta3 ⟨R,mT R (cB hb13) (mN0 (oFaS tf49_0 tk3 ts3 R R R ⟨R,mT R (cB hb13) (mN0 (oLd R tk3 ta3 ⟨R,mT R (cB hb13) (mN0 (oGe R R ⟨R,mN0 (oPkT (cB hb13) (v:=(.bool _)) R ⟨R,?_⟩)⟩))⟩))⟩))⟩))⟩))⟩))
      obtain rfl:=oI hv
      exact zM
     ·replace hb13:=bF hb13
      replace hv:=iteF hv hb13
      refine mF R R hb13 (mF R R hb13 (mF R R hb13 (mF R R hb13 (mF R R hb13 (mF R R hb13 (mF R R hb13 (mF R R hb13 (mF R R hb13 (mN0 (oPkF (cB hb13) (v:=(.bool _)) R ⟨R,?_⟩))))))))))
      obtain rfl:=oI hv
      exact zM
    clear hv
    refine LH.cond (t:=w12) R (fun hc15=>?_) (fun hc15=>?_)
    ·replace h:=iteT h hc15
     obtain ⟨v16,hv16,h⟩:=bindS h
     exact LH.seqT [(2,.sptr [.lst 5 (List.map Gq2.lv p0.Records)]),(3,.sptr [.I p1.ID,.lst 5 (List.map GItem.lv p1.Versions),.lst 1 (List.map LV.bool p1.Approved),.lst 3 (List.map GUse.lv p1.Uses),.bool p1.Withdrawn]),(4,.ptr 104 0),(5,.ptr 105 0),(7,.I n2)] [(104,.box [.nil]),(105,.box [.arr 132 (List.length v16)]),(132,.arr 49 5 (List.map Gq2.lv v16))] R (sN (oFa tf30_0 tk28 ts28 R R (sN (oLdP R R R R tk28 ta28 (sN (oLdA R tk49 ta49 ts49 R R (sN (oBS (f:=Gq2.lv) (ys:=[p1]) te28 tr49 ts49 R R R Gq2.ok (sN (oAp (f:=Gq2.lv) te28 tr49 ts49 R R (prN R) R hv16 (sN (oFa tf30_0 tk28 ts28 R R (s_ (oSt R R R tk28 ts28 R R R zS)))))))))))))) (LH.loneT [(2,.sptr [.lst 5 (List.map Gq2.lv p0.Records)]),(3,.sptr [.I p1.ID,.lst 5 (List.map GItem.lv p1.Versions),.lst 1 (List.map LV.bool p1.Approved),.lst 3 (List.map GUse.lv p1.Uses),.bool p1.Withdrawn]),(4,.ptr 104 0),(5,.ptr 105 0),(6,.bool true),(7,.I n2)] [(104,.box [.nil]),(105,.box [.arr 132 (List.length v16)]),(132,.arr 49 5 (List.map Gq2.lv v16))] R (sAb R zS) (thenN ⟨true,v16,h,Wk.eq R R R R⟩))
    replace h:=iteF h hc15
    exact LH.skip (thenN ⟨b1,l3,h,Wk.eq R R R R⟩)
   clear h
   rintro e m ⟨b5,l6,h,hw⟩
   refine LH.wk hw ?_
   clear hw
   unfold q115q at h
   obtain ⟨x7,hx7,h⟩:=bindS h
   refine LH.seqJM mixed [] [0,0,0,0,0,0,0,0,0] [(2,.sptr [.lst 5 (List.map Gq2.lv p0.Records)]),(3,.sptr [.I p1.ID,.lst 5 (List.map GItem.lv p1.Versions),.lst 1 (List.map LV.bool p1.Approved),.lst 3 (List.map GUse.lv p1.Uses),.bool p1.Withdrawn]),(4,.ptr 104 0),(5,.ptr 105 0),(6,.bool b5),(7,.I n2),(42,.bool (x7.ID != p1.ID))] [(104,.box [.nil]),(105,.box [.arr 132 (List.length l6)]),(132,.arr 49 5 (List.map Gq2.lv l6))] R R (by kernel_rfl) (mN0 (oFaS tf30_0 tk28 ts28 R R R ⟨R,mN0 (oLd R tk28 ta28 ⟨R,mMi R (mN0 (oIx (f:=Gq2.lv) te28 tk49 ts49 R R Gq2.ok hx7 R ⟨R,mN0 (oFaS tf49_0 tk3 ts3 R R R ⟨R,mN0 (oLd R tk3 ta3 ⟨R,mN0 (oFaS tf49_0 tk3 ts3 R R R ⟨R,mN0 (oLd R tk3 ta3 ⟨R,mN0 (oNe R R ⟨R,zM⟩)⟩)⟩)⟩)⟩)⟩))⟩)⟩)) (LH.cond (t:=(x7.ID != p1.ID)) R (fun hc8=>?_) (fun hc8=>?_))
   ·replace h:=iteT h hc8
    obtain ⟨x9,hx9,h⟩:=bindS h
    obtain ⟨v10,hv10,h⟩:=bindS h
    refine LH.loneTM mixed [] [0,1105,0,0,0,0,0,0,2,0,100105] [(2,.sptr [.lst 5 (List.map Gq2.lv p0.Records)]),(3,.sptr [.I p1.ID,.lst 5 (List.map GItem.lv p1.Versions),.lst 1 (List.map LV.bool p1.Approved),.lst 3 (List.map GUse.lv p1.Uses),.bool p1.Withdrawn]),(4,.ptr 104 0),(5,.ptr 105 0),(6,.bool b5),(7,.I n2)] [(104,.box [.nil]),(105,.box [.arr 132 (List.length v10)]),(132,.arr 49 5 (List.map Gq2.lv v10))] R R (by kernel_rfl) (mN0 (oFa tf30_0 tk28 ts28 R R ⟨R,mD R R R (fun _ b _ d=>oLdP R b R R tk28 ta28 d) (mN0 (oFaS tf30_0 tk28 ts28 R R R ⟨R,mN0 (oLd R tk28 ta28 ⟨R,mMi R (mN0 (oIx (f:=Gq2.lv) te28 tk49 ts49 R R Gq2.ok hx9 R ⟨R,mN0 (oLdA R tk49 ta49 ts49 R R ⟨R,mN0 (oBS (f:=Gq2.lv) (ys:=[x9]) te28 tr49 ts49 R R R Gq2.ok ⟨R,mN2 (oAp (f:=Gq2.lv) te28 tr49 ts49 R R (prN R) R hv10 (mN0 (oFa tf30_0 tk28 ts28 R R ⟨R,mS R R R (fun _ b _ d=>oSt R R R tk28 ts28 b R R d) zM⟩)))⟩)⟩)⟩))⟩)⟩))⟩)) (blockN (thenN (LH.loneT [(2,.sptr [.lst 5 (List.map Gq2.lv p0.Records)]),(3,.sptr [.I p1.ID,.lst 5 (List.map GItem.lv p1.Versions),.lst 1 (List.map LV.bool p1.Approved),.lst 3 (List.map GUse.lv p1.Uses),.bool p1.Withdrawn]),(4,.ptr 104 0),(5,.ptr 105 0),(6,.bool b5),(7,.I (i64 (n2+1)))] [(104,.box [.nil]),(105,.box [.arr 132 (List.length v10)]),(132,.arr 49 5 (List.map Gq2.lv v10))] R (sMi R (sN (oAdd R R (sAi R zS)))) ?_)))
    exact roundI ⟨b5,(i64 (n2+1)),v10,hrec1 ▸ h,R,R⟩ (Wk.eq R R R R)
   replace h:=iteF h hc8
   refine LH.skip (blockN (thenN (LH.loneT [(2,.sptr [.lst 5 (List.map Gq2.lv p0.Records)]),(3,.sptr [.I p1.ID,.lst 5 (List.map GItem.lv p1.Versions),.lst 1 (List.map LV.bool p1.Approved),.lst 3 (List.map GUse.lv p1.Uses),.bool p1.Withdrawn]),(4,.ptr 104 0),(5,.ptr 105 0),(6,.bool b5),(7,.I (i64 (n2+1)))] [(104,.box [.nil]),(105,.box [.arr 132 (List.length l6)]),(132,.arr 49 5 (List.map Gq2.lv l6))] R (sMi R (sN (oAdd R R (sAi R zS)))) ?_)))
   exact roundI ⟨b5,(i64 (n2+1)),l6,hrec1 ▸ h,R,R⟩ (Wk.eq R R R R)
  replace h:=iteF h hc4
  refine LH.exit (thenX (roundX (blockH (thenN (LH.wk (Wk.eq (el:=[(3,.sptr [.I p1.ID,.lst 5 (List.map GItem.lv p1.Versions),.lst 1 (List.map LV.bool p1.Approved),.lst 3 (List.map GUse.lv p1.Uses),.bool p1.Withdrawn]),(4,.ptr 104 0),(5,.ptr 105 0),(6,.bool b1)]) (ml:=[(104,.box [.nil]),(105,.box [.arr 132 (List.length l3)]),(132,.arr 49 5 (List.map Gq2.lv l3))]) R R R R) (LH.seq (LH.seqT [(3,.sptr [.I p1.ID,.lst 5 (List.map GItem.lv p1.Versions),.lst 1 (List.map LV.bool p1.Approved),.lst 3 (List.map GUse.lv p1.Uses),.bool p1.Withdrawn]),(4,.ptr 104 0),(5,.ptr 105 0),(54,.bool (!b1))] [(104,.box [.nil]),(105,.box [.arr 132 (List.length l3)]),(132,.arr 49 5 (List.map Gq2.lv l3))] R (sMb R (sN (oNot R zS))) (LH.cond (t:=(!b1)) R (fun hc17=>?_) (fun hc17=>?_)))))))))
  ·replace h:=iteT h hc17
   obtain ⟨v18,hv18,h⟩:=bindS h
   refine LH.loneT [(4,.ptr 104 0),(5,.sptr [.lst 5 (List.map Gq2.lv v18)])] [(104,.box [.nil])] R (sN (oFa tf30_0 tk28 ts28 R R (sN (oLdP R R R R tk28 ta28 (sN (oLdA R tk49 ta49 ts49 R R (sN (oBS (f:=Gq2.lv) (ys:=[p1]) te28 tr49 ts49 R R R Gq2.ok (sN (oAp (f:=Gq2.lv) te28 tr49 ts49 R R (prN R) R hv18 (sN (oFa tf30_0 tk28 ts28 R R (s_ (oSt R R R tk28 ts28 R R R (s0 ((Wk.trans (Wk.eq (el:=[(4,.ptr 104 0),(5,.ptr 105 0)]) (ml:=[(104,.box [.nil]),(105,.box [.arr 132 (List.length v18)]),(132,.arr 49 5 (List.map Gq2.lv v18))]) R R R R) (Wk.trans (Wk.eq (el:=[(4,.ptr 104 0),(5,.ptr 105 0)]) (ml:=[(104,.box [.nil]),(105,.box [.arr 132 (List.length v18)]),(132,.arr 49 5 (List.map Gq2.lv v18))]) R R R R) (Wk.trans (Wk.trans (Wk.frzBx (f:=Gq2.lv) 132 49 5 v18 105 R R R (frAZ frA0) R R (prN R)) (Wk.eq (el:=[(4,.ptr 104 0),(5,.ptr 105 0)]) (ml:=[(104,.box [.nil]),(105,.box [.lst 5 (List.map Gq2.lv v18)])]) R R R R)) (Wk.trans (Wk.frzB 105 [.lst 5 (List.map Gq2.lv v18)] R R R (prN R)) (Wk.eq R R R R))))))))))))))))))))) (thenN (LH.seqT [(4,.sptr [.lst 5 (List.map Gq2.lv v18)])] [] R (sN (oLdA R tk30 ta30 ts30 R R (s_ (oSt R R R tk30 ts30 R R R (s0 ((Wk.trans (Wk.eq (el:=[(4,.ptr 104 0)]) (ml:=[(104,.box [.lst 5 (List.map Gq2.lv v18)])]) R R R R) (Wk.trans (Wk.frzB 104 [.lst 5 (List.map Gq2.lv v18)] R R R (prN R)) (Wk.eq R R R R))))))))) (LH.ret ?_)))
   obtain rfl:=oI h
   exact retE (aT Tryz.results71) (lrSA R tk30 ta30 ts30 R R (lr0 ⟨memN mN,R,prK R,Sub.rfl⟩))
  replace h:=iteF h hc17
  refine LH.skip (thenN (LH.wk ((Wk.trans (Wk.eq (el:=[(4,.ptr 104 0),(5,.ptr 105 0)]) (ml:=[(104,.box [.nil]),(105,.box [.arr 132 (List.length l3)]),(132,.arr 49 5 (List.map Gq2.lv l3))]) R R R R) (Wk.trans (Wk.eq (el:=[(4,.ptr 104 0),(5,.ptr 105 0)]) (ml:=[(104,.box [.nil]),(105,.box [.arr 132 (List.length l3)]),(132,.arr 49 5 (List.map Gq2.lv l3))]) R R R R) (Wk.trans (Wk.trans (Wk.frzBx (f:=Gq2.lv) 132 49 5 l3 105 R R R (frAZ frA0) R R (prN R)) (Wk.eq (el:=[(4,.ptr 104 0),(5,.ptr 105 0)]) (ml:=[(104,.box [.nil]),(105,.box [.lst 5 (List.map Gq2.lv l3)])]) R R R R)) (Wk.trans (Wk.frzB 105 [.lst 5 (List.map Gq2.lv l3)] R R R (prN R)) (Wk.eq (el:=[(4,.ptr 104 0),(5,.sptr [.lst 5 (List.map Gq2.lv l3)])]) (ml:=[(104,.box [.nil])]) R R R R)))))) (LH.seqT [(4,.sptr [.lst 5 (List.map Gq2.lv l3)])] [] R (sN (oLdA R tk30 ta30 ts30 R R (s_ (oSt R R R tk30 ts30 R R R (s0 ((Wk.trans (Wk.eq (el:=[(4,.ptr 104 0)]) (ml:=[(104,.box [.lst 5 (List.map Gq2.lv l3)])]) R R R R) (Wk.trans (Wk.frzB 104 [.lst 5 (List.map Gq2.lv l3)] R R R (prN R)) (Wk.eq R R R R))))))))) (LH.ret ?_))))
  obtain rfl:=oI h
  exact retE (aT Tryz.results71) (lrSA R tk30 ta30 ts30 R R (lr0 ⟨memN mN,R,prK R,Sub.rfl⟩))

theorem q237q {F:Nat} {p0:GBank} {p1:GItem} {r:GBank × Int} (h:q172q F p0 p1=some r):LCall Tryz.prog 45 [.agg [.lst 5 (List.map Gq2.lv p0.Records)],GItem.lv p1] (Mem.of []) (.tup [.agg [.lst 5 (List.map Gq2.lv r.1.Records)],.I r.2]) (Mem.of []):=by
  unfold q172q at h
  refine bodyT Tryz.func45 R (nT Tryz.ntmps45 R) (LH.wk (Wk.eq (el:=[(0,.agg [.lst 5 (List.map Gq2.lv p0.Records)]),(1,GItem.lv p1)]) (ml:=[]) R R R R) (LH.seqT [(2,.sptr [.lst 5 (List.map Gq2.lv p0.Records)]),(3,.sptr (GItem.lv p1).cells),(4,.ptr 104 0)] [(104,.box [.nil])] R (sB (oBxR R R R R (sB (oBxR R R R R (sN (oAl (id:=104) R tz30 R R (sAi R zS))))))) (LH.seq ?_)))
  obtain ⟨r1,hr1,h⟩:=bindS h
  refine LH.seqT [(2,.sptr [.lst 5 (List.map Gq2.lv p0.Records)]),(3,.sptr (GItem.lv p1).cells),(4,.ptr 104 0),(6,.I r1)] [(104,.box [.nil])] R (sN (oLdA R tk54 ta54 ts54 R R (sN (oCP (args:=[GItem.lv p1]) R isF66 R (sbR sbN) (q183q hr1) R (sAi R zS))))) (LH.seqT [(2,.sptr [.lst 5 (List.map Gq2.lv p0.Records)]),(3,.sptr (GItem.lv p1).cells),(4,.ptr 104 0),(6,.I r1),(10,.bool (r1 != 0))] [(104,.box [.nil])] R (sMi R (sN (oNe R R zS))) (LH.cond (t:=(r1 != 0)) R (fun hc2=>?_) (fun hc2=>?_)))
  ·replace h:=iteT h hc2
   refine LH.seqT [(4,.sptr [.nil]),(5,.I r1)] [] R (sN (oBd (vs:=[]) tu30 tz30 R lf0 (sMi R (s_ (oSt R R R tk30 ts30 R R R (sAi R (s0 ((Wk.trans (Wk.eq (el:=[(4,.ptr 104 0),(5,.I r1)]) (ml:=[(104,.box [.nil])]) R R R R) (Wk.trans (Wk.frzB 104 [.nil] R R R (prN R)) (Wk.eq R R R R))))))))))) (LH.ret (thenR ?_))
   obtain rfl:=oI h
   exact retE (aT Tryz.results45) (lrSA R tk30 ta30 ts30 R R (lrT R (lr0 ⟨memN mN,R,prK R,(Sub.tup (sbS (Sub.agg (sbL sbN)) (sbR sbN)))⟩)))
  replace h:=iteF h hc2
  refine LH.skip (thenN (LH.wk (Wk.eq (el:=[(2,.sptr [.lst 5 (List.map Gq2.lv p0.Records)]),(3,.sptr (GItem.lv p1).cells),(4,.ptr 104 0)]) (ml:=[(104,.box [.nil])]) R R R R) (LH.seq (LH.seqT [(2,.sptr [.lst 5 (List.map Gq2.lv p0.Records)]),(3,.sptr (GItem.lv p1).cells),(4,.ptr 104 0),(15,.bool (p1.Version != 1))] [(104,.box [.nil])] R (sN (oFaS tf54_1 tk3 ts3 R R R (sN (oLd R tk3 ta3 (sN (oNe R R zS)))))) (LH.cond (t:=(p1.Version != 1)) R (fun hc3=>?_) (fun hc3=>?_))))))
  ·replace h:=iteT h hc3
   refine LH.seqT [(4,.sptr [.nil]),(5,.I 8)] [] R (sN (oBd (vs:=[]) tu30 tz30 R lf0 (s_ (oSt R R R tk30 ts30 R R R (sAi R (s0 ((Wk.trans (Wk.eq (el:=[(4,.ptr 104 0),(5,.I 8)]) (ml:=[(104,.box [.nil])]) R R R R) (Wk.trans (Wk.frzB 104 [.nil] R R R (prN R)) (Wk.eq R R R R)))))))))) (LH.ret (thenR ?_))
   obtain rfl:=oI h
   exact retE (aT Tryz.results45) (lrSA R tk30 ta30 ts30 R R (lrT R (lr0 ⟨memN mN,R,prK R,(Sub.tup (sbS (Sub.agg (sbL sbN)) (sbR sbN)))⟩)))
  replace h:=iteF h hc3
  refine LH.skip (thenN (LH.wk (Wk.eq (el:=[(2,.sptr [.lst 5 (List.map Gq2.lv p0.Records)]),(3,.sptr (GItem.lv p1).cells),(4,.ptr 104 0)]) (ml:=[(104,.box [.nil])]) R R R R) (LH.seq ?_)))
  obtain ⟨r4,hr4,h⟩:=bindS h
  refine LH.seqT [(2,.sptr [.lst 5 (List.map Gq2.lv p0.Records)]),(3,.sptr (GItem.lv p1).cells),(4,.ptr 104 0),(21,.bool (decide (r4 ≥ 0)))] [(104,.box [.nil])] R (sN (oLdA R tk30 ta30 ts30 R R (sN (oFaS tf54_0 tk3 ts3 R R R (sN (oLd R tk3 ta3 (sN (oCP (args:=[.agg [.lst 5 (List.map Gq2.lv p0.Records)],.I p1.ID]) R isF40 R (sbR (sbR sbN)) (q136q hr4) R (sN (oGe R R zS)))))))))) (LH.cond (t:=(decide (r4 ≥ 0))) R (fun hc5=>?_) (fun hc5=>?_))
  ·replace h:=iteT h hc5
   refine LH.seqT [(4,.sptr [.nil]),(5,.I 5)] [] R (sN (oBd (vs:=[]) tu30 tz30 R lf0 (s_ (oSt R R R tk30 ts30 R R R (sAi R (s0 ((Wk.trans (Wk.eq (el:=[(4,.ptr 104 0),(5,.I 5)]) (ml:=[(104,.box [.nil])]) R R R R) (Wk.trans (Wk.frzB 104 [.nil] R R R (prN R)) (Wk.eq R R R R)))))))))) (LH.ret (thenR ?_))
   obtain rfl:=oI h
   exact retE (aT Tryz.results45) (lrSA R tk30 ta30 ts30 R R (lrT R (lr0 ⟨memN mN,R,prK R,(Sub.tup (sbS (Sub.agg (sbL sbN)) (sbR sbN)))⟩)))
  replace h:=iteF h hc5
  refine LH.skip (thenN (LH.wk (Wk.eq (el:=[(2,.sptr [.lst 5 (List.map Gq2.lv p0.Records)]),(3,.sptr (GItem.lv p1).cells),(4,.ptr 104 0)]) (ml:=[(104,.box [.nil])]) R R R R) (LH.seq (LH.seqT [(2,.sptr [.lst 5 (List.map Gq2.lv p0.Records)]),(3,.sptr (GItem.lv p1).cells),(4,.ptr 104 0),(26,.bool ((p0.Records.length:Int) == 40))] [(104,.box [.nil])] R (sN (oFaS tf30_0 tk28 ts28 R R R (sN (oLd R tk28 ta28 (sN (oLnL (f:=Gq2.lv) te28 R (sN (oEq R R zS)))))))) (LH.cond (t:=((p0.Records.length:Int) == 40)) R (fun hc6=>?_) (fun hc6=>?_))))))
  ·replace h:=iteT h hc6
   refine LH.seqT [(4,.sptr [.nil]),(5,.I 3)] [] R (sN (oBd (vs:=[]) tu30 tz30 R lf0 (s_ (oSt R R R tk30 ts30 R R R (sAi R (s0 ((Wk.trans (Wk.eq (el:=[(4,.ptr 104 0),(5,.I 3)]) (ml:=[(104,.box [.nil])]) R R R R) (Wk.trans (Wk.frzB 104 [.nil] R R R (prN R)) (Wk.eq R R R R)))))))))) (LH.ret (thenR ?_))
   obtain rfl:=oI h
   exact retE (aT Tryz.results45) (lrSA R tk30 ta30 ts30 R R (lrT R (lr0 ⟨memN mN,R,prK R,(Sub.tup (sbS (Sub.agg (sbL sbN)) (sbR sbN)))⟩)))
  replace h:=iteF h hc6
  refine LH.skip (thenN ?_)
  obtain ⟨r7,hr7,h⟩:=bindS h
  refine LH.seqT [(4,.sptr [.lst 5 (List.map Gq2.lv r7.Records)]),(5,.I 0)] [] R (sN (oLdA R tk30 ta30 ts30 R R (sN (oFaS tf54_0 tk3 ts3 R R R (sN (oLd R tk3 ta3 (sN (oLdA R tk54 ta54 ts54 R R (sN (oBS (f:=GItem.lv) (ys:=[p1]) te45 tr54 ts54 R R R GItem.ok (sN (oBS (f:=LV.bool) (ys:=[false]) te46 tr4 ts4 R R R okB (sN (oBd (vs:=[(0,.I p1.ID),(1,.lst 5 (List.map GItem.lv [p1])),(2,.lst 1 (List.map LV.bool [false]))]) tu49 tz49 R (lf tf49_0 ts3 tk3 R R R (lf tf49_1 ts45 tk45 R R R (lf tf49_2 ts46 tk46 R R R lf0))) (sN (oCP (args:=[.agg [.lst 5 (List.map Gq2.lv p0.Records)],.agg [.I p1.ID,.lst 5 (List.map GItem.lv [p1]),.lst 1 (List.map LV.bool [false]),.nil,.bool false]]) R isF71 R (sbR (sbS (Sub.agg (sbR (sbR (sbR (sbL (sbR sbN)))))) sbN)) (q146q hr7) R (s_ (oSt R R R tk30 ts30 R R R (sAi R (s0 ((Wk.trans (Wk.eq (el:=[(4,.ptr 104 0),(5,.I 0)]) (ml:=[(104,.box [.lst 5 (List.map Gq2.lv r7.Records)])]) R R R R) (Wk.trans (Wk.frzB 104 [.lst 5 (List.map Gq2.lv r7.Records)] R R R (prN R)) (Wk.eq R R R R)))))))))))))))))))))))) (LH.ret ?_)
  obtain rfl:=oI h
  exact retE (aT Tryz.results45) (lrSA R tk30 ta30 ts30 R R (lrT R (lr0 ⟨memN mN,R,prK R,(Sub.tup (sbR (sbR sbN)))⟩)))

theorem q230q {F:Nat} {p0:GBank} {p1:GItem} {r:GBank × Int} (h:q154q F p0 p1=some r):LCall Tryz.prog 46 [.agg [.lst 5 (List.map Gq2.lv p0.Records)],GItem.lv p1] (Mem.of []) (.tup [.agg [.lst 5 (List.map Gq2.lv r.1.Records)],.I r.2]) (Mem.of []):=by
  unfold q154q at h
  refine bodyT Tryz.func46 R (nT Tryz.ntmps46 R) (LH.wk (Wk.eq (el:=[(0,.agg [.lst 5 (List.map Gq2.lv p0.Records)]),(1,GItem.lv p1)]) (ml:=[]) R R R R) (LH.seqT [(2,.sptr [.lst 5 (List.map Gq2.lv p0.Records)]),(3,.sptr (GItem.lv p1).cells),(4,.ptr 104 0)] [(104,.box [.nil])] R (sB (oBxR R R R R (sB (oBxR R R R R (sN (oAl (id:=104) R tz30 R R (sAi R zS))))))) (LH.seq ?_)))
  obtain ⟨r1,hr1,h⟩:=bindS h
  refine LH.seqT [(2,.sptr [.lst 5 (List.map Gq2.lv p0.Records)]),(3,.sptr (GItem.lv p1).cells),(4,.ptr 104 0),(6,.I r1)] [(104,.box [.nil])] R (sN (oLdA R tk54 ta54 ts54 R R (sN (oCP (args:=[GItem.lv p1]) R isF66 R (sbR sbN) (q183q hr1) R (sAi R zS))))) (LH.seqT [(2,.sptr [.lst 5 (List.map Gq2.lv p0.Records)]),(3,.sptr (GItem.lv p1).cells),(4,.ptr 104 0),(6,.I r1),(14,.bool (r1 != 0))] [(104,.box [.nil])] R (sMi R (sN (oNe R R zS))) (LH.cond (t:=(r1 != 0)) R (fun hc2=>?_) (fun hc2=>?_)))
  ·replace h:=iteT h hc2
   refine LH.seqT [(4,.sptr [.nil]),(5,.I r1)] [] R (sN (oBd (vs:=[]) tu30 tz30 R lf0 (sMi R (s_ (oSt R R R tk30 ts30 R R R (sAi R (s0 ((Wk.trans (Wk.eq (el:=[(4,.ptr 104 0),(5,.I r1)]) (ml:=[(104,.box [.nil])]) R R R R) (Wk.trans (Wk.frzB 104 [.nil] R R R (prN R)) (Wk.eq R R R R))))))))))) (LH.ret (thenR ?_))
   obtain rfl:=oI h
   exact retE (aT Tryz.results46) (lrSA R tk30 ta30 ts30 R R (lrT R (lr0 ⟨memN mN,R,prK R,(Sub.tup (sbS (Sub.agg (sbL sbN)) (sbR sbN)))⟩)))
  replace h:=iteF h hc2
  refine LH.skip (thenN ?_)
  obtain ⟨r3,hr3,h⟩:=bindS h
  refine LH.seqT [(2,.sptr [.lst 5 (List.map Gq2.lv p0.Records)]),(3,.sptr (GItem.lv p1).cells),(4,.ptr 104 0),(7,.I r3)] [(104,.box [.nil])] R (sN (oLdA R tk30 ta30 ts30 R R (sN (oFaS tf54_0 tk3 ts3 R R R (sN (oLd R tk3 ta3 (sN (oCP (args:=[.agg [.lst 5 (List.map Gq2.lv p0.Records)],.I p1.ID]) R isF40 R (sbR (sbR sbN)) (q136q hr3) R (sAi R zS))))))))) (LH.seq (LH.seqT [(2,.sptr [.lst 5 (List.map Gq2.lv p0.Records)]),(3,.sptr (GItem.lv p1).cells),(4,.ptr 104 0),(7,.I r3),(22,.bool (decide (r3<0)))] [(104,.box [.nil])] R (sMi R (sN (oLt R R zS))) (LH.cond (t:=(decide (r3<0))) R (fun hc4=>?_) (fun hc4=>?_))))
  ·replace h:=iteT h hc4
   refine LH.seqT [(4,.sptr [.nil]),(5,.I 4)] [] R (sN (oBd (vs:=[]) tu30 tz30 R lf0 (s_ (oSt R R R tk30 ts30 R R R (sAi R (s0 ((Wk.trans (Wk.eq (el:=[(4,.ptr 104 0),(5,.I 4)]) (ml:=[(104,.box [.nil])]) R R R R) (Wk.trans (Wk.frzB 104 [.nil] R R R (prN R)) (Wk.eq R R R R)))))))))) (LH.ret (thenR ?_))
   obtain rfl:=oI h
   exact retE (aT Tryz.results46) (lrSA R tk30 ta30 ts30 R R (lrT R (lr0 ⟨memN mN,R,prK R,(Sub.tup (sbS (Sub.agg (sbL sbN)) (sbR sbN)))⟩)))
  replace h:=iteF h hc4
  refine LH.skip (thenN ?_)
  obtain ⟨x5,hx5,h⟩:=bindS h
  refine LH.seqT [(2,.sptr [.lst 5 (List.map Gq2.lv p0.Records)]),(3,.sptr (GItem.lv p1).cells),(4,.ptr 104 0),(8,.ptr 108 0)] [(104,.box [.nil]),(108,.box [.I x5.ID,.lst 5 (List.map GItem.lv x5.Versions),.lst 1 (List.map LV.bool x5.Approved),.lst 3 (List.map GUse.lv x5.Uses),.bool x5.Withdrawn])] R (sN (oFaS tf30_0 tk28 ts28 R R R (sN (oLd R tk28 ta28 (sMi R (sN (oIx (f:=Gq2.lv) te28 tk49 ts49 R R Gq2.ok hx5 R (sN (oLdA R tk49 ta49 ts49 R R (sN (oAl (id:=108) R tz49 R R (s_ (oSt R R R tk49 ts49 R R R zS))))))))))))) (LH.seq (LH.seqT [(2,.sptr [.lst 5 (List.map Gq2.lv p0.Records)]),(3,.sptr (GItem.lv p1).cells),(4,.ptr 104 0),(8,.ptr 108 0),(39,.bool (x5.Withdrawn || (p1.Version != (i64 ((x5.Versions.length:Int)+1)))))] [(104,.box [.nil]),(108,.box [.I x5.ID,.lst 5 (List.map GItem.lv x5.Versions),.lst 1 (List.map LV.bool x5.Approved),.lst 3 (List.map GUse.lv x5.Uses),.bool x5.Withdrawn])] R ?_ ?_))
  ·refine sN (oFa tf49_4 tk4 ts4 R R (sN (oLdP R R R R tk4 ta4 (sMb R ?_))))
   by_cases hb7:x5.Withdrawn=true
   ·exact sF R R hb7 (sF R R hb7 (sF R R hb7 (sF R R hb7 (sF R R hb7 (sF R R hb7 (sF R R hb7 (sN (oPkT (cB hb7) (v:=(.bool _)) R (s0 (Wk.to (eC R (eC R (eC R (eC R (eC (cB (orT hb7)) eN))))) ⟨R,R,trivial⟩ R (prK R)))))))))))
   ·replace hb7:=bF hb7
    exact sT R (cB hb7) (oFaS tf54_1 tk3 ts3 R R R (sT R (cB hb7) (oLd R tk3 ta3 (sT R (cB hb7) (oFa tf49_1 tk45 ts45 R R (sT R (cB hb7) (oLdP R R R R tk45 ta45 (sT R (cB hb7) (oLnL (f:=GItem.lv) te45 R (sT R (cB hb7) (oAdd R R (sT R (cB hb7) (oNe R R (sN (oPkF (cB hb7) (v:=(.bool _)) R (s0 (Wk.to (eC R (eC R (eC R (eC R (eC (cB (orF hb7)) eN))))) ⟨R,R,trivial⟩ R (prK R))))))))))))))))))
  refine LH.cond (t:=(x5.Withdrawn || (p1.Version != (i64 ((x5.Versions.length:Int)+1))))) R (fun hc8=>?_) (fun hc8=>?_)
  ·replace h:=iteT h hc8
   refine LH.seqT [(4,.sptr [.nil]),(5,.I 8)] [] R (sN (oBd (vs:=[]) tu30 tz30 R lf0 (s_ (oSt R R R tk30 ts30 R R R (sAi R (s0 ((Wk.trans (Wk.eq (el:=[(4,.ptr 104 0),(5,.I 8)]) (ml:=[(104,.box [.nil])]) R R R R) (Wk.trans (Wk.frzB 104 [.nil] R R R (prN R)) (Wk.eq R R R R)))))))))) (LH.ret (thenR ?_))
   obtain rfl:=oI h
   exact retE (aT Tryz.results46) (lrSA R tk30 ta30 ts30 R R (lrT R (lr0 ⟨memN mN,R,prK R,(Sub.tup (sbS (Sub.agg (sbL sbN)) (sbR sbN)))⟩)))
  replace h:=iteF h hc8
  refine LH.skip (thenN (LH.seqT [(2,.sptr [.lst 5 (List.map Gq2.lv p0.Records)]),(3,.sptr (GItem.lv p1).cells),(4,.ptr 104 0),(8,.ptr 108 0),(9,.nil)] [(104,.box [.nil]),(108,.box [.I x5.ID,.lst 5 (List.map GItem.lv x5.Versions),.lst 1 (List.map LV.bool x5.Approved),.lst 3 (List.map GUse.lv x5.Uses),.bool x5.Withdrawn])] R (sAn R zS) (LH.seqT [(2,.sptr [.lst 5 (List.map Gq2.lv p0.Records)]),(3,.sptr (GItem.lv p1).cells),(4,.ptr 104 0),(8,.ptr 108 0),(9,.nil),(10,.nil)] [(104,.box [.nil]),(108,.box [.I x5.ID,.lst 5 (List.map GItem.lv x5.Versions),.lst 1 (List.map LV.bool x5.Approved),.lst 3 (List.map GUse.lv x5.Uses),.bool x5.Withdrawn])] R (sAn R zS) ?_)))
  obtain ⟨v9,hv9,h⟩:=bindS h
  refine LH.seqT [(2,.sptr [.lst 5 (List.map Gq2.lv p0.Records)]),(3,.sptr (GItem.lv p1).cells),(4,.ptr 104 0),(8,.ptr 108 0),(9,.arr 144 (List.length v9)),(10,.nil)] [(104,.box [.nil]),(108,.box [.I x5.ID,.lst 5 (List.map GItem.lv x5.Versions),.lst 1 (List.map LV.bool x5.Approved),.lst 3 (List.map GUse.lv x5.Uses),.bool x5.Withdrawn]),(144,.arr 54 5 (List.map GItem.lv v9))] R (sMn R (sN (oFa tf49_1 tk45 ts45 R R (sN (oLdP R R R R tk45 ta45 (sN (oApN (f:=GItem.lv) (id:=144) R te45 tr54 ts54 R R hv9 R (sAa R zS)))))))) ?_
  obtain ⟨v10,hv10,h⟩:=bindS h
  refine LH.seqT [(2,.sptr [.lst 5 (List.map Gq2.lv p0.Records)]),(3,.sptr (GItem.lv p1).cells),(4,.ptr 104 0),(8,.ptr 108 0),(9,.arr 144 (List.length v9)),(10,.arr 148 (List.length v10))] [(104,.box [.nil]),(108,.box [.I x5.ID,.lst 5 (List.map GItem.lv x5.Versions),.lst 1 (List.map LV.bool x5.Approved),.lst 3 (List.map GUse.lv x5.Uses),.bool x5.Withdrawn]),(144,.arr 54 5 (List.map GItem.lv v9)),(148,.arr 4 1 (List.map LV.bool v10))] R (sMn R (sN (oFa tf49_2 tk46 ts46 R R (sN (oLdP R R R R tk46 ta46 (sN (oApN (f:=LV.bool) (id:=148) R te46 tr4 ts4 R R hv10 R (sAa R zS)))))))) ?_
  obtain ⟨v11,hv11,h⟩:=bindS h
  refine LH.seqT [(2,.sptr [.lst 5 (List.map Gq2.lv p0.Records)]),(4,.ptr 104 0),(8,.ptr 108 0),(10,.arr 148 (List.length v10))] [(104,.box [.nil]),(108,.box [.I x5.ID,.arr 144 (List.length v11),.lst 1 (List.map LV.bool x5.Approved),.lst 3 (List.map GUse.lv x5.Uses),.bool x5.Withdrawn]),(144,.arr 54 5 (List.map GItem.lv v11)),(148,.arr 4 1 (List.map LV.bool v10))] R (sMa R (sN (oLdA R tk54 ta54 ts54 R R (sN (oBS (f:=GItem.lv) (ys:=[p1]) te45 tr54 ts54 R R R GItem.ok (sN (oAp (f:=GItem.lv) te45 tr54 ts54 R R (prN R) R hv11 (sN (oFa tf49_1 tk45 ts45 R R (s_ (oSt R R R tk45 ts45 R R R zS))))))))))) ?_
  obtain ⟨v12,hv12,h⟩:=bindS h
  refine LH.seqT [(2,.sptr [.lst 5 (List.map Gq2.lv p0.Records)]),(4,.ptr 104 0),(8,.sptr [.I x5.ID,.lst 5 (List.map GItem.lv v11),.lst 1 (List.map LV.bool v12),.lst 3 (List.map GUse.lv x5.Uses),.bool x5.Withdrawn])] [(104,.box [.nil])] R (sMa R (sN (oBS (f:=LV.bool) (ys:=[false]) te46 tr4 ts4 R R R okB (sN (oAp (f:=LV.bool) te46 tr4 ts4 R R (prN R) R hv12 (sN (oFa tf49_2 tk46 ts46 R R (s_ (oSt R R R tk46 ts46 R R R (s0 ((Wk.trans (Wk.eq (el:=[(2,.sptr [.lst 5 (List.map Gq2.lv p0.Records)]),(4,.ptr 104 0),(8,.ptr 108 0)]) (ml:=[(104,.box [.nil]),(108,.box [.I x5.ID,.arr 144 (List.length v11),.arr 148 (List.length v12),.lst 3 (List.map GUse.lv x5.Uses),.bool x5.Withdrawn]),(144,.arr 54 5 (List.map GItem.lv v11)),(148,.arr 4 1 (List.map LV.bool v12))]) R R R R) (Wk.trans (Wk.eq (el:=[(2,.sptr [.lst 5 (List.map Gq2.lv p0.Records)]),(4,.ptr 104 0),(8,.ptr 108 0)]) (ml:=[(104,.box [.nil]),(108,.box [.I x5.ID,.arr 144 (List.length v11),.arr 148 (List.length v12),.lst 3 (List.map GUse.lv x5.Uses),.bool x5.Withdrawn]),(144,.arr 54 5 (List.map GItem.lv v11)),(148,.arr 4 1 (List.map LV.bool v12))]) R R R R) (Wk.trans (Wk.trans (Wk.frzBx (f:=GItem.lv) 144 54 5 v11 108 R R R (frAK R (frAZ (frAK R (frAK R (frAK R frA0))))) R R (prN R)) (Wk.eq (el:=[(2,.sptr [.lst 5 (List.map Gq2.lv p0.Records)]),(4,.ptr 104 0),(8,.ptr 108 0)]) (ml:=[(104,.box [.nil]),(108,.box [.I x5.ID,.lst 5 (List.map GItem.lv v11),.arr 148 (List.length v12),.lst 3 (List.map GUse.lv x5.Uses),.bool x5.Withdrawn]),(148,.arr 4 1 (List.map LV.bool v12))]) R R R R)) (Wk.trans (Wk.eq (el:=[(2,.sptr [.lst 5 (List.map Gq2.lv p0.Records)]),(4,.ptr 104 0),(8,.ptr 108 0)]) (ml:=[(104,.box [.nil]),(108,.box [.I x5.ID,.lst 5 (List.map GItem.lv v11),.arr 148 (List.length v12),.lst 3 (List.map GUse.lv x5.Uses),.bool x5.Withdrawn]),(148,.arr 4 1 (List.map LV.bool v12))]) R R R R) (Wk.trans (Wk.trans (Wk.frzBx (f:=LV.bool) 148 4 1 v12 108 R R R (frAK R (frAK R (frAZ (frAK R (frAK R frA0))))) R R (prN R)) (Wk.eq (el:=[(2,.sptr [.lst 5 (List.map Gq2.lv p0.Records)]),(4,.ptr 104 0),(8,.ptr 108 0)]) (ml:=[(104,.box [.nil]),(108,.box [.I x5.ID,.lst 5 (List.map GItem.lv v11),.lst 1 (List.map LV.bool v12),.lst 3 (List.map GUse.lv x5.Uses),.bool x5.Withdrawn])]) R R R R)) (Wk.trans (Wk.frzB 108 [.I x5.ID,.lst 5 (List.map GItem.lv v11),.lst 1 (List.map LV.bool v12),.lst 3 (List.map GUse.lv x5.Uses),.bool x5.Withdrawn] R R R (prN R)) (Wk.eq R R R R)))))))))))))))))) ?_
  obtain ⟨r13,hr13,h⟩:=bindS h
  refine LH.seqT [(4,.sptr [.lst 5 (List.map Gq2.lv r13.Records)]),(5,.I 0)] [] R (sN (oLdA R tk30 ta30 ts30 R R (sN (oLdA R tk49 ta49 ts49 R R (sN (oCP (args:=[.agg [.lst 5 (List.map Gq2.lv p0.Records)],.agg [.I x5.ID,.lst 5 (List.map GItem.lv v11),.lst 1 (List.map LV.bool v12),.lst 3 (List.map GUse.lv x5.Uses),.bool x5.Withdrawn]]) R isF71 R (sbR (sbR sbN)) (q146q hr13) R (s_ (oSt R R R tk30 ts30 R R R (sAi R (s0 ((Wk.trans (Wk.eq (el:=[(4,.ptr 104 0),(5,.I 0)]) (ml:=[(104,.box [.lst 5 (List.map Gq2.lv r13.Records)])]) R R R R) (Wk.trans (Wk.frzB 104 [.lst 5 (List.map Gq2.lv r13.Records)] R R R (prN R)) (Wk.eq R R R R)))))))))))))) (LH.ret ?_)
  obtain rfl:=oI h
  exact retE (aT Tryz.results46) (lrSA R tk30 ta30 ts30 R R (lrT R (lr0 ⟨memN mN,R,prK R,(Sub.tup (sbR (sbR sbN)))⟩)))

theorem q225q {F:Nat} {p0:GBank} {p1:GRef} {r:GBank × Int} (h:q145q F p0 p1=some r):LCall Tryz.prog 47 [.agg [.lst 5 (List.map Gq2.lv p0.Records)],.agg [.I p1.ID,.I p1.Version]] (Mem.of []) (.tup [.agg [.lst 5 (List.map Gq2.lv r.1.Records)],.I r.2]) (Mem.of []):=by
  unfold q145q at h
  refine bodyT Tryz.func47 R (nT Tryz.ntmps47 R) (LH.wk (Wk.eq (el:=[(0,.agg [.lst 5 (List.map Gq2.lv p0.Records)]),(1,.agg [.I p1.ID,.I p1.Version])]) (ml:=[]) R R R R) (LH.seqT [(2,.sptr [.lst 5 (List.map Gq2.lv p0.Records)]),(3,.sptr [.I p1.ID,.I p1.Version]),(4,.ptr 104 0)] [(104,.box [.nil])] R (sB (oBxR R R R R (sB (oBxR R R R R (sN (oAl (id:=104) R tz30 R R (sAi R zS))))))) ?_))
  obtain ⟨r1,hr1,h⟩:=bindS h
  refine LH.seqT [(2,.sptr [.lst 5 (List.map Gq2.lv p0.Records)]),(3,.sptr [.I p1.ID,.I p1.Version]),(4,.ptr 104 0),(6,.I r1)] [(104,.box [.nil])] R (sN (oLdA R tk30 ta30 ts30 R R (sN (oFaS tf43_0 tk3 ts3 R R R (sN (oLd R tk3 ta3 (sN (oCP (args:=[.agg [.lst 5 (List.map Gq2.lv p0.Records)],.I p1.ID]) R isF40 R (sbR (sbR sbN)) (q136q hr1) R (sAi R zS))))))))) (LH.seq ?_)
  obtain ⟨w3,hv,h⟩:=bindS h
  refine LH.seqJM mixed [] [0,0,0,0,0,0,0,0,0,0,0,0,0,0,0,0,0,0,0] [(2,.sptr [.lst 5 (List.map Gq2.lv p0.Records)]),(3,.sptr [.I p1.ID,.I p1.Version]),(4,.ptr 104 0),(6,.I r1),(31,.bool w3)] [(104,.box [.nil])] R R (by kernel_rfl) ?_ ?_
  ·refine mMi R (mN0 (oLt R R ⟨R,mMb R ?_⟩))
   by_cases hb4:(decide (r1<0))=true
   ·replace hv:=iteT hv hb4
    refine mF R R hb4 (mF R R hb4 (mF R R hb4 (mN0 (oPkT (cB hb4) (v:=(.bool _)) R ⟨R,mMb R (mF R R R (mF R R R (mF R R R (mF R R R (mF R R R (mF R R R (mF R R R (mF R R R (mF R R R (mF R R R (mN0 (oPkT R (v:=(.bool _)) R ⟨R,?_⟩))))))))))))⟩))))
    obtain rfl:=oI hv
    exact zM
   ·replace hb4:=bF hb4
    replace hv:=iteF hv hb4
    refine mT R (cB hb4) (mN0 (oFaS tf43_1 tk3 ts3 R R R ⟨R,mT R (cB hb4) (mN0 (oLd R tk3 ta3 ⟨R,mT R (cB hb4) (mN0 (oLt R R ⟨R,mN0 (oPkF (cB hb4) (v:=(.bool _)) R ⟨R,mMb R ?_⟩)⟩))⟩))⟩))
    by_cases hb5:(decide (p1.Version<1))=true
    ·replace hv:=iteT hv hb5
     refine mF R R hb5 (mF R R hb5 (mF R R hb5 (mF R R hb5 (mF R R hb5 (mF R R hb5 (mF R R hb5 (mF R R hb5 (mF R R hb5 (mF R R hb5 (mN0 (oPkT (cB hb5) (v:=(.bool _)) R ⟨R,?_⟩)))))))))))
     obtain rfl:=oI hv
     exact zM
    ·replace hb5:=bF hb5
     replace hv:=iteF hv hb5
     refine mT R (cB hb5) (mN0 (oFaS tf43_1 tk3 ts3 R R R ⟨R,mT R (cB hb5) (mN0 (oLd R tk3 ta3 ⟨R,mT R (cB hb5) (mN0 (oFaS tf30_0 tk28 ts28 R R R ⟨R,mT R (cB hb5) (mN0 (oLd R tk28 ta28 ⟨R,mT R (cB hb5) (mMi R ?_)⟩))⟩))⟩))⟩))
     obtain ⟨x6,hx6,hv⟩:=bindS hv
     refine mT R (cB hb5) (mN0 (oIx (f:=Gq2.lv) te28 tk49 ts49 R R Gq2.ok hx6 R ⟨R,mT R (cB hb5) (mN0 (oFaS tf49_1 tk45 ts45 R R R ⟨R,mT R (cB hb5) (mN0 (oLd R tk45 ta45 ⟨R,mT R (cB hb5) (mN0 (oLnL (f:=GItem.lv) te45 R ⟨R,mT R (cB hb5) (mN0 (oGt R R ⟨R,mN0 (oPkF (cB hb5) (v:=(.bool _)) R ⟨R,?_⟩)⟩))⟩))⟩))⟩))⟩))
     obtain rfl:=oI hv
     exact zM
  clear hv
  refine LH.cond (t:=w3) R (fun hc7=>?_) (fun hc7=>?_)
  ·replace h:=iteT h hc7
   refine LH.seqT [(4,.sptr [.nil]),(5,.I 4)] [] R (sN (oBd (vs:=[]) tu30 tz30 R lf0 (s_ (oSt R R R tk30 ts30 R R R (sAi R (s0 ((Wk.trans (Wk.eq (el:=[(4,.ptr 104 0),(5,.I 4)]) (ml:=[(104,.box [.nil])]) R R R R) (Wk.trans (Wk.frzB 104 [.nil] R R R (prN R)) (Wk.eq R R R R)))))))))) (LH.ret (thenR ?_))
   obtain rfl:=oI h
   exact retE (aT Tryz.results47) (lrSA R tk30 ta30 ts30 R R (lrT R (lr0 ⟨memN mN,R,prK R,(Sub.tup (sbS (Sub.agg (sbL sbN)) (sbR sbN)))⟩)))
  replace h:=iteF h hc7
  refine LH.skip (thenN ?_)
  obtain ⟨x8,hx8,h⟩:=bindS h
  refine LH.seqT [(2,.sptr [.lst 5 (List.map Gq2.lv p0.Records)]),(3,.sptr [.I p1.ID,.I p1.Version]),(4,.ptr 104 0),(7,.ptr 107 0)] [(104,.box [.nil]),(107,.box [.I x8.ID,.lst 5 (List.map GItem.lv x8.Versions),.lst 1 (List.map LV.bool x8.Approved),.lst 3 (List.map GUse.lv x8.Uses),.bool x8.Withdrawn])] R (sN (oFaS tf30_0 tk28 ts28 R R R (sN (oLd R tk28 ta28 (sMi R (sN (oIx (f:=Gq2.lv) te28 tk49 ts49 R R Gq2.ok hx8 R (sN (oLdA R tk49 ta49 ts49 R R (sN (oAl (id:=107) R tz49 R R (s_ (oSt R R R tk49 ts49 R R R zS))))))))))))) (LH.seq (LH.seqT [(2,.sptr [.lst 5 (List.map Gq2.lv p0.Records)]),(3,.sptr [.I p1.ID,.I p1.Version]),(4,.ptr 104 0),(7,.ptr 107 0),(39,.bool x8.Withdrawn)] [(104,.box [.nil]),(107,.box [.I x8.ID,.lst 5 (List.map GItem.lv x8.Versions),.lst 1 (List.map LV.bool x8.Approved),.lst 3 (List.map GUse.lv x8.Uses),.bool x8.Withdrawn])] R (sN (oFa tf49_4 tk4 ts4 R R (sN (oLdP R R R R tk4 ta4 zS)))) (LH.cond (t:=x8.Withdrawn) R (fun hc9=>?_) (fun hc9=>?_))))
  ·replace h:=iteT h hc9
   refine LH.seqT [(4,.sptr [.nil]),(5,.I 8)] [] R (sN (oBd (vs:=[]) tu30 tz30 R lf0 (s_ (oSt R R R tk30 ts30 R R R (sAi R (s0 ((Wk.trans (Wk.eq (el:=[(4,.ptr 104 0),(5,.I 8)]) (ml:=[(104,.box [.nil])]) R R R R) (Wk.trans (Wk.frzB 104 [.nil] R R R (prN R)) (Wk.eq R R R R)))))))))) (LH.ret (thenR ?_))
   obtain rfl:=oI h
   exact retE (aT Tryz.results47) (lrSA R tk30 ta30 ts30 R R (lrT R (lr0 ⟨memN mN,R,prK R,(Sub.tup (sbS (Sub.agg (sbL sbN)) (sbR sbN)))⟩)))
  replace h:=iteF h hc9
  refine LH.skip (thenN (LH.wk (Wk.eq (el:=[(2,.sptr [.lst 5 (List.map Gq2.lv p0.Records)]),(3,.sptr [.I p1.ID,.I p1.Version]),(4,.ptr 104 0),(7,.ptr 107 0)]) (ml:=[(104,.box [.nil]),(107,.box [.I x8.ID,.lst 5 (List.map GItem.lv x8.Versions),.lst 1 (List.map LV.bool x8.Approved),.lst 3 (List.map GUse.lv x8.Uses),.bool x8.Withdrawn])]) R R R R) (LH.seq ?_)))
  obtain ⟨x10,hx10,h⟩:=bindS h
  refine LH.seqT [(2,.sptr [.lst 5 (List.map Gq2.lv p0.Records)]),(3,.sptr [.I p1.ID,.I p1.Version]),(4,.ptr 104 0),(7,.ptr 107 0),(47,.bool x10)] [(104,.box [.nil]),(107,.box [.I x8.ID,.lst 5 (List.map GItem.lv x8.Versions),.lst 1 (List.map LV.bool x8.Approved),.lst 3 (List.map GUse.lv x8.Uses),.bool x8.Withdrawn])] R (sN (oFa tf49_2 tk46 ts46 R R (sN (oLdP R R R R tk46 ta46 (sN (oFaS tf43_1 tk3 ts3 R R R (sN (oLd R tk3 ta3 (sN (oSub R R (sN (oIx (f:=LV.bool) te46 tk4 ts4 R R okB hx10 R (sN (oLd R tk4 ta4 zS)))))))))))))) (LH.cond (t:=x10) R (fun hc11=>?_) (fun hc11=>?_))
  ·replace h:=iteT h hc11
   refine LH.seqT [(4,.sptr [.nil]),(5,.I 5)] [] R (sN (oBd (vs:=[]) tu30 tz30 R lf0 (s_ (oSt R R R tk30 ts30 R R R (sAi R (s0 ((Wk.trans (Wk.eq (el:=[(4,.ptr 104 0),(5,.I 5)]) (ml:=[(104,.box [.nil])]) R R R R) (Wk.trans (Wk.frzB 104 [.nil] R R R (prN R)) (Wk.eq R R R R)))))))))) (LH.ret (thenR ?_))
   obtain rfl:=oI h
   exact retE (aT Tryz.results47) (lrSA R tk30 ta30 ts30 R R (lrT R (lr0 ⟨memN mN,R,prK R,(Sub.tup (sbS (Sub.agg (sbL sbN)) (sbR sbN)))⟩)))
  replace h:=iteF h hc11
  refine LH.skip (thenN (LH.seqT [(2,.sptr [.lst 5 (List.map Gq2.lv p0.Records)]),(3,.sptr [.I p1.ID,.I p1.Version]),(4,.ptr 104 0),(7,.ptr 107 0),(8,.nil)] [(104,.box [.nil]),(107,.box [.I x8.ID,.lst 5 (List.map GItem.lv x8.Versions),.lst 1 (List.map LV.bool x8.Approved),.lst 3 (List.map GUse.lv x8.Uses),.bool x8.Withdrawn])] R (sAn R zS) ?_))
  obtain ⟨v12,hv12,h⟩:=bindS h
  refine LH.seqT [(2,.sptr [.lst 5 (List.map Gq2.lv p0.Records)]),(3,.sptr [.I p1.ID,.I p1.Version]),(4,.ptr 104 0),(7,.ptr 107 0),(8,.arr 152 (List.length v12))] [(104,.box [.nil]),(107,.box [.I x8.ID,.lst 5 (List.map GItem.lv x8.Versions),.lst 1 (List.map LV.bool x8.Approved),.lst 3 (List.map GUse.lv x8.Uses),.bool x8.Withdrawn]),(152,.arr 4 1 (List.map LV.bool v12))] R (sMn R (sN (oFa tf49_2 tk46 ts46 R R (sN (oLdP R R R R tk46 ta46 (sN (oApN (f:=LV.bool) (id:=152) R te46 tr4 ts4 R R hv12 R (sAa R zS)))))))) ?_
  obtain ⟨x13,hx13,h⟩:=bindS h
  refine LH.seqT [(2,.sptr [.lst 5 (List.map Gq2.lv p0.Records)]),(4,.ptr 104 0),(7,.ptr 107 0),(8,.lst 1 (List.map LV.bool (v12.set ((i64 (p1.Version - 1)).toNat) true)))] [(104,.box [.nil]),(107,.box [.I x8.ID,.lst 5 (List.map GItem.lv x8.Versions),.lst 1 (List.map LV.bool x8.Approved),.lst 3 (List.map GUse.lv x8.Uses),.bool x8.Withdrawn])] R (sMa R (sN (oFaS tf43_1 tk3 ts3 R R R (sN (oLd R tk3 ta3 (sN (oSub R R (sN (oIxA (f:=LV.bool) te46 tk4 ts4 R R R hx13 (s_ (oStE (f:=LV.bool) (z':=true) R R R R tk4 ts4 R (idxOk hx13).2 R (s0 ((Wk.trans (Wk.to (el:=[(2,.sptr [.lst 5 (List.map Gq2.lv p0.Records)]),(4,.ptr 104 0),(7,.ptr 107 0),(8,.arr 152 (List.length (v12.set ((i64 (p1.Version - 1)).toNat) true)))]) (ml:=[(104,.box [.nil]),(107,.box [.I x8.ID,.lst 5 (List.map GItem.lv x8.Versions),.lst 1 (List.map LV.bool x8.Approved),.lst 3 (List.map GUse.lv x8.Uses),.bool x8.Withdrawn]),(152,.arr 4 1 (List.map LV.bool (v12.set ((i64 (p1.Version - 1)).toNat) true)))]) (eC R (eC R (eC R (eC (congrArg (LV.arr 152) (by simp)) eN)))) ⟨R,R,R,trivial⟩ R (prK R)) (Wk.trans (Wk.frzL (f:=LV.bool) (el':=[(2,.sptr [.lst 5 (List.map Gq2.lv p0.Records)]),(4,.ptr 104 0),(7,.ptr 107 0),(8,.lst 1 (List.map LV.bool (v12.set ((i64 (p1.Version - 1)).toNat) true)))]) 152 4 1 (v12.set ((i64 (p1.Version - 1)).toNat) true) R R (prN R) (fK R (fK R (fK R (fZ fN))))) (Wk.eq R R R R)))))))))))))))) (LH.seqT [(2,.sptr [.lst 5 (List.map Gq2.lv p0.Records)]),(4,.ptr 104 0),(7,.sptr [.I x8.ID,.lst 5 (List.map GItem.lv x8.Versions),.lst 1 (List.map LV.bool (v12.set ((i64 (p1.Version - 1)).toNat) true)),.lst 3 (List.map GUse.lv x8.Uses),.bool x8.Withdrawn])] [(104,.box [.nil])] R (sMl R (sN (oFa tf49_2 tk46 ts46 R R (s_ (oSt R R R tk46 ts46 R R R (s0 ((Wk.trans (Wk.eq (el:=[(2,.sptr [.lst 5 (List.map Gq2.lv p0.Records)]),(4,.ptr 104 0),(7,.ptr 107 0)]) (ml:=[(104,.box [.nil]),(107,.box [.I x8.ID,.lst 5 (List.map GItem.lv x8.Versions),.lst 1 (List.map LV.bool (v12.set ((i64 (p1.Version - 1)).toNat) true)),.lst 3 (List.map GUse.lv x8.Uses),.bool x8.Withdrawn])]) R R R R) (Wk.trans (Wk.frzB 107 [.I x8.ID,.lst 5 (List.map GItem.lv x8.Versions),.lst 1 (List.map LV.bool (v12.set ((i64 (p1.Version - 1)).toNat) true)),.lst 3 (List.map GUse.lv x8.Uses),.bool x8.Withdrawn] R R R (prN R)) (Wk.eq R R R R)))))))))) ?_)
  obtain ⟨r14,hr14,h⟩:=bindS h
  refine LH.seqT [(4,.sptr [.lst 5 (List.map Gq2.lv r14.Records)]),(5,.I 0)] [] R (sN (oLdA R tk30 ta30 ts30 R R (sN (oLdA R tk49 ta49 ts49 R R (sN (oCP (args:=[.agg [.lst 5 (List.map Gq2.lv p0.Records)],.agg [.I x8.ID,.lst 5 (List.map GItem.lv x8.Versions),.lst 1 (List.map LV.bool (v12.set ((i64 (p1.Version - 1)).toNat) true)),.lst 3 (List.map GUse.lv x8.Uses),.bool x8.Withdrawn]]) R isF71 R (sbR (sbR sbN)) (q146q hr14) R (s_ (oSt R R R tk30 ts30 R R R (sAi R (s0 ((Wk.trans (Wk.eq (el:=[(4,.ptr 104 0),(5,.I 0)]) (ml:=[(104,.box [.lst 5 (List.map Gq2.lv r14.Records)])]) R R R R) (Wk.trans (Wk.frzB 104 [.lst 5 (List.map Gq2.lv r14.Records)] R R R (prN R)) (Wk.eq R R R R)))))))))))))) (LH.ret ?_)
  obtain rfl:=oI h
  exact retE (aT Tryz.results47) (lrSA R tk30 ta30 ts30 R R (lrT R (lr0 ⟨memN mN,R,prK R,(Sub.tup (sbR (sbR sbN)))⟩)))

theorem q249q {F:Nat} {p0:GBank} {p1:GRef} {p2:Int} {p3:Int} {r:GBank × Int} (h:ref07_use F p0 p1 p2 p3=some r):LCall Tryz.prog 48 [.agg [.lst 5 (List.map Gq2.lv p0.Records)],.agg [.I p1.ID,.I p1.Version],.I p2,.I p3] (Mem.of []) (.tup [.agg [.lst 5 (List.map Gq2.lv r.1.Records)],.I r.2]) (Mem.of []):=by
  unfold ref07_use at h
  refine bodyT Tryz.func48 R (nT Tryz.ntmps48 R) (LH.wk (Wk.eq (el:=[(0,.agg [.lst 5 (List.map Gq2.lv p0.Records)]),(1,.agg [.I p1.ID,.I p1.Version]),(2,.I p2),(3,.I p3)]) (ml:=[]) R R R R) (LH.seqT [(2,.I p2),(3,.I p3),(4,.sptr [.lst 5 (List.map Gq2.lv p0.Records)]),(5,.sptr [.I p1.ID,.I p1.Version]),(8,.ptr 108 0)] [(108,.box [.nil])] R (sB (oBxR R R R R (sB (oBxR R R R R (sN (oAl (id:=108) R tz30 R R (sAi R zS))))))) ?_))
  obtain ⟨r1,hr1,h⟩:=bindS h
  refine LH.seqT [(2,.I p2),(3,.I p3),(4,.sptr [.lst 5 (List.map Gq2.lv p0.Records)]),(5,.sptr [.I p1.ID,.I p1.Version]),(8,.ptr 108 0),(10,.I r1)] [(108,.box [.nil])] R (sN (oLdA R tk30 ta30 ts30 R R (sN (oFaS tf43_0 tk3 ts3 R R R (sN (oLd R tk3 ta3 (sN (oCP (args:=[.agg [.lst 5 (List.map Gq2.lv p0.Records)],.I p1.ID]) R isF40 R (sbR (sbR sbN)) (q136q hr1) R (sAi R zS))))))))) (LH.seq ?_)
  obtain ⟨w3,hv,h⟩:=bindS h
  refine LH.seqJM mixed [] [0,0,0,0,0,0,0,0,0,0,0,0,0,0,0,0,0,0,0] [(2,.I p2),(3,.I p3),(4,.sptr [.lst 5 (List.map Gq2.lv p0.Records)]),(5,.sptr [.I p1.ID,.I p1.Version]),(8,.ptr 108 0),(10,.I r1),(36,.bool w3)] [(108,.box [.nil])] R R (by kernel_rfl) ?_ ?_
  ·refine mMi R (mN0 (oLt R R ⟨R,mMb R ?_⟩))
   by_cases hb4:(decide (r1<0))=true
   ·replace hv:=iteT hv hb4
    refine mF R R hb4 (mF R R hb4 (mF R R hb4 (mN0 (oPkT (cB hb4) (v:=(.bool _)) R ⟨R,mMb R (mF R R R (mF R R R (mF R R R (mF R R R (mF R R R (mF R R R (mF R R R (mF R R R (mF R R R (mF R R R (mN0 (oPkT R (v:=(.bool _)) R ⟨R,?_⟩))))))))))))⟩))))
    obtain rfl:=oI hv
    exact zM
   ·replace hb4:=bF hb4
    replace hv:=iteF hv hb4
    refine mT R (cB hb4) (mN0 (oFaS tf43_1 tk3 ts3 R R R ⟨R,mT R (cB hb4) (mN0 (oLd R tk3 ta3 ⟨R,mT R (cB hb4) (mN0 (oLt R R ⟨R,mN0 (oPkF (cB hb4) (v:=(.bool _)) R ⟨R,mMb R ?_⟩)⟩))⟩))⟩))
    by_cases hb5:(decide (p1.Version<1))=true
    ·replace hv:=iteT hv hb5
     refine mF R R hb5 (mF R R hb5 (mF R R hb5 (mF R R hb5 (mF R R hb5 (mF R R hb5 (mF R R hb5 (mF R R hb5 (mF R R hb5 (mF R R hb5 (mN0 (oPkT (cB hb5) (v:=(.bool _)) R ⟨R,?_⟩)))))))))))
     obtain rfl:=oI hv
     exact zM
    ·replace hb5:=bF hb5
     replace hv:=iteF hv hb5
     refine mT R (cB hb5) (mN0 (oFaS tf43_1 tk3 ts3 R R R ⟨R,mT R (cB hb5) (mN0 (oLd R tk3 ta3 ⟨R,mT R (cB hb5) (mN0 (oFaS tf30_0 tk28 ts28 R R R ⟨R,mT R (cB hb5) (mN0 (oLd R tk28 ta28 ⟨R,mT R (cB hb5) (mMi R ?_)⟩))⟩))⟩))⟩))
     obtain ⟨x6,hx6,hv⟩:=bindS hv
     refine mT R (cB hb5) (mN0 (oIx (f:=Gq2.lv) te28 tk49 ts49 R R Gq2.ok hx6 R ⟨R,mT R (cB hb5) (mN0 (oFaS tf49_1 tk45 ts45 R R R ⟨R,mT R (cB hb5) (mN0 (oLd R tk45 ta45 ⟨R,mT R (cB hb5) (mN0 (oLnL (f:=GItem.lv) te45 R ⟨R,mT R (cB hb5) (mN0 (oGt R R ⟨R,mN0 (oPkF (cB hb5) (v:=(.bool _)) R ⟨R,?_⟩)⟩))⟩))⟩))⟩))⟩))
     obtain rfl:=oI hv
     exact zM
  clear hv
  refine LH.cond (t:=w3) R (fun hc7=>?_) (fun hc7=>?_)
  ·replace h:=iteT h hc7
   refine LH.seqT [(8,.sptr [.nil]),(9,.I 4)] [] R (sN (oBd (vs:=[]) tu30 tz30 R lf0 (s_ (oSt R R R tk30 ts30 R R R (sAi R (s0 ((Wk.trans (Wk.eq (el:=[(8,.ptr 108 0),(9,.I 4)]) (ml:=[(108,.box [.nil])]) R R R R) (Wk.trans (Wk.frzB 108 [.nil] R R R (prN R)) (Wk.eq R R R R)))))))))) (LH.ret (thenR ?_))
   obtain rfl:=oI h
   exact retE (aT Tryz.results48) (lrSA R tk30 ta30 ts30 R R (lrT R (lr0 ⟨memN mN,R,prK R,(Sub.tup (sbS (Sub.agg (sbL sbN)) (sbR sbN)))⟩)))
  replace h:=iteF h hc7
  refine LH.skip (thenN ?_)
  obtain ⟨x8,hx8,h⟩:=bindS h
  refine LH.seqT [(2,.I p2),(3,.I p3),(4,.sptr [.lst 5 (List.map Gq2.lv p0.Records)]),(5,.sptr [.I p1.ID,.I p1.Version]),(8,.ptr 108 0),(11,.ptr 111 0)] [(108,.box [.nil]),(111,.box [.I x8.ID,.lst 5 (List.map GItem.lv x8.Versions),.lst 1 (List.map LV.bool x8.Approved),.lst 3 (List.map GUse.lv x8.Uses),.bool x8.Withdrawn])] R (sN (oFaS tf30_0 tk28 ts28 R R R (sN (oLd R tk28 ta28 (sMi R (sN (oIx (f:=Gq2.lv) te28 tk49 ts49 R R Gq2.ok hx8 R (sN (oLdA R tk49 ta49 ts49 R R (sN (oAl (id:=111) R tz49 R R (s_ (oSt R R R tk49 ts49 R R R zS))))))))))))) (LH.seq ?_)
  obtain ⟨w10,hv,h⟩:=bindS h
  refine LH.seqT [(2,.I p2),(3,.I p3),(4,.sptr [.lst 5 (List.map Gq2.lv p0.Records)]),(5,.sptr [.I p1.ID,.I p1.Version]),(8,.ptr 108 0),(11,.ptr 111 0),(54,.bool w10)] [(108,.box [.nil]),(111,.box [.I x8.ID,.lst 5 (List.map GItem.lv x8.Versions),.lst 1 (List.map LV.bool x8.Approved),.lst 3 (List.map GUse.lv x8.Uses),.bool x8.Withdrawn])] R ?_ ?_
  ·refine sN (oFa tf49_4 tk4 ts4 R R (sN (oLdP R R R R tk4 ta4 (sMb R ?_))))
   by_cases hb11:x8.Withdrawn=true
   ·replace hv:=iteT hv hb11
    refine sF R R hb11 (sF R R hb11 (sF R R hb11 (sF R R hb11 (sF R R hb11 (sF R R hb11 (sF R R hb11 (sF R R hb11 (sN (oPkT (cB hb11) (v:=(.bool _)) R ?_)))))))))
    obtain rfl:=oI hv
    exact zS
   ·replace hb11:=bF hb11
    replace hv:=iteF hv hb11
    refine sT R (cB hb11) (oFa tf49_2 tk46 ts46 R R (sT R (cB hb11) (oLdP R R R R tk46 ta46 (sT R (cB hb11) (oFaS tf43_1 tk3 ts3 R R R (sT R (cB hb11) (oLd R tk3 ta3 (sT R (cB hb11) (oSub R R ?_)))))))))
    obtain ⟨x12,hx12,hv⟩:=bindS hv
    refine sT R (cB hb11) (oIx (f:=LV.bool) te46 tk4 ts4 R R okB hx12 R (sT R (cB hb11) (oLd R tk4 ta4 (sT R (cB hb11) (oNot R (sN (oPkF (cB hb11) (v:=(.bool _)) R ?_)))))))
    obtain rfl:=oI hv
    exact zS
  clear hv
  refine LH.cond (t:=w10) R (fun hc13=>?_) (fun hc13=>?_)
  ·replace h:=iteT h hc13
   refine LH.seqT [(8,.sptr [.nil]),(9,.I 8)] [] R (sN (oBd (vs:=[]) tu30 tz30 R lf0 (s_ (oSt R R R tk30 ts30 R R R (sAi R (s0 ((Wk.trans (Wk.eq (el:=[(8,.ptr 108 0),(9,.I 8)]) (ml:=[(108,.box [.nil])]) R R R R) (Wk.trans (Wk.frzB 108 [.nil] R R R (prN R)) (Wk.eq R R R R)))))))))) (LH.ret (thenR ?_))
   obtain rfl:=oI h
   exact retE (aT Tryz.results48) (lrSA R tk30 ta30 ts30 R R (lrT R (lr0 ⟨memN mN,R,prK R,(Sub.tup (sbS (Sub.agg (sbL sbN)) (sbR sbN)))⟩)))
  replace h:=iteF h hc13
  refine LH.skip (thenN (LH.wk (Wk.eq (el:=[(2,.I p2),(3,.I p3),(4,.sptr [.lst 5 (List.map Gq2.lv p0.Records)]),(5,.sptr [.I p1.ID,.I p1.Version]),(8,.ptr 108 0),(11,.ptr 111 0)]) (ml:=[(108,.box [.nil]),(111,.box [.I x8.ID,.lst 5 (List.map GItem.lv x8.Versions),.lst 1 (List.map LV.bool x8.Approved),.lst 3 (List.map GUse.lv x8.Uses),.bool x8.Withdrawn])]) R R R R) (LH.seq (LH.seqT [(2,.I p2),(3,.I p3),(4,.sptr [.lst 5 (List.map Gq2.lv p0.Records)]),(5,.sptr [.I p1.ID,.I p1.Version]),(8,.ptr 108 0),(11,.ptr 111 0),(12,.I 0)] [(108,.box [.nil]),(111,.box [.I x8.ID,.lst 5 (List.map GItem.lv x8.Versions),.lst 1 (List.map LV.bool x8.Approved),.lst 3 (List.map GUse.lv x8.Uses),.bool x8.Withdrawn])] R (sAi R zS) (LH.block (LH.loop (fun n e m=>∃ (n14:Int),q105q F p0 p1 p2 p3 x8 n n14=some r∧e=Env.of [(2,.I p2),(3,.I p3),(4,.sptr [.lst 5 (List.map Gq2.lv p0.Records)]),(5,.sptr [.I p1.ID,.I p1.Version]),(8,.ptr 108 0),(11,.ptr 111 0),(12,.I n14)]∧m=Mem.of [(108,.box [.nil]),(111,.box [.I x8.ID,.lst 5 (List.map GItem.lv x8.Versions),.lst 1 (List.map LV.bool x8.Approved),.lst 3 (List.map GUse.lv x8.Uses),.bool x8.Withdrawn])]) F ⟨0,h,R,R⟩ ?_))))))
  clear h
  rintro n e m ⟨n14,h,rfl,rfl⟩
  rcases n with _ | n
  · cases (show Option.none=some _ from h)
  obtain ⟨rec1,hrec1⟩:∃ f,f=q105q F p0 p1 p2 p3 x8 n:=⟨_,rfl⟩
  replace h:q137q F p0 p1 p2 p3 x8 rec1 n14=some r:=hrec1 ▸ h
  unfold q137q at h
  refine LH.seq (LH.seqT [(2,.I p2),(3,.I p3),(4,.sptr [.lst 5 (List.map Gq2.lv p0.Records)]),(5,.sptr [.I p1.ID,.I p1.Version]),(8,.ptr 108 0),(11,.ptr 111 0),(12,.I n14),(60,.bool (decide (n14<(x8.Uses.length:Int))))] [(108,.box [.nil]),(111,.box [.I x8.ID,.lst 5 (List.map GItem.lv x8.Versions),.lst 1 (List.map LV.bool x8.Approved),.lst 3 (List.map GUse.lv x8.Uses),.bool x8.Withdrawn])] R (sMi R (sN (oFa tf49_3 tk47 ts47 R R (sN (oLdP R R R R tk47 ta47 (sN (oLnL (f:=GUse.lv) te47 R (sN (oLt R R zS))))))))) (LH.cond (t:=(decide (n14<(x8.Uses.length:Int)))) R (fun hc15=>?_) (fun hc15=>?_)))
  ·replace h:=iteT h hc15
   refine LH.skip (thenN (LH.wk (Wk.eq (el:=[(2,.I p2),(3,.I p3),(4,.sptr [.lst 5 (List.map Gq2.lv p0.Records)]),(5,.sptr [.I p1.ID,.I p1.Version]),(8,.ptr 108 0),(11,.ptr 111 0),(12,.I n14)]) (ml:=[(108,.box [.nil]),(111,.box [.I x8.ID,.lst 5 (List.map GItem.lv x8.Versions),.lst 1 (List.map LV.bool x8.Approved),.lst 3 (List.map GUse.lv x8.Uses),.bool x8.Withdrawn])]) R R R R) (LH.seq (LH.block ?_))))
   obtain ⟨x16,hx16,h⟩:=bindS h
   refine LH.seqT [(2,.I p2),(3,.I p3),(4,.sptr [.lst 5 (List.map Gq2.lv p0.Records)]),(5,.sptr [.I p1.ID,.I p1.Version]),(8,.ptr 108 0),(11,.ptr 111 0),(12,.I n14),(70,.bool (x16.Form == p2))] [(108,.box [.nil]),(111,.box [.I x8.ID,.lst 5 (List.map GItem.lv x8.Versions),.lst 1 (List.map LV.bool x8.Approved),.lst 3 (List.map GUse.lv x8.Uses),.bool x8.Withdrawn])] R (sN (oFa tf49_3 tk47 ts47 R R (sN (oLdP R R R R tk47 ta47 (sMi R (sN (oIx (f:=GUse.lv) te47 tk88 ts88 R R GUse.ok hx16 R (sN (oFaS tf88_1 tk3 ts3 R R R (sN (oLd R tk3 ta3 (sMi R (sN (oEq R R zS)))))))))))))) (LH.cond (t:=(x16.Form == p2)) R (fun hc17=>?_) (fun hc17=>?_))
   ·replace h:=iteT h hc17
    refine LH.seqT [(8,.sptr [.nil]),(9,.I 5)] [] R (sN (oBd (vs:=[]) tu30 tz30 R lf0 (s_ (oSt R R R tk30 ts30 R R R (sAi R (s0 ((Wk.trans (Wk.eq (el:=[(8,.ptr 108 0),(9,.I 5)]) (ml:=[(108,.box [.nil])]) R R R R) (Wk.trans (Wk.frzB 108 [.nil] R R R (prN R)) (Wk.eq R R R R)))))))))) (LH.ret (blockR (thenR (roundR (blockR (thenR ?_))))))
    obtain rfl:=oI h
    exact retE (aT Tryz.results48) (lrSA R tk30 ta30 ts30 R R (lrT R (lr0 ⟨memN mN,R,prK R,(Sub.tup (sbS (Sub.agg (sbL sbN)) (sbR sbN)))⟩)))
   replace h:=iteF h hc17
   refine LH.skip (blockN (thenN (LH.loneT [(2,.I p2),(3,.I p3),(4,.sptr [.lst 5 (List.map Gq2.lv p0.Records)]),(5,.sptr [.I p1.ID,.I p1.Version]),(8,.ptr 108 0),(11,.ptr 111 0),(12,.I (i64 (n14+1)))] [(108,.box [.nil]),(111,.box [.I x8.ID,.lst 5 (List.map GItem.lv x8.Versions),.lst 1 (List.map LV.bool x8.Approved),.lst 3 (List.map GUse.lv x8.Uses),.bool x8.Withdrawn])] R (sMi R (sN (oAdd R R (sAi R zS)))) ?_)))
   exact roundI ⟨(i64 (n14+1)),hrec1 ▸ h,R,R⟩ (Wk.eq R R R R)
  replace h:=iteF h hc15
  refine LH.exit (thenX (roundX (blockH (thenN (LH.wk (Wk.eq (el:=[(2,.I p2),(3,.I p3),(4,.sptr [.lst 5 (List.map Gq2.lv p0.Records)]),(5,.sptr [.I p1.ID,.I p1.Version]),(8,.ptr 108 0),(11,.ptr 111 0)]) (ml:=[(108,.box [.nil]),(111,.box [.I x8.ID,.lst 5 (List.map GItem.lv x8.Versions),.lst 1 (List.map LV.bool x8.Approved),.lst 3 (List.map GUse.lv x8.Uses),.bool x8.Withdrawn])]) R R R R) (LH.seq (LH.seqT [(2,.I p2),(3,.I p3),(4,.sptr [.lst 5 (List.map Gq2.lv p0.Records)]),(5,.sptr [.I p1.ID,.I p1.Version]),(8,.ptr 108 0),(11,.ptr 111 0),(75,.bool ((x8.Uses.length:Int) == 300))] [(108,.box [.nil]),(111,.box [.I x8.ID,.lst 5 (List.map GItem.lv x8.Versions),.lst 1 (List.map LV.bool x8.Approved),.lst 3 (List.map GUse.lv x8.Uses),.bool x8.Withdrawn])] R (sN (oFa tf49_3 tk47 ts47 R R (sN (oLdP R R R R tk47 ta47 (sN (oLnL (f:=GUse.lv) te47 R (sN (oEq R R zS)))))))) (LH.cond (t:=((x8.Uses.length:Int) == 300)) R (fun hc18=>?_) (fun hc18=>?_)))))))))
  ·replace h:=iteT h hc18
   refine LH.seqT [(8,.sptr [.nil]),(9,.I 3)] [] R (sN (oBd (vs:=[]) tu30 tz30 R lf0 (s_ (oSt R R R tk30 ts30 R R R (sAi R (s0 ((Wk.trans (Wk.eq (el:=[(8,.ptr 108 0),(9,.I 3)]) (ml:=[(108,.box [.nil])]) R R R R) (Wk.trans (Wk.frzB 108 [.nil] R R R (prN R)) (Wk.eq R R R R)))))))))) (LH.ret (thenR ?_))
   obtain rfl:=oI h
   exact retE (aT Tryz.results48) (lrSA R tk30 ta30 ts30 R R (lrT R (lr0 ⟨memN mN,R,prK R,(Sub.tup (sbS (Sub.agg (sbL sbN)) (sbR sbN)))⟩)))
  replace h:=iteF h hc18
  refine LH.skip (thenN (LH.seqT [(2,.I p2),(3,.I p3),(4,.sptr [.lst 5 (List.map Gq2.lv p0.Records)]),(5,.sptr [.I p1.ID,.I p1.Version]),(8,.ptr 108 0),(11,.ptr 111 0),(13,.nil)] [(108,.box [.nil]),(111,.box [.I x8.ID,.lst 5 (List.map GItem.lv x8.Versions),.lst 1 (List.map LV.bool x8.Approved),.lst 3 (List.map GUse.lv x8.Uses),.bool x8.Withdrawn])] R (sAn R zS) ?_))
  obtain ⟨v19,hv19,h⟩:=bindS h
  refine LH.seqT [(2,.I p2),(3,.I p3),(4,.sptr [.lst 5 (List.map Gq2.lv p0.Records)]),(5,.sptr [.I p1.ID,.I p1.Version]),(8,.ptr 108 0),(11,.ptr 111 0),(13,.arr 180 (List.length v19))] [(108,.box [.nil]),(111,.box [.I x8.ID,.lst 5 (List.map GItem.lv x8.Versions),.lst 1 (List.map LV.bool x8.Approved),.lst 3 (List.map GUse.lv x8.Uses),.bool x8.Withdrawn]),(180,.arr 88 3 (List.map GUse.lv v19))] R (sMn R (sN (oFa tf49_3 tk47 ts47 R R (sN (oLdP R R R R tk47 ta47 (sN (oApN (f:=GUse.lv) (id:=180) R te47 tr88 ts88 R R hv19 R (sAa R zS)))))))) ?_
  obtain ⟨v20,hv20,h⟩:=bindS h
  refine LH.seqT [(4,.sptr [.lst 5 (List.map Gq2.lv p0.Records)]),(8,.ptr 108 0),(11,.sptr [.I x8.ID,.lst 5 (List.map GItem.lv x8.Versions),.lst 1 (List.map LV.bool x8.Approved),.lst 3 (List.map GUse.lv v20),.bool x8.Withdrawn])] [(108,.box [.nil])] R (sMa R (sN (oFaS tf43_1 tk3 ts3 R R R (sN (oLd R tk3 ta3 (sMi R (sMi R (sN (oBd (vs:=[(0,.I p1.Version),(1,.I p2),(2,.I p3)]) tu88 tz88 R (lf tf88_0 ts3 tk3 R R R (lf tf88_1 ts3 tk3 R R R (lf tf88_2 ts3 tk3 R R R lf0))) (sN (oBS (f:=GUse.lv) (ys:=[(GUse.mk p1.Version p2 p3)]) te47 tr88 ts88 R R R GUse.ok (sN (oAp (f:=GUse.lv) te47 tr88 ts88 R R (prN R) R hv20 (sN (oFa tf49_3 tk47 ts47 R R (s_ (oSt R R R tk47 ts47 R R R (s0 ((Wk.trans (Wk.eq (el:=[(4,.sptr [.lst 5 (List.map Gq2.lv p0.Records)]),(8,.ptr 108 0),(11,.ptr 111 0)]) (ml:=[(108,.box [.nil]),(111,.box [.I x8.ID,.lst 5 (List.map GItem.lv x8.Versions),.lst 1 (List.map LV.bool x8.Approved),.arr 180 (List.length v20),.bool x8.Withdrawn]),(180,.arr 88 3 (List.map GUse.lv v20))]) R R R R) (Wk.trans (Wk.eq (el:=[(4,.sptr [.lst 5 (List.map Gq2.lv p0.Records)]),(8,.ptr 108 0),(11,.ptr 111 0)]) (ml:=[(108,.box [.nil]),(111,.box [.I x8.ID,.lst 5 (List.map GItem.lv x8.Versions),.lst 1 (List.map LV.bool x8.Approved),.arr 180 (List.length v20),.bool x8.Withdrawn]),(180,.arr 88 3 (List.map GUse.lv v20))]) R R R R) (Wk.trans (Wk.trans (Wk.frzBx (f:=GUse.lv) 180 88 3 v20 111 R R R (frAK R (frAK R (frAK R (frAZ (frAK R frA0))))) R R (prN R)) (Wk.eq (el:=[(4,.sptr [.lst 5 (List.map Gq2.lv p0.Records)]),(8,.ptr 108 0),(11,.ptr 111 0)]) (ml:=[(108,.box [.nil]),(111,.box [.I x8.ID,.lst 5 (List.map GItem.lv x8.Versions),.lst 1 (List.map LV.bool x8.Approved),.lst 3 (List.map GUse.lv v20),.bool x8.Withdrawn])]) R R R R)) (Wk.trans (Wk.frzB 111 [.I x8.ID,.lst 5 (List.map GItem.lv x8.Versions),.lst 1 (List.map LV.bool x8.Approved),.lst 3 (List.map GUse.lv v20),.bool x8.Withdrawn] R R R (prN R)) (Wk.eq R R R R)))))))))))))))))))))))) ?_
  obtain ⟨r21,hr21,h⟩:=bindS h
  refine LH.seqT [(8,.sptr [.lst 5 (List.map Gq2.lv r21.Records)]),(9,.I 0)] [] R (sN (oLdA R tk30 ta30 ts30 R R (sN (oLdA R tk49 ta49 ts49 R R (sN (oCP (args:=[.agg [.lst 5 (List.map Gq2.lv p0.Records)],.agg [.I x8.ID,.lst 5 (List.map GItem.lv x8.Versions),.lst 1 (List.map LV.bool x8.Approved),.lst 3 (List.map GUse.lv v20),.bool x8.Withdrawn]]) R isF71 R (sbR (sbR sbN)) (q146q hr21) R (s_ (oSt R R R tk30 ts30 R R R (sAi R (s0 ((Wk.trans (Wk.eq (el:=[(8,.ptr 108 0),(9,.I 0)]) (ml:=[(108,.box [.lst 5 (List.map Gq2.lv r21.Records)])]) R R R R) (Wk.trans (Wk.frzB 108 [.lst 5 (List.map Gq2.lv r21.Records)] R R R (prN R)) (Wk.eq R R R R)))))))))))))) (LH.ret ?_)
  obtain rfl:=oI h
  exact retE (aT Tryz.results48) (lrSA R tk30 ta30 ts30 R R (lrT R (lr0 ⟨memN mN,R,prK R,(Sub.tup (sbR (sbR sbN)))⟩)))

theorem q189q {F:Nat} {p0:GBank} {p1:Int} {p2:Bool} {r:GBank × Int} (h:q94q F p0 p1 p2=some r):LCall Tryz.prog 49 [.agg [.lst 5 (List.map Gq2.lv p0.Records)],.I p1,.bool p2] (Mem.of []) (.tup [.agg [.lst 5 (List.map Gq2.lv r.1.Records)],.I r.2]) (Mem.of []):=by
  unfold q94q at h
  refine bodyT Tryz.func49 R (nT Tryz.ntmps49 R) (LH.wk (Wk.eq (el:=[(0,.agg [.lst 5 (List.map Gq2.lv p0.Records)]),(1,.I p1),(2,.bool p2)]) (ml:=[]) R R R R) (LH.seqT [(1,.I p1),(2,.bool p2),(3,.sptr [.lst 5 (List.map Gq2.lv p0.Records)]),(6,.ptr 106 0)] [(106,.box [.nil])] R (sB (oBxR R R R R (sN (oAl (id:=106) R tz30 R R (sAi R zS))))) ?_))
  obtain ⟨r1,hr1,h⟩:=bindS h
  refine LH.seqT [(2,.bool p2),(3,.sptr [.lst 5 (List.map Gq2.lv p0.Records)]),(6,.ptr 106 0),(8,.I r1)] [(106,.box [.nil])] R (sN (oLdA R tk30 ta30 ts30 R R (sMi R (sN (oCP (args:=[.agg [.lst 5 (List.map Gq2.lv p0.Records)],.I p1]) R isF40 R (sbR (sbR sbN)) (q136q hr1) R (sAi R zS)))))) (LH.seq (LH.seqT [(2,.bool p2),(3,.sptr [.lst 5 (List.map Gq2.lv p0.Records)]),(6,.ptr 106 0),(8,.I r1),(14,.bool (decide (r1<0)))] [(106,.box [.nil])] R (sMi R (sN (oLt R R zS))) (LH.cond (t:=(decide (r1<0))) R (fun hc2=>?_) (fun hc2=>?_))))
  ·replace h:=iteT h hc2
   refine LH.seqT [(6,.sptr [.nil]),(7,.I 4)] [] R (sN (oBd (vs:=[]) tu30 tz30 R lf0 (s_ (oSt R R R tk30 ts30 R R R (sAi R (s0 ((Wk.trans (Wk.eq (el:=[(6,.ptr 106 0),(7,.I 4)]) (ml:=[(106,.box [.nil])]) R R R R) (Wk.trans (Wk.frzB 106 [.nil] R R R (prN R)) (Wk.eq R R R R)))))))))) (LH.ret (thenR ?_))
   obtain rfl:=oI h
   exact retE (aT Tryz.results49) (lrSA R tk30 ta30 ts30 R R (lrT R (lr0 ⟨memN mN,R,prK R,(Sub.tup (sbS (Sub.agg (sbL sbN)) (sbR sbN)))⟩)))
  replace h:=iteF h hc2
  refine LH.skip (thenN ?_)
  obtain ⟨x3,hx3,h⟩:=bindS h
  refine LH.seqT [(2,.bool p2),(3,.sptr [.lst 5 (List.map Gq2.lv p0.Records)]),(6,.ptr 106 0),(9,.ptr 109 0)] [(106,.box [.nil]),(109,.box [.I x3.ID,.lst 5 (List.map GItem.lv x3.Versions),.lst 1 (List.map LV.bool x3.Approved),.lst 3 (List.map GUse.lv x3.Uses),.bool x3.Withdrawn])] R (sN (oFaS tf30_0 tk28 ts28 R R R (sN (oLd R tk28 ta28 (sMi R (sN (oIx (f:=Gq2.lv) te28 tk49 ts49 R R Gq2.ok hx3 R (sN (oLdA R tk49 ta49 ts49 R R (sN (oAl (id:=109) R tz49 R R (s_ (oSt R R R tk49 ts49 R R R zS))))))))))))) (LH.seq (LH.seqT [(2,.bool p2),(3,.sptr [.lst 5 (List.map Gq2.lv p0.Records)]),(6,.ptr 106 0),(9,.ptr 109 0),(24,.bool (x3.Withdrawn == p2))] [(106,.box [.nil]),(109,.box [.I x3.ID,.lst 5 (List.map GItem.lv x3.Versions),.lst 1 (List.map LV.bool x3.Approved),.lst 3 (List.map GUse.lv x3.Uses),.bool x3.Withdrawn])] R (sN (oFa tf49_4 tk4 ts4 R R (sN (oLdP R R R R tk4 ta4 (sMb R (sN (oEqB R R tb4 zS))))))) (LH.cond (t:=(x3.Withdrawn == p2)) R (fun hc4=>?_) (fun hc4=>?_))))
  ·replace h:=iteT h hc4
   refine LH.seqT [(6,.sptr [.nil]),(7,.I 8)] [] R (sN (oBd (vs:=[]) tu30 tz30 R lf0 (s_ (oSt R R R tk30 ts30 R R R (sAi R (s0 ((Wk.trans (Wk.eq (el:=[(6,.ptr 106 0),(7,.I 8)]) (ml:=[(106,.box [.nil])]) R R R R) (Wk.trans (Wk.frzB 106 [.nil] R R R (prN R)) (Wk.eq R R R R)))))))))) (LH.ret (thenR ?_))
   obtain rfl:=oI h
   exact retE (aT Tryz.results49) (lrSA R tk30 ta30 ts30 R R (lrT R (lr0 ⟨memN mN,R,prK R,(Sub.tup (sbS (Sub.agg (sbL sbN)) (sbR sbN)))⟩)))
  replace h:=iteF h hc4
  refine LH.skip (thenN (LH.seqT [(3,.sptr [.lst 5 (List.map Gq2.lv p0.Records)]),(6,.ptr 106 0),(9,.sptr [.I x3.ID,.lst 5 (List.map GItem.lv x3.Versions),.lst 1 (List.map LV.bool x3.Approved),.lst 3 (List.map GUse.lv x3.Uses),.bool p2])] [(106,.box [.nil])] R (sMb R (sN (oFa tf49_4 tk4 ts4 R R (s_ (oSt R R R tk4 ts4 R R R (s0 ((Wk.trans (Wk.eq (el:=[(3,.sptr [.lst 5 (List.map Gq2.lv p0.Records)]),(6,.ptr 106 0),(9,.ptr 109 0)]) (ml:=[(106,.box [.nil]),(109,.box [.I x3.ID,.lst 5 (List.map GItem.lv x3.Versions),.lst 1 (List.map LV.bool x3.Approved),.lst 3 (List.map GUse.lv x3.Uses),.bool p2])]) R R R R) (Wk.trans (Wk.frzB 109 [.I x3.ID,.lst 5 (List.map GItem.lv x3.Versions),.lst 1 (List.map LV.bool x3.Approved),.lst 3 (List.map GUse.lv x3.Uses),.bool p2] R R R (prN R)) (Wk.eq R R R R)))))))))) ?_))
  obtain ⟨r5,hr5,h⟩:=bindS h
  refine LH.seqT [(6,.sptr [.lst 5 (List.map Gq2.lv r5.Records)]),(7,.I 0)] [] R (sN (oLdA R tk30 ta30 ts30 R R (sN (oLdA R tk49 ta49 ts49 R R (sN (oCP (args:=[.agg [.lst 5 (List.map Gq2.lv p0.Records)],.agg [.I x3.ID,.lst 5 (List.map GItem.lv x3.Versions),.lst 1 (List.map LV.bool x3.Approved),.lst 3 (List.map GUse.lv x3.Uses),.bool p2]]) R isF71 R (sbR (sbR sbN)) (q146q hr5) R (s_ (oSt R R R tk30 ts30 R R R (sAi R (s0 ((Wk.trans (Wk.eq (el:=[(6,.ptr 106 0),(7,.I 0)]) (ml:=[(106,.box [.lst 5 (List.map Gq2.lv r5.Records)])]) R R R R) (Wk.trans (Wk.frzB 106 [.lst 5 (List.map Gq2.lv r5.Records)] R R R (prN R)) (Wk.eq R R R R)))))))))))))) (LH.ret ?_)
  obtain rfl:=oI h
  exact retE (aT Tryz.results49) (lrSA R tk30 ta30 ts30 R R (lrT R (lr0 ⟨memN mN,R,prK R,(Sub.tup (sbR (sbR sbN)))⟩)))

theorem q235q {F:Nat} {p0:GBank} {p1:Gq0} {r:GBank × Int} (h:q170q F p0 p1=some r):LCall Tryz.prog 26 [.agg [.lst 5 (List.map Gq2.lv p0.Records)],Gq0.lv p1] (Mem.of []) (.tup [.agg [.lst 5 (List.map Gq2.lv r.1.Records)],.I r.2]) (Mem.of []):=by
  unfold q170q at h
  refine bodyT Tryz.func26 R (nT Tryz.ntmps26 R) (LH.wk (Wk.eq (el:=[(0,.agg [.lst 5 (List.map Gq2.lv p0.Records)]),(1,Gq0.lv p1)]) (ml:=[]) R R R R) (LH.seqT [(2,.sptr [.lst 5 (List.map Gq2.lv p0.Records)]),(3,.sptr (Gq0.lv p1).cells),(4,.ptr 104 0)] [(104,.box [.nil])] R (sB (oBxR R R R R (sB (oBxR R R R R (sN (oAl (id:=104) R tz30 R R (sAi R zS))))))) (LH.seq ?_)))
  obtain ⟨r1,hr1,h⟩:=bindS h
  refine LH.seqT [(2,.sptr [.lst 5 (List.map Gq2.lv p0.Records)]),(3,.sptr (Gq0.lv p1).cells),(4,.ptr 104 0),(8,.bool (!r1))] [(104,.box [.nil])] R (sN (oLdA R tk30 ta30 ts30 R R (sN (oCP (args:=[.agg [.lst 5 (List.map Gq2.lv p0.Records)]]) R isF38 R (sbR sbN) (q236q hr1) R (sN (oNot R zS)))))) (LH.cond (t:=(!r1)) R (fun hc2=>?_) (fun hc2=>?_))
  ·replace h:=iteT h hc2
   refine LH.seqT [(4,.sptr [.nil]),(5,.I 1)] [] R (sN (oBd (vs:=[]) tu30 tz30 R lf0 (s_ (oSt R R R tk30 ts30 R R R (sAi R (s0 ((Wk.trans (Wk.eq (el:=[(4,.ptr 104 0),(5,.I 1)]) (ml:=[(104,.box [.nil])]) R R R R) (Wk.trans (Wk.frzB 104 [.nil] R R R (prN R)) (Wk.eq R R R R)))))))))) (LH.ret (thenR ?_))
   obtain rfl:=oI h
   exact retE (aT Tryz.results26) (lrSA R tk30 ta30 ts30 R R (lrT R (lr0 ⟨memN mN,R,prK R,(Sub.tup (sbS (Sub.agg (sbL sbN)) (sbR sbN)))⟩)))
  replace h:=iteF h hc2
  refine LH.skip (thenN (LH.wk (Wk.eq (el:=[(2,.sptr [.lst 5 (List.map Gq2.lv p0.Records)]),(3,.sptr (Gq0.lv p1).cells),(4,.ptr 104 0)]) (ml:=[(104,.box [.nil])]) R R R R) (LH.seq (LH.seqT [(2,.sptr [.lst 5 (List.map Gq2.lv p0.Records)]),(3,.sptr (Gq0.lv p1).cells),(4,.ptr 104 0),(11,.I p1.Kind)] [(104,.box [.nil])] R (sN (oFaS tf63_1 tk3 ts3 R R R (sN (oLd R tk3 ta3 zS)))) (LH.block (LH.seqT [(2,.sptr [.lst 5 (List.map Gq2.lv p0.Records)]),(3,.sptr (Gq0.lv p1).cells),(4,.ptr 104 0),(11,.I p1.Kind),(12,.bool (p1.Kind == 1))] [(104,.box [.nil])] R (sN (oEq R R (sAb R zS))) (LH.cond (t:=(p1.Kind == 1)) R (fun hc3=>?_) (fun hc3=>?_))))))))
  ·replace h:=iteT h hc3
   obtain ⟨r4,hr4,h⟩:=bindS h
   refine LH.seqT [(4,.sptr [.lst 5 (List.map Gq2.lv r4.1.Records)]),(5,.I r4.2)] [] R (sN (oLdA R tk30 ta30 ts30 R R (sN (oFaS tf63_2 tk54 ts54 R R R (sN (oLdA R tk54 ta54 ts54 R R (sN (oCP (args:=[.agg [.lst 5 (List.map Gq2.lv p0.Records)],GItem.lv p1.Item]) R isF45 R (sbR (sbR sbN)) (q237q hr4) R (sN (oEx R R (sN (oEx R R (s_ (oSt R R R tk30 ts30 R R R (sAi R (s0 ((Wk.trans (Wk.eq (el:=[(4,.ptr 104 0),(5,.I r4.2)]) (ml:=[(104,.box [.lst 5 (List.map Gq2.lv r4.1.Records)])]) R R R R) (Wk.trans (Wk.frzB 104 [.lst 5 (List.map Gq2.lv r4.1.Records)] R R R (prN R)) (Wk.eq R R R R)))))))))))))))))))) (LH.ret (blockR (thenR ?_)))
   obtain rfl:=oI h
   exact retE (aT Tryz.results26) (lrSA R tk30 ta30 ts30 R R (lrT R (lr0 ⟨memN mN,R,prK R,(Sub.tup (sbR (sbR sbN)))⟩)))
  replace h:=iteF h hc3
  refine LH.seqT [(2,.sptr [.lst 5 (List.map Gq2.lv p0.Records)]),(3,.sptr (Gq0.lv p1).cells),(4,.ptr 104 0),(11,.I p1.Kind),(20,.bool (p1.Kind == 2))] [(104,.box [.nil])] R (sN (oEq R R (sAb R zS))) (LH.cond (t:=(p1.Kind == 2)) R (fun hc5=>?_) (fun hc5=>?_))
  ·replace h:=iteT h hc5
   obtain ⟨r6,hr6,h⟩:=bindS h
   refine LH.seqT [(4,.sptr [.lst 5 (List.map Gq2.lv r6.1.Records)]),(5,.I r6.2)] [] R (sN (oLdA R tk30 ta30 ts30 R R (sN (oFaS tf63_2 tk54 ts54 R R R (sN (oLdA R tk54 ta54 ts54 R R (sN (oCP (args:=[.agg [.lst 5 (List.map Gq2.lv p0.Records)],GItem.lv p1.Item]) R isF46 R (sbR (sbR sbN)) (q230q hr6) R (sN (oEx R R (sN (oEx R R (s_ (oSt R R R tk30 ts30 R R R (sAi R (s0 ((Wk.trans (Wk.eq (el:=[(4,.ptr 104 0),(5,.I r6.2)]) (ml:=[(104,.box [.lst 5 (List.map Gq2.lv r6.1.Records)])]) R R R R) (Wk.trans (Wk.frzB 104 [.lst 5 (List.map Gq2.lv r6.1.Records)] R R R (prN R)) (Wk.eq R R R R)))))))))))))))))))) (LH.ret (blockR (thenR ?_)))
   obtain rfl:=oI h
   exact retE (aT Tryz.results26) (lrSA R tk30 ta30 ts30 R R (lrT R (lr0 ⟨memN mN,R,prK R,(Sub.tup (sbR (sbR sbN)))⟩)))
  replace h:=iteF h hc5
  refine LH.seqT [(2,.sptr [.lst 5 (List.map Gq2.lv p0.Records)]),(3,.sptr (Gq0.lv p1).cells),(4,.ptr 104 0),(11,.I p1.Kind),(28,.bool (p1.Kind == 3))] [(104,.box [.nil])] R (sN (oEq R R (sAb R zS))) (LH.cond (t:=(p1.Kind == 3)) R (fun hc7=>?_) (fun hc7=>?_))
  ·replace h:=iteT h hc7
   obtain ⟨r8,hr8,h⟩:=bindS h
   refine LH.seqT [(4,.sptr [.lst 5 (List.map Gq2.lv r8.1.Records)]),(5,.I r8.2)] [] R (sN (oLdA R tk30 ta30 ts30 R R (sN (oFaS tf63_3 tk43 ts43 R R R (sN (oLdA R tk43 ta43 ts43 R R (sN (oCP (args:=[.agg [.lst 5 (List.map Gq2.lv p0.Records)],.agg [.I p1.Ref.ID,.I p1.Ref.Version]]) R isF47 R (sbR (sbR sbN)) (q225q hr8) R (sN (oEx R R (sN (oEx R R (s_ (oSt R R R tk30 ts30 R R R (sAi R (s0 ((Wk.trans (Wk.eq (el:=[(4,.ptr 104 0),(5,.I r8.2)]) (ml:=[(104,.box [.lst 5 (List.map Gq2.lv r8.1.Records)])]) R R R R) (Wk.trans (Wk.frzB 104 [.lst 5 (List.map Gq2.lv r8.1.Records)] R R R (prN R)) (Wk.eq R R R R)))))))))))))))))))) (LH.ret (blockR (thenR ?_)))
   obtain rfl:=oI h
   exact retE (aT Tryz.results26) (lrSA R tk30 ta30 ts30 R R (lrT R (lr0 ⟨memN mN,R,prK R,(Sub.tup (sbR (sbR sbN)))⟩)))
  replace h:=iteF h hc7
  refine LH.seqT [(2,.sptr [.lst 5 (List.map Gq2.lv p0.Records)]),(3,.sptr (Gq0.lv p1).cells),(4,.ptr 104 0),(11,.I p1.Kind),(36,.bool (p1.Kind == 4))] [(104,.box [.nil])] R (sN (oEq R R (sAb R zS))) (LH.cond (t:=(p1.Kind == 4)) R (fun hc9=>?_) (fun hc9=>?_))
  ·replace h:=iteT h hc9
   obtain ⟨r10,hr10,h⟩:=bindS h
   refine LH.seqT [(4,.sptr [.lst 5 (List.map Gq2.lv r10.1.Records)]),(5,.I r10.2)] [] R (sN (oLdA R tk30 ta30 ts30 R R (sN (oFaS tf63_3 tk43 ts43 R R R (sN (oLdA R tk43 ta43 ts43 R R (sN (oFaS tf63_4 tk3 ts3 R R R (sN (oLd R tk3 ta3 (sN (oFaS tf63_0 tk61 ts61 R R R (sN (oFaS tf61_0 tk3 ts3 R R R (sN (oLd R tk3 ta3 (sN (oCP (args:=[.agg [.lst 5 (List.map Gq2.lv p0.Records)],.agg [.I p1.Ref.ID,.I p1.Ref.Version],.I p1.Form,.I p1.Stamp.Time]) R isF48 R (sbR (sbR (sbR (sbR sbN)))) (q249q hr10) R (sN (oEx R R (sN (oEx R R (s_ (oSt R R R tk30 ts30 R R R (sAi R (s0 ((Wk.trans (Wk.eq (el:=[(4,.ptr 104 0),(5,.I r10.2)]) (ml:=[(104,.box [.lst 5 (List.map Gq2.lv r10.1.Records)])]) R R R R) (Wk.trans (Wk.frzB 104 [.lst 5 (List.map Gq2.lv r10.1.Records)] R R R (prN R)) (Wk.eq R R R R)))))))))))))))))))))))))))))) (LH.ret (blockR (thenR ?_)))
   obtain rfl:=oI h
   exact retE (aT Tryz.results26) (lrSA R tk30 ta30 ts30 R R (lrT R (lr0 ⟨memN mN,R,prK R,(Sub.tup (sbR (sbR sbN)))⟩)))
  replace h:=iteF h hc9
  refine LH.seqT [(2,.sptr [.lst 5 (List.map Gq2.lv p0.Records)]),(3,.sptr (Gq0.lv p1).cells),(4,.ptr 104 0),(11,.I p1.Kind),(49,.bool (p1.Kind == 5))] [(104,.box [.nil])] R (sN (oEq R R (sAb R zS))) (LH.cond (t:=(p1.Kind == 5)) R (fun hc11=>?_) (fun hc11=>?_))
  ·replace h:=iteT h hc11
   obtain ⟨r12,hr12,h⟩:=bindS h
   refine LH.seqT [(4,.sptr [.lst 5 (List.map Gq2.lv r12.1.Records)]),(5,.I r12.2)] [] R (sN (oLdA R tk30 ta30 ts30 R R (sN (oFaS tf63_3 tk43 ts43 R R R (sN (oFaS tf43_0 tk3 ts3 R R R (sN (oLd R tk3 ta3 (sN (oCP (args:=[.agg [.lst 5 (List.map Gq2.lv p0.Records)],.I p1.Ref.ID,.bool true]) R isF49 R (sbR (sbR (sbR sbN))) (q189q hr12) R (sN (oEx R R (sN (oEx R R (s_ (oSt R R R tk30 ts30 R R R (sAi R (s0 ((Wk.trans (Wk.eq (el:=[(4,.ptr 104 0),(5,.I r12.2)]) (ml:=[(104,.box [.lst 5 (List.map Gq2.lv r12.1.Records)])]) R R R R) (Wk.trans (Wk.frzB 104 [.lst 5 (List.map Gq2.lv r12.1.Records)] R R R (prN R)) (Wk.eq R R R R)))))))))))))))))))))) (LH.ret (blockR (thenR ?_)))
   obtain rfl:=oI h
   exact retE (aT Tryz.results26) (lrSA R tk30 ta30 ts30 R R (lrT R (lr0 ⟨memN mN,R,prK R,(Sub.tup (sbR (sbR sbN)))⟩)))
  replace h:=iteF h hc11
  refine LH.seqT [(2,.sptr [.lst 5 (List.map Gq2.lv p0.Records)]),(3,.sptr (Gq0.lv p1).cells),(4,.ptr 104 0),(58,.bool (p1.Kind == 6))] [(104,.box [.nil])] R (sN (oEq R R (sAb R zS))) (LH.cond (t:=(p1.Kind == 6)) R (fun hc13=>?_) (fun hc13=>?_))
  ·replace h:=iteT h hc13
   obtain ⟨r14,hr14,h⟩:=bindS h
   refine LH.seqT [(4,.sptr [.lst 5 (List.map Gq2.lv r14.1.Records)]),(5,.I r14.2)] [] R (sN (oLdA R tk30 ta30 ts30 R R (sN (oFaS tf63_3 tk43 ts43 R R R (sN (oFaS tf43_0 tk3 ts3 R R R (sN (oLd R tk3 ta3 (sN (oCP (args:=[.agg [.lst 5 (List.map Gq2.lv p0.Records)],.I p1.Ref.ID,.bool false]) R isF49 R (sbR (sbR (sbR sbN))) (q189q hr14) R (sN (oEx R R (sN (oEx R R (s_ (oSt R R R tk30 ts30 R R R (sAi R (s0 ((Wk.trans (Wk.eq (el:=[(4,.ptr 104 0),(5,.I r14.2)]) (ml:=[(104,.box [.lst 5 (List.map Gq2.lv r14.1.Records)])]) R R R R) (Wk.trans (Wk.frzB 104 [.lst 5 (List.map Gq2.lv r14.1.Records)] R R R (prN R)) (Wk.eq R R R R)))))))))))))))))))))) (LH.ret (blockR (thenR ?_)))
   obtain rfl:=oI h
   exact retE (aT Tryz.results26) (lrSA R tk30 ta30 ts30 R R (lrT R (lr0 ⟨memN mN,R,prK R,(Sub.tup (sbR (sbR sbN)))⟩)))
  replace h:=iteF h hc13
  refine LH.skip (blockN (thenN (LH.seqT [(4,.sptr [.nil]),(5,.I 2)] [] R (sN (oBd (vs:=[]) tu30 tz30 R lf0 (s_ (oSt R R R tk30 ts30 R R R (sAi R (s0 ((Wk.trans (Wk.eq (el:=[(4,.ptr 104 0),(5,.I 2)]) (ml:=[(104,.box [.nil])]) R R R R) (Wk.trans (Wk.frzB 104 [.nil] R R R (prN R)) (Wk.eq R R R R)))))))))) (LH.ret ?_))))
  obtain rfl:=oI h
  exact retE (aT Tryz.results26) (lrSA R tk30 ta30 ts30 R R (lrT R (lr0 ⟨memN mN,R,prK R,(Sub.tup (sbS (Sub.agg (sbL sbN)) (sbR sbN)))⟩)))

theorem q206q {F:Nat} {p0:List Gq0} {p1:Int} {r:GBank × List Gq3 × Int} (h:q164q F p0 p1=some r):LCall Tryz.prog 11 [.lst 12 (List.map Gq0.lv p0),.I p1] (Mem.of []) (.tup [.agg [.lst 5 (List.map Gq2.lv r.1.Records)],.lst 3 (List.map Gq3.lv r.2.1),.I r.2.2]) (Mem.of []):=by
  unfold q164q at h
  refine bodyT Tryz.func11 R (nT Tryz.ntmps11 R) (LH.wk (Wk.eq (el:=[(0,.lst 12 (List.map Gq0.lv p0)),(1,.I p1)]) (ml:=[]) R R R R) (LH.seqT [(0,.lst 12 (List.map Gq0.lv p0)),(1,.I p1),(4,.ptr 104 0)] [(104,.box [.nil])] R (sN (oAl (id:=104) R tz30 R R (sAn R (sAi R zS)))) ?_))
  obtain ⟨r1,hr1,h⟩:=bindS h
  refine LH.seqT [(1,.I p1),(4,.ptr 104 0),(7,.lst 12 (List.map Gq0.lv r1.1)),(8,.I r1.2)] [(104,.box [.nil])] R (sMl R (sN (oCP (args:=[.lst 12 (List.map Gq0.lv p0)]) R isF34 R (sbR sbN) (q214q hr1) R (sMt R (sN (oEx R R (sN (oEx R R (sAl R (sAi R zS)))))))))) (LH.seq (LH.seqT [(1,.I p1),(4,.ptr 104 0),(7,.lst 12 (List.map Gq0.lv r1.1)),(8,.I r1.2),(20,.bool (r1.2 != 0))] [(104,.box [.nil])] R (sMi R (sN (oNe R R zS))) (LH.cond (t:=(r1.2 != 0)) R (fun hc2=>?_) (fun hc2=>?_))))
  ·replace h:=iteT h hc2
   refine LH.seqT [(4,.sptr [.nil]),(5,.nil),(6,.I r1.2)] [] R (sN (oBd (vs:=[]) tu30 tz30 R lf0 (sMi R (s_ (oSt R R R tk30 ts30 R R R (sAn R (sAi R (s0 ((Wk.trans (Wk.eq (el:=[(4,.ptr 104 0),(5,.nil),(6,.I r1.2)]) (ml:=[(104,.box [.nil])]) R R R R) (Wk.trans (Wk.frzB 104 [.nil] R R R (prN R)) (Wk.eq R R R R)))))))))))) (LH.ret (thenR ?_))
   obtain rfl:=oI h
   exact retE (aT Tryz.results11) (lrSA R tk30 ta30 ts30 R R (lrT R (lrT R (lr0 ⟨memN mN,R,prK R,(Sub.tup (sbS (Sub.agg (sbL sbN)) (sbL (sbR sbN))))⟩))))
  replace h:=iteF h hc2
  refine LH.skip (thenN (LH.seqT [(1,.I p1),(4,.ptr 104 0),(7,.lst 12 (List.map Gq0.lv r1.1)),(9,.ptr 109 0)] [(104,.box [.nil]),(109,.box [.nil])] R (sN (oAl (id:=109) R tz30 R R zS)) (LH.seqT [(1,.I p1),(4,.ptr 104 0),(7,.lst 12 (List.map Gq0.lv r1.1)),(9,.ptr 109 0),(10,.nil)] [(104,.box [.nil]),(109,.box [.nil])] R (sAn R zS) (LH.seq (LH.seqT [(1,.I p1),(4,.ptr 104 0),(7,.lst 12 (List.map Gq0.lv r1.1)),(9,.ptr 109 0),(10,.nil),(11,.I 0)] [(104,.box [.nil]),(109,.box [.nil])] R (sAi R zS) (LH.block (LH.wk ((Wk.trans (Wk.eq (el:=[(1,.I p1),(4,.ptr 104 0),(7,.lst 12 (List.map Gq0.lv r1.1)),(9,.ptr 109 0),(10,.nil),(11,.I 0)]) (ml:=[(104,.box [.nil]),(109,.box [.nil])]) R R R R) (Wk.trans (Wk.eq (el:=[(1,.I p1),(4,.ptr 104 0),(7,.lst 12 (List.map Gq0.lv r1.1)),(9,.ptr 109 0),(10,.nil),(11,.I 0)]) (ml:=[(104,.box [.nil]),(109,.box [.nil])]) R R R R) (Wk.trans (Wk.ownL (el':=[(1,.I p1),(4,.ptr 104 0),(7,.lst 12 (List.map Gq0.lv r1.1)),(9,.ptr 109 0),(10,.arr 165 (List.length ([]:List Gq3))),(11,.I 0)]) 165 84 3 R R (wK (wK (wK (wK (wO (wK wN))))))) (Wk.trans (Wk.eq (el:=[(1,.I p1),(4,.ptr 104 0),(7,.lst 12 (List.map Gq0.lv r1.1)),(9,.ptr 109 0),(10,.arr 165 (List.length ([]:List Gq3))),(11,.I 0)]) (ml:=[(104,.box [.nil]),(109,.box [.nil]),(165,.arr 84 3 (List.map Gq3.lv ([]:List Gq3)))]) R R R R) (Wk.trans (Wk.ownBx 10090 49 5 109 0 R R R R R (prN R)) (Wk.trans (Wk.eq (el:=[(1,.I p1),(4,.ptr 104 0),(7,.lst 12 (List.map Gq0.lv r1.1)),(9,.ptr 109 0),(10,.arr 165 (List.length ([]:List Gq3))),(11,.I 0)]) (ml:=[(104,.box [.nil]),(109,.box [.arr 10090 (List.length ([]:List Gq2))]),(165,.arr 84 3 (List.map Gq3.lv ([]:List Gq3))),(10090,.arr 49 5 (List.map Gq2.lv ([]:List Gq2)))]) R R R R) (Wk.trans (Wk.trans (Wk.frzBx (f:=Gq2.lv) 10090 49 5 ([]:List Gq2) 109 R R R (frAZ frA0) R R (prN R)) (Wk.eq (el:=[(1,.I p1),(4,.ptr 104 0),(7,.lst 12 (List.map Gq0.lv r1.1)),(9,.ptr 109 0),(10,.arr 165 (List.length ([]:List Gq3))),(11,.I 0)]) (ml:=[(104,.box [.nil]),(109,.box [.lst 5 (List.map Gq2.lv ([]:List Gq2))]),(165,.arr 84 3 (List.map Gq3.lv ([]:List Gq3)))]) R R R R)) (Wk.eq (el:=[(1,.I p1),(4,.ptr 104 0),(7,.lst 12 (List.map Gq0.lv r1.1)),(9,.ptr 109 0),(10,.arr 165 (List.length ([]:List Gq3))),(11,.I 0)]) (ml:=[(104,.box [.nil]),(109,.box [.lst 5 (List.map Gq2.lv ([]:List Gq2))]),(165,.arr 84 3 (List.map Gq3.lv ([]:List Gq3)))]) R R R R))))))))) (LH.loop (fun n e m=>∃ (n3:Int) (l4:List Gq2) (l5:List Gq3),q87q F p1 r1 n n3 l4 l5=some r∧e=Env.of [(1,.I p1),(4,.ptr 104 0),(7,.lst 12 (List.map Gq0.lv r1.1)),(9,.ptr 109 0),(10,.arr 165 (List.length l5)),(11,.I n3)]∧m=Mem.of [(104,.box [.nil]),(109,.box [.lst 5 (List.map Gq2.lv l4)]),(165,.arr 84 3 (List.map Gq3.lv l5))]) F ⟨0,([]:List Gq2),([]:List Gq3),h,R,R⟩ ?_))))))))
  clear h
  rintro n e m ⟨n3,l4,l5,h,rfl,rfl⟩
  rcases n with _ | n
  · cases (show Option.none=some _ from h)
  obtain ⟨rec1,hrec1⟩:∃ f,f=q87q F p1 r1 n:=⟨_,rfl⟩
  replace h:q124q F p1 r1 rec1 n3 l4 l5=some r:=hrec1 ▸ h
  unfold q124q at h
  refine LH.seq (LH.seqT [(1,.I p1),(4,.ptr 104 0),(7,.lst 12 (List.map Gq0.lv r1.1)),(9,.ptr 109 0),(10,.arr 165 (List.length l5)),(11,.I n3),(26,.bool (decide (n3<(r1.1.length:Int))))] [(104,.box [.nil]),(109,.box [.lst 5 (List.map Gq2.lv l4)]),(165,.arr 84 3 (List.map Gq3.lv l5))] R (sMi R (sMl R (sN (oLnL (f:=Gq0.lv) te25 R (sN (oLt R R zS)))))) (LH.cond (t:=(decide (n3<(r1.1.length:Int)))) R (fun hc6=>?_) (fun hc6=>?_)))
  ·replace h:=iteT h hc6
   refine LH.skip (thenN (LH.wk (Wk.eq (el:=[(1,.I p1),(4,.ptr 104 0),(7,.lst 12 (List.map Gq0.lv r1.1)),(9,.ptr 109 0),(10,.arr 165 (List.length l5)),(11,.I n3)]) (ml:=[(104,.box [.nil]),(109,.box [.lst 5 (List.map Gq2.lv l4)]),(165,.arr 84 3 (List.map Gq3.lv l5))]) R R R R) (LH.seq (LH.block (LH.seq ?_)))))
   obtain ⟨x7,hx7,h⟩:=bindS h
   refine LH.seqT [(1,.I p1),(4,.ptr 104 0),(7,.lst 12 (List.map Gq0.lv r1.1)),(9,.ptr 109 0),(10,.arr 165 (List.length l5)),(11,.I n3),(36,.bool (decide (x7.Stamp.Time > p1)))] [(104,.box [.nil]),(109,.box [.lst 5 (List.map Gq2.lv l4)]),(165,.arr 84 3 (List.map Gq3.lv l5))] R (sMl R (sMi R (sN (oIx (f:=Gq0.lv) te25 tk63 ts63 R R Gq0.ok hx7 R (sN (oFaS tf63_0 tk61 ts61 R R R (sN (oFaS tf61_0 tk3 ts3 R R R (sN (oLd R tk3 ta3 (sMi R (sN (oGt R R zS))))))))))))) (LH.cond (t:=(decide (x7.Stamp.Time > p1))) R (fun hc8=>?_) (fun hc8=>?_))
   ·replace h:=iteT h hc8
    refine LH.exit (thenX (blockH (thenN (LH.loneT [(1,.I p1),(4,.ptr 104 0),(7,.lst 12 (List.map Gq0.lv r1.1)),(9,.ptr 109 0),(10,.arr 165 (List.length l5)),(11,.I (i64 (n3+1)))] [(104,.box [.nil]),(109,.box [.lst 5 (List.map Gq2.lv l4)]),(165,.arr 84 3 (List.map Gq3.lv l5))] R (sMi R (sN (oAdd R R (sAi R zS)))) ?_))))
    exact roundI ⟨(i64 (n3+1)),l4,l5,hrec1 ▸ h,R,R⟩ (Wk.eq R R R R)
   replace h:=iteF h hc8
   refine LH.skip (thenN ?_)
   obtain ⟨x9,hx9,h⟩:=bindS h
   obtain ⟨r10,hr10,h⟩:=bindS h
   refine LH.seqJM mixed [] [1109,0,0,0,0,0,0,0,0,2,100112,0] [(1,.I p1),(4,.ptr 104 0),(7,.lst 12 (List.map Gq0.lv r1.1)),(9,.ptr 109 0),(10,.arr 165 (List.length l5)),(11,.I n3),(12,.sptr [.lst 5 (List.map Gq2.lv r10.1.Records)]),(13,.I r10.2)] [(104,.box [.nil]),(109,.box [.lst 5 (List.map Gq2.lv l4)]),(165,.arr 84 3 (List.map Gq3.lv l5))] R R (by kernel_rfl) (mD R R R (fun _ b _ d=>oLdPA R b R tk30 ta30 ts30 R R d) (mMl R (mMi R (mN0 (oIx (f:=Gq0.lv) te25 tk63 ts63 R R Gq0.ok hx9 R ⟨R,mN0 (oLdA R tk63 ta63 ts63 R R ⟨R,mN0 (oCP (args:=[.agg [.lst 5 (List.map Gq2.lv l4)],Gq0.lv x9]) R isF26 R (sbR (sbR sbN)) (q235q hr10) R ⟨R,mMt R (mN0 (oEx R R ⟨R,mN0 (oEx R R ⟨R,mN2 (oAl (id:=112) R tz30 R R (mS R R R (fun _ b _ d=>oSt R R R tk30 ts30 b R R d) (mAi R (m0 ((Wk.trans (Wk.eq (el:=[(1,.I p1),(4,.ptr 104 0),(7,.lst 12 (List.map Gq0.lv r1.1)),(9,.ptr 109 0),(10,.arr 165 (List.length l5)),(11,.I n3),(12,.ptr 112 0),(13,.I r10.2)]) (ml:=[(104,.box [.nil]),(109,.box [.lst 5 (List.map Gq2.lv l4)]),(112,.box [.lst 5 (List.map Gq2.lv r10.1.Records)]),(165,.arr 84 3 (List.map Gq3.lv l5))]) R R R R) (Wk.trans (Wk.frzB 112 [.lst 5 (List.map Gq2.lv r10.1.Records)] R R R (prN R)) (Wk.eq R R R R))))))))⟩)⟩))⟩)⟩)⟩))))) (LH.seq (LH.seqT [(1,.I p1),(4,.ptr 104 0),(7,.lst 12 (List.map Gq0.lv r1.1)),(9,.ptr 109 0),(10,.arr 165 (List.length l5)),(11,.I n3),(12,.sptr [.lst 5 (List.map Gq2.lv r10.1.Records)]),(13,.I r10.2),(47,.bool (r10.2 != 0))] [(104,.box [.nil]),(109,.box [.lst 5 (List.map Gq2.lv l4)]),(165,.arr 84 3 (List.map Gq3.lv l5))] R (sMi R (sN (oNe R R zS))) (LH.cond (t:=(r10.2 != 0)) R (fun hc11=>?_) (fun hc11=>?_))))
   ·replace h:=iteT h hc11
    obtain ⟨x12,hx12,h⟩:=bindS h
    obtain ⟨x13,hx13,h⟩:=bindS h
    obtain ⟨v14,hv14,h⟩:=bindS h
    refine LH.seqJM mixed [] [0,0,0,0,0,0,0,0,0,0,0,0,0,0,0,0,0,2,0] [(1,.I p1),(4,.ptr 104 0),(7,.lst 12 (List.map Gq0.lv r1.1)),(9,.ptr 109 0),(10,.arr 165 (List.length v14)),(11,.I n3)] [(104,.box [.nil]),(109,.box [.lst 5 (List.map Gq2.lv l4)]),(165,.arr 84 3 (List.map Gq3.lv v14))] R R (by kernel_rfl) ?_ ?_
    ·exact mMa R (mMl R (mMi R (mN0 (oIx (f:=Gq0.lv) te25 tk63 ts63 R R Gq0.ok hx12 R ⟨R,mN0 (oFaS tf63_0 tk61 ts61 R R R ⟨R,mN0 (oFaS tf61_1 tk3 ts3 R R R ⟨R,mN0 (oLd R tk3 ta3 ⟨R,mMl R (mMi R (mN0 (oIx (f:=Gq0.lv) te25 tk63 ts63 R R Gq0.ok hx13 R ⟨R,mN0 (oFaS tf63_0 tk61 ts61 R R R ⟨R,mN0 (oFaS tf61_2 tk3 ts3 R R R ⟨R,mN0 (oLd R tk3 ta3 ⟨R,mN0 (oBd (vs:=[(0,.I x12.Stamp.Source),(1,.I x13.Stamp.Seq)]) tu82 tz82 R (lf tf82_0 ts3 tk3 R R R (lf tf82_1 ts3 tk3 R R R lf0)) ⟨R,mMi R (mN0 (oBd (vs:=[(0,.agg [.I x12.Stamp.Source,.I x13.Stamp.Seq]),(1,.I r10.2)]) tu84 tz84 R (lf tf84_0 ts82 tk82 R R R (lf tf84_1 ts32 tk32 R R R lf0)) ⟨R,mN0 (oBS (f:=Gq3.lv) (ys:=[(Gq3.mk (Gq1.mk x12.Stamp.Source x13.Stamp.Seq) r10.2)]) te31 tr84 ts84 R R R Gq3.ok ⟨R,mN2 (oAp (f:=Gq3.lv) te31 tr84 ts84 R R (prN R) R hv14 (mAa R zM))⟩)⟩))⟩)⟩)⟩)⟩)⟩)))⟩)⟩)⟩)⟩))))
    refine LH.exit (thenX (blockH (thenN (LH.loneT [(1,.I p1),(4,.ptr 104 0),(7,.lst 12 (List.map Gq0.lv r1.1)),(9,.ptr 109 0),(10,.arr 165 (List.length v14)),(11,.I (i64 (n3+1)))] [(104,.box [.nil]),(109,.box [.lst 5 (List.map Gq2.lv l4)]),(165,.arr 84 3 (List.map Gq3.lv v14))] R (sMi R (sN (oAdd R R (sAi R zS)))) ?_))))
    exact roundI ⟨(i64 (n3+1)),l4,v14,hrec1 ▸ h,R,R⟩ (Wk.eq R R R R)
   replace h:=iteF h hc11
   refine LH.skip (thenN (LH.loneT [(1,.I p1),(4,.ptr 104 0),(7,.lst 12 (List.map Gq0.lv r1.1)),(9,.ptr 109 0),(10,.arr 165 (List.length l5)),(11,.I n3)] [(104,.box [.nil]),(109,.box [.lst 5 (List.map Gq2.lv r10.1.Records)]),(165,.arr 84 3 (List.map Gq3.lv l5))] R (sN (oLdA R tk30 ta30 ts30 R R (s_ (oSt R R R tk30 ts30 R R R zS)))) (blockN (thenN (LH.loneT [(1,.I p1),(4,.ptr 104 0),(7,.lst 12 (List.map Gq0.lv r1.1)),(9,.ptr 109 0),(10,.arr 165 (List.length l5)),(11,.I (i64 (n3+1)))] [(104,.box [.nil]),(109,.box [.lst 5 (List.map Gq2.lv r10.1.Records)]),(165,.arr 84 3 (List.map Gq3.lv l5))] R (sMi R (sN (oAdd R R (sAi R zS)))) ?_)))))
   exact roundI ⟨(i64 (n3+1)),r10.1.Records,l5,hrec1 ▸ h,R,R⟩ (Wk.eq R R R R)
  replace h:=iteF h hc6
  refine LH.exit (thenX (roundX (blockH (thenN (LH.wk ((Wk.trans (Wk.eq (el:=[(4,.ptr 104 0),(9,.ptr 109 0),(10,.arr 165 (List.length l5))]) (ml:=[(104,.box [.nil]),(109,.box [.lst 5 (List.map Gq2.lv l4)]),(165,.arr 84 3 (List.map Gq3.lv l5))]) R R R R) (Wk.trans (Wk.frzL (f:=Gq3.lv) (el':=[(4,.ptr 104 0),(9,.ptr 109 0),(10,.lst 3 (List.map Gq3.lv l5))]) 165 84 3 l5 R R (prN R) (fK R (fK R (fZ fN)))) (Wk.trans (Wk.frzB 109 [.lst 5 (List.map Gq2.lv l4)] R R R (prN R)) (Wk.eq (el:=[(4,.ptr 104 0),(9,.sptr [.lst 5 (List.map Gq2.lv l4)]),(10,.lst 3 (List.map Gq3.lv l5))]) (ml:=[(104,.box [.nil])]) R R R R))))) (LH.seqT [(4,.sptr [.lst 5 (List.map Gq2.lv l4)]),(5,.lst 3 (List.map Gq3.lv l5)),(6,.I 0)] [] R (sN (oLdA R tk30 ta30 ts30 R R (sMl R (s_ (oSt R R R tk30 ts30 R R R (sAl R (sAi R (s0 ((Wk.trans (Wk.eq (el:=[(4,.ptr 104 0),(5,.lst 3 (List.map Gq3.lv l5)),(6,.I 0)]) (ml:=[(104,.box [.lst 5 (List.map Gq2.lv l4)])]) R R R R) (Wk.trans (Wk.frzB 104 [.lst 5 (List.map Gq2.lv l4)] R R R (prN R)) (Wk.eq R R R R)))))))))))) (LH.ret ?_)))))))
  obtain rfl:=oI h
  exact retE (aT Tryz.results11) (lrSA R tk30 ta30 ts30 R R (lrT R (lrT R (lr0 ⟨memN mN,R,prK R,(Sub.tup (sbR (sbR (sbR sbN))))⟩))))

theorem q181q {F:Nat} {p0:Gq2} {r:Bool} (h:q75q F p0=some r):LCall Tryz.prog 64 [.agg [.I p0.ID,.lst 5 (List.map GItem.lv p0.Versions),.lst 1 (List.map LV.bool p0.Approved),.lst 3 (List.map GUse.lv p0.Uses),.bool p0.Withdrawn]] (Mem.of []) (.bool r) (Mem.of []):=by
  unfold q75q at h
  refine bodyT Tryz.func64 R (nT Tryz.ntmps64 R) (LH.wk (Wk.eq (el:=[(0,.agg [.I p0.ID,.lst 5 (List.map GItem.lv p0.Versions),.lst 1 (List.map LV.bool p0.Approved),.lst 3 (List.map GUse.lv p0.Uses),.bool p0.Withdrawn])]) (ml:=[]) R R R R) (LH.seqT [(1,.sptr [.I p0.ID,.lst 5 (List.map GItem.lv p0.Versions),.lst 1 (List.map LV.bool p0.Approved),.lst 3 (List.map GUse.lv p0.Uses),.bool p0.Withdrawn])] [] R (sB (oBxR R R R R (sAb R zS))) (LH.seq (LH.seqT [(1,.sptr [.I p0.ID,.lst 5 (List.map GItem.lv p0.Versions),.lst 1 (List.map LV.bool p0.Approved),.lst 3 (List.map GUse.lv p0.Uses),.bool p0.Withdrawn]),(31,.bool ((decide ((p0.Versions.length:Int)<1)) || ((decide ((p0.Versions.length:Int) > 8)) || (((p0.Approved.length:Int) != (p0.Versions.length:Int)) || (decide ((p0.Uses.length:Int) > 300))))))] [] R ?_ ?_))))
  ·refine sN (oFaS tf49_1 tk45 ts45 R R R (sN (oLd R tk45 ta45 (sN (oLnL (f:=GItem.lv) te45 R (sN (oLt R R (sMb R ?_))))))))
   by_cases hb2:(decide ((p0.Versions.length:Int)<1))=true
   ·exact sF R R hb2 (sF R R hb2 (sF R R hb2 (sF R R hb2 (sN (oPkT (cB hb2) (v:=(.bool _)) R (sMb R (sF R R R (sF R R R (sF R R R (sF R R R (sF R R R (sF R R R (sF R R R (sN (oPkT R (v:=(.bool _)) R (sMb R (sF R R R (sF R R R (sF R R R (sF R R R (sN (oPkT R (v:=(.bool _)) R (s0 (Wk.to (eC R (eC (cB (orT hb2)) eN)) mN R (prK R)))))))))))))))))))))))))
   ·replace hb2:=bF hb2
    refine sT R (cB hb2) (oFaS tf49_1 tk45 ts45 R R R (sT R (cB hb2) (oLd R tk45 ta45 (sT R (cB hb2) (oLnL (f:=GItem.lv) te45 R (sT R (cB hb2) (oGt R R (sN (oPkF (cB hb2) (v:=(.bool _)) R (sMb R ?_))))))))))
    by_cases hb3:(decide ((p0.Versions.length:Int) > 8))=true
    ·exact sF R R hb3 (sF R R hb3 (sF R R hb3 (sF R R hb3 (sF R R hb3 (sF R R hb3 (sF R R hb3 (sN (oPkT (cB hb3) (v:=(.bool _)) R (sMb R (sF R R R (sF R R R (sF R R R (sF R R R (sN (oPkT R (v:=(.bool _)) R (s0 (Wk.to (eC R (eC (cB (Eq.trans (orT hb3) (orF hb2))) eN)) mN R (prK R))))))))))))))))))
    ·replace hb3:=bF hb3
     refine sT R (cB hb3) (oFaS tf49_2 tk46 ts46 R R R (sT R (cB hb3) (oLd R tk46 ta46 (sT R (cB hb3) (oLnL (f:=LV.bool) te46 R (sT R (cB hb3) (oFaS tf49_1 tk45 ts45 R R R (sT R (cB hb3) (oLd R tk45 ta45 (sT R (cB hb3) (oLnL (f:=GItem.lv) te45 R (sT R (cB hb3) (oNe R R (sN (oPkF (cB hb3) (v:=(.bool _)) R (sMb R ?_))))))))))))))))
     by_cases hb4:((p0.Approved.length:Int) != (p0.Versions.length:Int))=true
     ·exact sF R R hb4 (sF R R hb4 (sF R R hb4 (sF R R hb4 (sN (oPkT (cB hb4) (v:=(.bool _)) R (s0 (Wk.to (eC R (eC (cB (Eq.trans (Eq.trans (orT hb4) (orF hb3)) (orF hb2))) eN)) mN R (prK R))))))))
     ·replace hb4:=bF hb4
      exact sT R (cB hb4) (oFaS tf49_3 tk47 ts47 R R R (sT R (cB hb4) (oLd R tk47 ta47 (sT R (cB hb4) (oLnL (f:=GUse.lv) te47 R (sT R (cB hb4) (oGt R R (sN (oPkF (cB hb4) (v:=(.bool _)) R (s0 (Wk.to (eC R (eC (cB (Eq.trans (Eq.trans (orF hb4) (orF hb3)) (orF hb2))) eN)) mN R (prK R))))))))))))
  refine LH.cond (t:=((decide ((p0.Versions.length:Int)<1)) || ((decide ((p0.Versions.length:Int) > 8)) || (((p0.Approved.length:Int) != (p0.Versions.length:Int)) || (decide ((p0.Uses.length:Int) > 300)))))) R (fun hc5=>?_) (fun hc5=>?_)
  ·replace h:=iteT h hc5
   refine LH.seqT [(2,.bool false)] [] R (sAb R zS) (LH.ret (thenR ?_))
   obtain rfl:=oI h
   exact retE (aT Tryz.results64) (lrT R (lr0 ⟨memN mN,R,prK R,Sub.rfl⟩))
  replace h:=iteF h hc5
  refine LH.skip (thenN (LH.wk (Wk.eq (el:=[(1,.sptr [.I p0.ID,.lst 5 (List.map GItem.lv p0.Versions),.lst 1 (List.map LV.bool p0.Approved),.lst 3 (List.map GUse.lv p0.Uses),.bool p0.Withdrawn])]) (ml:=[]) R R R R) (LH.seq (LH.seqT [(1,.sptr [.I p0.ID,.lst 5 (List.map GItem.lv p0.Versions),.lst 1 (List.map LV.bool p0.Approved),.lst 3 (List.map GUse.lv p0.Uses),.bool p0.Withdrawn]),(33,.lst 5 (List.map GItem.lv p0.Versions)),(34,.I (p0.Versions.length:Int)),(35,.I 0)] [] R (sN (oFaS tf49_1 tk45 ts45 R R R (sN (oLd R tk45 ta45 (sN (oLnL (f:=GItem.lv) te45 R (sMi R zS))))))) (LH.block (LH.loop (fun n e m=>∃ (n6:Int),q36q F p0 n n6=some r∧e=Env.of [(1,.sptr [.I p0.ID,.lst 5 (List.map GItem.lv p0.Versions),.lst 1 (List.map LV.bool p0.Approved),.lst 3 (List.map GUse.lv p0.Uses),.bool p0.Withdrawn]),(33,.lst 5 (List.map GItem.lv p0.Versions)),(34,.I (p0.Versions.length:Int)),(35,.I n6)]∧m=Mem.of []) F ⟨0,h,R,R⟩ ?_))))))
  clear h
  rintro n e m ⟨n6,h,rfl,rfl⟩
  rcases n with _ | n
  · cases (show Option.none=some _ from h)
  obtain ⟨rec1,hrec1⟩:∃ f,f=q36q F p0 n:=⟨_,rfl⟩
  replace h:q43q F p0 rec1 n6=some r:=hrec1 ▸ h
  unfold q43q at h
  refine LH.seqT [(1,.sptr [.I p0.ID,.lst 5 (List.map GItem.lv p0.Versions),.lst 1 (List.map LV.bool p0.Approved),.lst 3 (List.map GUse.lv p0.Uses),.bool p0.Withdrawn]),(33,.lst 5 (List.map GItem.lv p0.Versions)),(34,.I (p0.Versions.length:Int)),(35,.I n6),(36,.bool (decide (n6<(p0.Versions.length:Int))))] [] R (sN (oLt R R zS)) (LH.seq (LH.cond (t:=(decide (n6<(p0.Versions.length:Int)))) R (fun hc7=>?_) (fun hc7=>?_)))
  ·replace h:=iteT h hc7
   refine LH.skip (thenN (LH.wk (Wk.eq (el:=[(1,.sptr [.I p0.ID,.lst 5 (List.map GItem.lv p0.Versions),.lst 1 (List.map LV.bool p0.Approved),.lst 3 (List.map GUse.lv p0.Uses),.bool p0.Withdrawn]),(33,.lst 5 (List.map GItem.lv p0.Versions)),(34,.I (p0.Versions.length:Int)),(35,.I n6)]) (ml:=[]) R R R R) (LH.seq (LH.block ?_))))
   obtain ⟨x8,hx8,h⟩:=bindS h
   refine LH.seqT [(1,.sptr [.I p0.ID,.lst 5 (List.map GItem.lv p0.Versions),.lst 1 (List.map LV.bool p0.Approved),.lst 3 (List.map GUse.lv p0.Uses),.bool p0.Withdrawn]),(3,.I n6),(4,.sptr (GItem.lv x8).cells),(33,.lst 5 (List.map GItem.lv p0.Versions)),(34,.I (p0.Versions.length:Int)),(35,.I n6)] [] R (sMi R (sN (oIx (f:=GItem.lv) te45 tk54 ts54 R R GItem.ok hx8 R (sN (oLdA R tk54 ta54 ts54 R R (sN (oAl (id:=104) R tz54 R R (sAi R (s_ (oSt R R R tk54 ts54 R R R (s0 ((Wk.trans (Wk.eq (el:=[(1,.sptr [.I p0.ID,.lst 5 (List.map GItem.lv p0.Versions),.lst 1 (List.map LV.bool p0.Approved),.lst 3 (List.map GUse.lv p0.Uses),.bool p0.Withdrawn]),(3,.I n6),(4,.ptr 104 0),(33,.lst 5 (List.map GItem.lv p0.Versions)),(34,.I (p0.Versions.length:Int)),(35,.I n6)]) (ml:=[(104,.box (GItem.lv x8).cells)]) R R R R) (Wk.trans (Wk.frzB 104 (GItem.lv x8).cells R R R (prN R)) (Wk.eq R R R R))))))))))))))) ?_
   obtain ⟨w10,hv,h⟩:=bindS h
   refine LH.seqT [(1,.sptr [.I p0.ID,.lst 5 (List.map GItem.lv p0.Versions),.lst 1 (List.map LV.bool p0.Approved),.lst 3 (List.map GUse.lv p0.Uses),.bool p0.Withdrawn]),(33,.lst 5 (List.map GItem.lv p0.Versions)),(34,.I (p0.Versions.length:Int)),(35,.I n6),(56,.bool w10)] [] R ?_ ?_
   ·refine sN (oLdA R tk54 ta54 ts54 R R ?_)
    obtain ⟨r11,hr11,hv⟩:=bindS hv
    refine sN (oCP (args:=[GItem.lv x8]) R isF75 R (sbR sbN) (q186q hr11) R (sN (oNe R R (sMb R ?_))))
    by_cases hb12:(r11 != 0)=true
    ·replace hv:=iteT hv hb12
     refine sF R R hb12 (sF R R hb12 (sF R R hb12 (sF R R hb12 (sF R R hb12 (sN (oPkT (cB hb12) (v:=(.bool _)) R (sMb R (sF R R R (sF R R R (sF R R R (sF R R R (sF R R R (sN (oPkT R (v:=(.bool _)) R ?_))))))))))))))
     obtain rfl:=oI hv
     exact zS
    ·replace hb12:=bF hb12
     replace hv:=iteF hv hb12
     refine sT R (cB hb12) (oFaS tf54_0 tk3 ts3 R R R (sT R (cB hb12) (oLd R tk3 ta3 (sT R (cB hb12) (oFaS tf49_0 tk3 ts3 R R R (sT R (cB hb12) (oLd R tk3 ta3 (sT R (cB hb12) (oNe R R (sN (oPkF (cB hb12) (v:=(.bool _)) R (sMb R ?_))))))))))))
     by_cases hb13:(x8.ID != p0.ID)=true
     ·replace hv:=iteT hv hb13
      refine sF R R hb13 (sF R R hb13 (sF R R hb13 (sF R R hb13 (sF R R hb13 (sN (oPkT (cB hb13) (v:=(.bool _)) R ?_))))))
      obtain rfl:=oI hv
      exact zS
     ·replace hb13:=bF hb13
      replace hv:=iteF hv hb13
      refine sT R (cB hb13) (oFaS tf54_1 tk3 ts3 R R R (sT R (cB hb13) (oLd R tk3 ta3 (sT R (cB hb13) (oM (v:=(.int _ _)) R (sT R (cB hb13) (oAdd R R (sT R (cB hb13) (oNe R R (sN (oPkF (cB hb13) (v:=(.bool _)) R ?_)))))))))))
      obtain rfl:=oI hv
      exact zS
   clear hv
   refine LH.cond (t:=w10) R (fun hc14=>?_) (fun hc14=>?_)
   ·replace h:=iteT h hc14
    refine LH.seqT [(2,.bool false)] [] R (sAb R zS) (LH.ret (blockR (thenR (roundR (blockR (thenR ?_))))))
    obtain rfl:=oI h
    exact retE (aT Tryz.results64) (lrT R (lr0 ⟨memN mN,R,prK R,Sub.rfl⟩))
   replace h:=iteF h hc14
   refine LH.skip (blockN (thenN (LH.loneT [(1,.sptr [.I p0.ID,.lst 5 (List.map GItem.lv p0.Versions),.lst 1 (List.map LV.bool p0.Approved),.lst 3 (List.map GUse.lv p0.Uses),.bool p0.Withdrawn]),(33,.lst 5 (List.map GItem.lv p0.Versions)),(34,.I (p0.Versions.length:Int)),(35,.I (i64 (n6+1)))] [] R (sN (oAdd R R (sMi R zS))) ?_)))
   exact roundI ⟨(i64 (n6+1)),hrec1 ▸ h,R,R⟩ (Wk.eq R R R R)
  replace h:=iteF h hc7
  refine LH.exit (thenX (roundX (blockH (thenN (LH.wk (Wk.eq (el:=[(1,.sptr [.I p0.ID,.lst 5 (List.map GItem.lv p0.Versions),.lst 1 (List.map LV.bool p0.Approved),.lst 3 (List.map GUse.lv p0.Uses),.bool p0.Withdrawn])]) (ml:=[]) R R R R) (LH.seq (LH.seqT [(1,.sptr [.I p0.ID,.lst 5 (List.map GItem.lv p0.Versions),.lst 1 (List.map LV.bool p0.Approved),.lst 3 (List.map GUse.lv p0.Uses),.bool p0.Withdrawn]),(59,.lst 3 (List.map GUse.lv p0.Uses)),(60,.I (p0.Uses.length:Int)),(61,.I 0)] [] R (sN (oFaS tf49_3 tk47 ts47 R R R (sN (oLd R tk47 ta47 (sN (oLnL (f:=GUse.lv) te47 R (sMi R zS))))))) (LH.block (LH.loop (fun n e m=>∃ (n15:Int),q23q p0 n n15=some r∧e=Env.of [(1,.sptr [.I p0.ID,.lst 5 (List.map GItem.lv p0.Versions),.lst 1 (List.map LV.bool p0.Approved),.lst 3 (List.map GUse.lv p0.Uses),.bool p0.Withdrawn]),(59,.lst 3 (List.map GUse.lv p0.Uses)),(60,.I (p0.Uses.length:Int)),(61,.I n15)]∧m=Mem.of []) F ⟨0,h,R,R⟩ ?_)))))))))
  clear h
  rintro n e m ⟨n15,h,rfl,rfl⟩
  rcases n with _ | n
  · cases (show Option.none=some _ from h)
  obtain ⟨rec2,hrec2⟩:∃ f,f=q23q p0 n:=⟨_,rfl⟩
  replace h:q44q p0 rec2 n15=some r:=hrec2 ▸ h
  unfold q44q at h
  refine LH.seqT [(1,.sptr [.I p0.ID,.lst 5 (List.map GItem.lv p0.Versions),.lst 1 (List.map LV.bool p0.Approved),.lst 3 (List.map GUse.lv p0.Uses),.bool p0.Withdrawn]),(59,.lst 3 (List.map GUse.lv p0.Uses)),(60,.I (p0.Uses.length:Int)),(61,.I n15),(62,.bool (decide (n15<(p0.Uses.length:Int))))] [] R (sN (oLt R R zS)) (LH.seq (LH.cond (t:=(decide (n15<(p0.Uses.length:Int)))) R (fun hc16=>?_) (fun hc16=>?_)))
  ·replace h:=iteT h hc16
   refine LH.skip (thenN (LH.wk (Wk.eq (el:=[(1,.sptr [.I p0.ID,.lst 5 (List.map GItem.lv p0.Versions),.lst 1 (List.map LV.bool p0.Approved),.lst 3 (List.map GUse.lv p0.Uses),.bool p0.Withdrawn]),(59,.lst 3 (List.map GUse.lv p0.Uses)),(60,.I (p0.Uses.length:Int)),(61,.I n15)]) (ml:=[]) R R R R) (LH.seq (LH.block ?_))))
   obtain ⟨x17,hx17,h⟩:=bindS h
   refine LH.seqT [(1,.sptr [.I p0.ID,.lst 5 (List.map GItem.lv p0.Versions),.lst 1 (List.map LV.bool p0.Approved),.lst 3 (List.map GUse.lv p0.Uses),.bool p0.Withdrawn]),(6,.sptr [.I x17.Version,.I x17.Form,.I x17.Time]),(59,.lst 3 (List.map GUse.lv p0.Uses)),(60,.I (p0.Uses.length:Int)),(61,.I n15)] [] R (sN (oIx (f:=GUse.lv) te47 tk88 ts88 R R GUse.ok hx17 R (sN (oLdA R tk88 ta88 ts88 R R (sN (oAl (id:=106) R tz88 R R (s_ (oSt R R R tk88 ts88 R R R (s0 ((Wk.trans (Wk.eq (el:=[(1,.sptr [.I p0.ID,.lst 5 (List.map GItem.lv p0.Versions),.lst 1 (List.map LV.bool p0.Approved),.lst 3 (List.map GUse.lv p0.Uses),.bool p0.Withdrawn]),(6,.ptr 106 0),(59,.lst 3 (List.map GUse.lv p0.Uses)),(60,.I (p0.Uses.length:Int)),(61,.I n15)]) (ml:=[(106,.box [.I x17.Version,.I x17.Form,.I x17.Time])]) R R R R) (Wk.trans (Wk.frzB 106 [.I x17.Version,.I x17.Form,.I x17.Time] R R R (prN R)) (Wk.eq R R R R))))))))))))) (LH.seqT [(1,.sptr [.I p0.ID,.lst 5 (List.map GItem.lv p0.Versions),.lst 1 (List.map LV.bool p0.Approved),.lst 3 (List.map GUse.lv p0.Uses),.bool p0.Withdrawn]),(59,.lst 3 (List.map GUse.lv p0.Uses)),(60,.I (p0.Uses.length:Int)),(61,.I n15),(75,.bool ((decide (x17.Version<1)) || (decide (x17.Version > (p0.Versions.length:Int)))))] [] R ?_ ?_)
   ·refine sN (oFaS tf88_0 tk3 ts3 R R R (sN (oLd R tk3 ta3 (sN (oLt R R (sMb R ?_))))))
    by_cases hb19:(decide (x17.Version<1))=true
    ·exact sF R R hb19 (sF R R hb19 (sF R R hb19 (sF R R hb19 (sF R R hb19 (sF R R hb19 (sN (oPkT (cB hb19) (v:=(.bool _)) R (s0 (Wk.to (eC R (eC R (eC R (eC R (eC (cB (orT hb19)) eN))))) mN R (prK R))))))))))
    ·replace hb19:=bF hb19
     exact sT R (cB hb19) (oFaS tf88_0 tk3 ts3 R R R (sT R (cB hb19) (oLd R tk3 ta3 (sT R (cB hb19) (oFaS tf49_1 tk45 ts45 R R R (sT R (cB hb19) (oLd R tk45 ta45 (sT R (cB hb19) (oLnL (f:=GItem.lv) te45 R (sT R (cB hb19) (oGt R R (sN (oPkF (cB hb19) (v:=(.bool _)) R (s0 (Wk.to (eC R (eC R (eC R (eC R (eC (cB (orF hb19)) eN))))) mN R (prK R))))))))))))))))
   refine LH.cond (t:=((decide (x17.Version<1)) || (decide (x17.Version > (p0.Versions.length:Int))))) R (fun hc20=>?_) (fun hc20=>?_)
   ·replace h:=iteT h hc20
    refine LH.seqT [(2,.bool false)] [] R (sAb R zS) (LH.ret (blockR (thenR (roundR (blockR (thenR ?_))))))
    obtain rfl:=oI h
    exact retE (aT Tryz.results64) (lrT R (lr0 ⟨memN mN,R,prK R,Sub.rfl⟩))
   replace h:=iteF h hc20
   refine LH.skip (blockN (thenN (LH.loneT [(1,.sptr [.I p0.ID,.lst 5 (List.map GItem.lv p0.Versions),.lst 1 (List.map LV.bool p0.Approved),.lst 3 (List.map GUse.lv p0.Uses),.bool p0.Withdrawn]),(59,.lst 3 (List.map GUse.lv p0.Uses)),(60,.I (p0.Uses.length:Int)),(61,.I (i64 (n15+1)))] [] R (sN (oAdd R R (sMi R zS))) ?_)))
   exact roundI ⟨(i64 (n15+1)),hrec2 ▸ h,R,R⟩ (Wk.eq R R R R)
  replace h:=iteF h hc16
  refine LH.exit (thenX (roundX (blockH (thenN (LH.seqT [(2,.bool true)] [] R (sAb R zS) (LH.ret ?_))))))
  obtain rfl:=oI h
  exact retE (aT Tryz.results64) (lrT R (lr0 ⟨memN mN,R,prK R,Sub.rfl⟩))

theorem q243q {F:Nat} {p0:GBank} {r:Bool} (h:q177q F p0=some r):LCall Tryz.prog 35 [.agg [.lst 5 (List.map Gq2.lv p0.Records)]] (Mem.of []) (.bool r) (Mem.of []):=by
  unfold q177q at h
  refine bodyT Tryz.func35 R (nT Tryz.ntmps35 R) (LH.wk (Wk.eq (el:=[(0,.agg [.lst 5 (List.map Gq2.lv p0.Records)])]) (ml:=[]) R R R R) (LH.seqT [(1,.sptr [.lst 5 (List.map Gq2.lv p0.Records)])] [] R (sB (oBxR R R R R (sAb R zS))) (LH.seq (LH.seqT [(1,.sptr [.lst 5 (List.map Gq2.lv p0.Records)]),(8,.bool (decide ((p0.Records.length:Int) > 40)))] [] R (sN (oFaS tf30_0 tk28 ts28 R R R (sN (oLd R tk28 ta28 (sN (oLnL (f:=Gq2.lv) te28 R (sN (oGt R R zS)))))))) (LH.cond (t:=(decide ((p0.Records.length:Int) > 40))) R (fun hc1=>?_) (fun hc1=>?_))))))
  ·replace h:=iteT h hc1
   refine LH.seqT [(2,.bool false)] [] R (sAb R zS) (LH.ret (thenR ?_))
   obtain rfl:=oI h
   exact retE (aT Tryz.results35) (lrT R (lr0 ⟨memN mN,R,prK R,Sub.rfl⟩))
  replace h:=iteF h hc1
  refine LH.skip (thenN (LH.wk (Wk.eq (el:=[(1,.sptr [.lst 5 (List.map Gq2.lv p0.Records)])]) (ml:=[]) R R R R) (LH.seq (LH.seqT [(1,.sptr [.lst 5 (List.map Gq2.lv p0.Records)]),(10,.lst 5 (List.map Gq2.lv p0.Records)),(11,.I (p0.Records.length:Int)),(12,.I 0)] [] R (sN (oFaS tf30_0 tk28 ts28 R R R (sN (oLd R tk28 ta28 (sN (oLnL (f:=Gq2.lv) te28 R (sMi R zS))))))) (LH.block (LH.loop (fun n e m=>∃ (n2:Int),q110q F p0 n n2=some r∧e=Env.of [(1,.sptr [.lst 5 (List.map Gq2.lv p0.Records)]),(10,.lst 5 (List.map Gq2.lv p0.Records)),(11,.I (p0.Records.length:Int)),(12,.I n2)]∧m=Mem.of []) F ⟨0,h,R,R⟩ ?_))))))
  clear h
  rintro n e m ⟨n2,h,rfl,rfl⟩
  rcases n with _ | n
  · cases (show Option.none=some _ from h)
  obtain ⟨rec1,hrec1⟩:∃ f,f=q110q F p0 n:=⟨_,rfl⟩
  replace h:q120q F p0 rec1 n2=some r:=hrec1 ▸ h
  unfold q120q at h
  refine LH.seqT [(1,.sptr [.lst 5 (List.map Gq2.lv p0.Records)]),(10,.lst 5 (List.map Gq2.lv p0.Records)),(11,.I (p0.Records.length:Int)),(12,.I n2),(13,.bool (decide (n2<(p0.Records.length:Int))))] [] R (sN (oLt R R zS)) (LH.seq (LH.cond (t:=(decide (n2<(p0.Records.length:Int)))) R (fun hc3=>?_) (fun hc3=>?_)))
  ·replace h:=iteT h hc3
   refine LH.skip (thenN (LH.wk (Wk.eq (el:=[(1,.sptr [.lst 5 (List.map Gq2.lv p0.Records)]),(10,.lst 5 (List.map Gq2.lv p0.Records)),(11,.I (p0.Records.length:Int)),(12,.I n2)]) (ml:=[]) R R R R) (LH.seq (LH.block ?_))))
   obtain ⟨x4,hx4,h⟩:=bindS h
   refine LH.seqT [(1,.sptr [.lst 5 (List.map Gq2.lv p0.Records)]),(3,.I n2),(4,.sptr [.I x4.ID,.lst 5 (List.map GItem.lv x4.Versions),.lst 1 (List.map LV.bool x4.Approved),.lst 3 (List.map GUse.lv x4.Uses),.bool x4.Withdrawn]),(10,.lst 5 (List.map Gq2.lv p0.Records)),(11,.I (p0.Records.length:Int)),(12,.I n2)] [] R (sMi R (sN (oIx (f:=Gq2.lv) te28 tk49 ts49 R R Gq2.ok hx4 R (sN (oLdA R tk49 ta49 ts49 R R (sN (oAl (id:=104) R tz49 R R (sAi R (s_ (oSt R R R tk49 ts49 R R R (s0 ((Wk.trans (Wk.eq (el:=[(1,.sptr [.lst 5 (List.map Gq2.lv p0.Records)]),(3,.I n2),(4,.ptr 104 0),(10,.lst 5 (List.map Gq2.lv p0.Records)),(11,.I (p0.Records.length:Int)),(12,.I n2)]) (ml:=[(104,.box [.I x4.ID,.lst 5 (List.map GItem.lv x4.Versions),.lst 1 (List.map LV.bool x4.Approved),.lst 3 (List.map GUse.lv x4.Uses),.bool x4.Withdrawn])]) R R R R) (Wk.trans (Wk.frzB 104 [.I x4.ID,.lst 5 (List.map GItem.lv x4.Versions),.lst 1 (List.map LV.bool x4.Approved),.lst 3 (List.map GUse.lv x4.Uses),.bool x4.Withdrawn] R R R (prN R)) (Wk.eq R R R R))))))))))))))) ?_
   obtain ⟨w6,hv,h⟩:=bindS h
   refine LH.seqJM mixed [] [0,0,0,0,0,0,0,0,0,0,0,0,0,0,0,0,0,0,0] [(1,.sptr [.lst 5 (List.map Gq2.lv p0.Records)]),(10,.lst 5 (List.map Gq2.lv p0.Records)),(11,.I (p0.Records.length:Int)),(12,.I n2),(35,.bool w6)] [] R R (by kernel_rfl) ?_ ?_
   ·refine mMi R (mN0 (oGt R R ⟨R,mMb R ?_⟩))
    by_cases hb7:(decide (n2 > 0))=true
    ·replace hv:=iteT hv hb7
     refine mT R (cB hb7) (mN0 (oFaS tf30_0 tk28 ts28 R R R ⟨R,mT R (cB hb7) (mN0 (oLd R tk28 ta28 ⟨R,mT R (cB hb7) (mMi R (mT R (cB hb7) (mN0 (oSub R R ⟨R,?_⟩))))⟩))⟩))
     obtain ⟨x8,hx8,hv⟩:=bindS hv
     refine mT R (cB hb7) (mN0 (oIx (f:=Gq2.lv) te28 tk49 ts49 R R Gq2.ok hx8 R ⟨R,mT R (cB hb7) (mN0 (oFaS tf49_0 tk3 ts3 R R R ⟨R,mT R (cB hb7) (mN0 (oLd R tk3 ta3 ⟨R,mT R (cB hb7) (mN0 (oFaS tf49_0 tk3 ts3 R R R ⟨R,mT R (cB hb7) (mN0 (oLd R tk3 ta3 ⟨R,mT R (cB hb7) (mN0 (oGe R R ⟨R,mN0 (oPkT (cB hb7) (v:=(.bool _)) R ⟨R,mMb R ?_⟩)⟩))⟩))⟩))⟩))⟩))⟩))
     by_cases hb9:(decide (x8.ID ≥ x4.ID))=true
     ·replace hv:=iteT hv hb9
      refine mF R R hb9 (mF R R hb9 (mF R R hb9 (mN0 (oPkT (cB hb9) (v:=(.bool _)) R ⟨R,?_⟩))))
      obtain rfl:=oI hv
      exact zM
     ·replace hb9:=bF hb9
      replace hv:=iteF hv hb9
      refine mT R (cB hb9) (mN0 (oLdA R tk49 ta49 ts49 R R ⟨R,?_⟩))
      obtain ⟨r10,hr10,hv⟩:=bindS hv
      refine mT R (cB hb9) (mN0 (oCP (args:=[.agg [.I x4.ID,.lst 5 (List.map GItem.lv x4.Versions),.lst 1 (List.map LV.bool x4.Approved),.lst 3 (List.map GUse.lv x4.Uses),.bool x4.Withdrawn]]) R isF64 R (sbR sbN) (q181q hr10) R ⟨R,mT R (cB hb9) (mN0 (oNot R ⟨R,mN0 (oPkF (cB hb9) (v:=(.bool _)) R ⟨R,?_⟩)⟩))⟩))
      obtain rfl:=oI hv
      exact zM
    ·replace hb7:=bF hb7
     replace hv:=iteF hv hb7
     refine mF R R hb7 (mF R R hb7 (mF R R hb7 (mF R R hb7 (mF R R hb7 (mF R R hb7 (mF R R hb7 (mF R R hb7 (mF R R hb7 (mF R R hb7 (mN0 (oPkF (cB hb7) (v:=(.bool _)) R ⟨R,mMb R (mT R R (mN0 (oLdA R tk49 ta49 ts49 R R ⟨R,?_⟩)))⟩)))))))))))
     obtain ⟨r11,hr11,hv⟩:=bindS hv
     refine mT R R (mN0 (oCP (args:=[.agg [.I x4.ID,.lst 5 (List.map GItem.lv x4.Versions),.lst 1 (List.map LV.bool x4.Approved),.lst 3 (List.map GUse.lv x4.Uses),.bool x4.Withdrawn]]) R isF64 R (sbR sbN) (q181q hr11) R ⟨R,mT R R (mN0 (oNot R ⟨R,mN0 (oPkF R (v:=(.bool _)) R ⟨R,?_⟩)⟩))⟩))
     obtain rfl:=oI hv
     exact zM
   clear hv
   refine LH.cond (t:=w6) R (fun hc12=>?_) (fun hc12=>?_)
   ·replace h:=iteT h hc12
    refine LH.seqT [(2,.bool false)] [] R (sAb R zS) (LH.ret (blockR (thenR (roundR (blockR (thenR ?_))))))
    obtain rfl:=oI h
    exact retE (aT Tryz.results35) (lrT R (lr0 ⟨memN mN,R,prK R,Sub.rfl⟩))
   replace h:=iteF h hc12
   refine LH.skip (blockN (thenN (LH.loneT [(1,.sptr [.lst 5 (List.map Gq2.lv p0.Records)]),(10,.lst 5 (List.map Gq2.lv p0.Records)),(11,.I (p0.Records.length:Int)),(12,.I (i64 (n2+1)))] [] R (sN (oAdd R R (sMi R zS))) ?_)))
   exact roundI ⟨(i64 (n2+1)),hrec1 ▸ h,R,R⟩ (Wk.eq R R R R)
  replace h:=iteF h hc3
  refine LH.exit (thenX (roundX (blockH (thenN (LH.seqT [(2,.bool true)] [] R (sAb R zS) (LH.ret ?_))))))
  obtain rfl:=oI h
  exact retE (aT Tryz.results35) (lrT R (lr0 ⟨memN mN,R,prK R,Sub.rfl⟩))

theorem q210q {p0:GUse} {c0:Int} {c1:Int} {r:Bool} (h:q119q p0 c0 c1=some r):LCall Tryz.prog 37 [.agg [.I p0.Version,.I p0.Form,.I p0.Time],.sptr [.I c0],.sptr [.I c1]] (Mem.of []) (.bool r) (Mem.of []):=by
  unfold q119q at h
  refine bodyT Tryz.func37 R (nT Tryz.ntmps37 R) (LH.wk (Wk.eq (el:=[(0,.agg [.I p0.Version,.I p0.Form,.I p0.Time]),(1,.sptr [.I c0]),(2,.sptr [.I c1])]) (ml:=[]) R R R R) (LH.seqT [(1,.sptr [.I c0]),(2,.sptr [.I c1]),(3,.sptr [.I p0.Version,.I p0.Form,.I p0.Time])] [] R (sB (oBxR R R R R (sAb R zS))) (LH.seqT [(4,.bool (decide (p0.Time > (i64 (c0 - c1)))))] [] R (sN (oFaS tf88_2 tk3 ts3 R R R (sN (oLd R tk3 ta3 (sN (oLd R tk3 ta3 (sN (oLd R tk3 ta3 (sN (oSub R R (sN (oGt R R (sAb R zS))))))))))))) (LH.ret ?_))))
  obtain rfl:=oI h
  exact retE (aT Tryz.results37) (lrT R (lr0 ⟨memN mN,R,prK R,Sub.rfl⟩))

theorem q193q {F:Nat} {p0:GBank} {p1:Int} {p2:Int} {p3:Int} {r:List GRef} (h:q109q F p0 p1 p2 p3=some r):LCall Tryz.prog 16 [.agg [.lst 5 (List.map Gq2.lv p0.Records)],.I p1,.I p2,.I p3] (Mem.of []) (.lst 2 (List.map GRef.lv r)) (Mem.of []):=by
  unfold q109q at h
  refine bodyT Tryz.func16 R (nT Tryz.ntmps16 R) (LH.wk (Wk.eq (el:=[(0,.agg [.lst 5 (List.map Gq2.lv p0.Records)]),(1,.I p1),(2,.I p2),(3,.I p3)]) (ml:=[]) R R R R) (LH.seqT [(3,.I p3),(4,.sptr [.lst 5 (List.map Gq2.lv p0.Records)]),(5,.sptr [.I p1]),(6,.sptr [.I p2])] [] R (sB (oBxR R R R R (sB (oBxR R R R R (sB (oBxR R R R R (sAn R zS))))))) (LH.seq ?_)))
  obtain ⟨w2,hv,h⟩:=bindS h
  refine LH.seqT [(3,.I p3),(4,.sptr [.lst 5 (List.map Gq2.lv p0.Records)]),(5,.sptr [.I p1]),(6,.sptr [.I p2]),(35,.bool w2)] [] R ?_ ?_
  ·refine sN (oLdA R tk30 ta30 ts30 R R ?_)
   obtain ⟨r3,hr3,hv⟩:=bindS hv
   refine sN (oCP (args:=[.agg [.lst 5 (List.map Gq2.lv p0.Records)]]) R isF35 R (sbR sbN) (q243q hr3) R (sN (oNot R (sMb R ?_))))
   by_cases hb4:(!r3)=true
   ·replace hv:=iteT hv hb4
    refine sF R R hb4 (sF R R hb4 (sN (oPkT (cB hb4) (v:=(.bool _)) R (sMb R (sF R R R (sF R R R (sN (oPkT R (v:=(.bool _)) R (sMb R (sF R R R (sF R R R (sN (oPkT R (v:=(.bool _)) R (sMb R (sF R R R (sF R R R (sN (oPkT R (v:=(.bool _)) R (sMb R (sF R R R (sF R R R (sN (oPkT R (v:=(.bool _)) R ?_)))))))))))))))))))))))
    obtain rfl:=oI hv
    exact zS
   ·replace hb4:=bF hb4
    replace hv:=iteF hv hb4
    refine sT R (cB hb4) (oLd R tk3 ta3 (sT R (cB hb4) (oLt R R (sN (oPkF (cB hb4) (v:=(.bool _)) R (sMb R ?_))))))
    by_cases hb5:(decide (p1<0))=true
    ·replace hv:=iteT hv hb5
     refine sF R R hb5 (sF R R hb5 (sN (oPkT (cB hb5) (v:=(.bool _)) R (sMb R (sF R R R (sF R R R (sN (oPkT R (v:=(.bool _)) R (sMb R (sF R R R (sF R R R (sN (oPkT R (v:=(.bool _)) R (sMb R (sF R R R (sF R R R (sN (oPkT R (v:=(.bool _)) R ?_))))))))))))))))))
     obtain rfl:=oI hv
     exact zS
    ·replace hb5:=bF hb5
     replace hv:=iteF hv hb5
     refine sT R (cB hb5) (oLd R tk3 ta3 (sT R (cB hb5) (oGt R R (sN (oPkF (cB hb5) (v:=(.bool _)) R (sMb R ?_))))))
     by_cases hb6:(decide (p1 > 1000000))=true
     ·replace hv:=iteT hv hb6
      refine sF R R hb6 (sF R R hb6 (sN (oPkT (cB hb6) (v:=(.bool _)) R (sMb R (sF R R R (sF R R R (sN (oPkT R (v:=(.bool _)) R (sMb R (sF R R R (sF R R R (sN (oPkT R (v:=(.bool _)) R ?_)))))))))))))
      obtain rfl:=oI hv
      exact zS
     ·replace hb6:=bF hb6
      replace hv:=iteF hv hb6
      refine sT R (cB hb6) (oLd R tk3 ta3 (sT R (cB hb6) (oLt R R (sN (oPkF (cB hb6) (v:=(.bool _)) R (sMb R ?_))))))
      by_cases hb7:(decide (p2<0))=true
      ·replace hv:=iteT hv hb7
       refine sF R R hb7 (sF R R hb7 (sN (oPkT (cB hb7) (v:=(.bool _)) R (sMb R (sF R R R (sF R R R (sN (oPkT R (v:=(.bool _)) R ?_))))))))
       obtain rfl:=oI hv
       exact zS
      ·replace hb7:=bF hb7
       replace hv:=iteF hv hb7
       refine sT R (cB hb7) (oLd R tk3 ta3 (sT R (cB hb7) (oGt R R (sN (oPkF (cB hb7) (v:=(.bool _)) R (sMb R ?_))))))
       by_cases hb8:(decide (p2 > 1000000))=true
       ·replace hv:=iteT hv hb8
        refine sF R R hb8 (sF R R hb8 (sN (oPkT (cB hb8) (v:=(.bool _)) R ?_)))
        obtain rfl:=oI hv
        exact zS
       ·replace hb8:=bF hb8
        replace hv:=iteF hv hb8
        refine sT R (cB hb8) (oM (v:=(.int _ _)) R (sT R (cB hb8) (oLt R R (sN (oPkF (cB hb8) (v:=(.bool _)) R ?_)))))
        obtain rfl:=oI hv
        exact zS
  clear hv
  refine LH.cond (t:=w2) R (fun hc9=>?_) (fun hc9=>?_)
  ·replace h:=iteT h hc9
   refine LH.seqT [(8,.nil)] [] R (sAn R zS) (LH.ret (thenR ?_))
   obtain rfl:=oI h
   exact retE (aT Tryz.results16) (lrT R (lr0 ⟨memN mN,R,prK R,Sub.nil⟩))
  replace h:=iteF h hc9
  refine LH.skip (thenN (LH.seqT [(3,.I p3),(4,.sptr [.lst 5 (List.map Gq2.lv p0.Records)]),(5,.sptr [.I p1]),(6,.sptr [.I p2]),(9,.nil)] [] R (sAn R zS) (LH.seq (LH.seqT [(3,.I p3),(5,.sptr [.I p1]),(6,.sptr [.I p2]),(9,.nil),(37,.lst 5 (List.map Gq2.lv p0.Records)),(38,.I (p0.Records.length:Int)),(39,.I 0)] [] R (sN (oFaS tf30_0 tk28 ts28 R R R (sN (oLd R tk28 ta28 (sN (oLnL (f:=Gq2.lv) te28 R (sMi R zS))))))) (LH.block (LH.wk ((Wk.trans (Wk.eq (el:=[(3,.I p3),(5,.sptr [.I p1]),(6,.sptr [.I p2]),(9,.nil),(37,.lst 5 (List.map Gq2.lv p0.Records)),(38,.I (p0.Records.length:Int)),(39,.I 0)]) (ml:=[]) R R R R) (Wk.trans (Wk.eq (el:=[(3,.I p3),(5,.sptr [.I p1]),(6,.sptr [.I p2]),(9,.nil),(37,.lst 5 (List.map Gq2.lv p0.Records)),(38,.I (p0.Records.length:Int)),(39,.I 0)]) (ml:=[]) R R R R) (Wk.trans (Wk.ownL (el':=[(3,.I p3),(5,.sptr [.I p1]),(6,.sptr [.I p2]),(9,.arr 176 (List.length ([]:List GRef))),(37,.lst 5 (List.map Gq2.lv p0.Records)),(38,.I (p0.Records.length:Int)),(39,.I 0)]) 176 43 2 R R (wK (wK (wK (wO (wK (wK (wK wN)))))))) (Wk.eq (el:=[(3,.I p3),(5,.sptr [.I p1]),(6,.sptr [.I p2]),(9,.arr 176 (List.length ([]:List GRef))),(37,.lst 5 (List.map Gq2.lv p0.Records)),(38,.I (p0.Records.length:Int)),(39,.I 0)]) (ml:=[(176,.arr 43 2 (List.map GRef.lv ([]:List GRef)))]) R R R R))))) (LH.loop (fun n e m=>∃ (n10:Int) (l11:List GRef),q40q F p0 p1 p2 p3 n n10 l11=some r∧e=Env.of [(3,.I p3),(5,.sptr [.I p1]),(6,.sptr [.I p2]),(9,.arr 176 (List.length l11)),(37,.lst 5 (List.map Gq2.lv p0.Records)),(38,.I (p0.Records.length:Int)),(39,.I n10)]∧m=Mem.of [(176,.arr 43 2 (List.map GRef.lv l11))]) F ⟨0,([]:List GRef),h,R,R⟩ ?_)))))))
  clear h
  rintro n e m ⟨n10,l11,h,rfl,rfl⟩
  rcases n with _ | n
  · cases (show Option.none=some _ from h)
  obtain ⟨rec1,hrec1⟩:∃ f,f=q40q F p0 p1 p2 p3 n:=⟨_,rfl⟩
  replace h:q80q F p0 p1 p2 p3 rec1 n10 l11=some r:=hrec1 ▸ h
  unfold q80q at h
  refine LH.seqT [(3,.I p3),(5,.sptr [.I p1]),(6,.sptr [.I p2]),(9,.arr 176 (List.length l11)),(37,.lst 5 (List.map Gq2.lv p0.Records)),(38,.I (p0.Records.length:Int)),(39,.I n10),(40,.bool (decide (n10<(p0.Records.length:Int))))] [(176,.arr 43 2 (List.map GRef.lv l11))] R (sN (oLt R R zS)) (LH.seq (LH.cond (t:=(decide (n10<(p0.Records.length:Int)))) R (fun hc12=>?_) (fun hc12=>?_)))
  ·replace h:=iteT h hc12
   refine LH.skip (thenN (LH.wk (Wk.eq (el:=[(3,.I p3),(5,.sptr [.I p1]),(6,.sptr [.I p2]),(9,.arr 176 (List.length l11)),(37,.lst 5 (List.map Gq2.lv p0.Records)),(38,.I (p0.Records.length:Int)),(39,.I n10)]) (ml:=[(176,.arr 43 2 (List.map GRef.lv l11))]) R R R R) (LH.seq (LH.block ?_))))
   obtain ⟨x13,hx13,h⟩:=bindS h
   refine LH.seqT [(3,.I p3),(5,.sptr [.I p1]),(6,.sptr [.I p2]),(9,.arr 176 (List.length l11)),(11,.sptr [.I x13.ID,.lst 5 (List.map GItem.lv x13.Versions),.lst 1 (List.map LV.bool x13.Approved),.lst 3 (List.map GUse.lv x13.Uses),.bool x13.Withdrawn]),(37,.lst 5 (List.map Gq2.lv p0.Records)),(38,.I (p0.Records.length:Int)),(39,.I n10)] [(176,.arr 43 2 (List.map GRef.lv l11))] R (sN (oIx (f:=Gq2.lv) te28 tk49 ts49 R R Gq2.ok hx13 R (sN (oLdA R tk49 ta49 ts49 R R (sN (oAl (id:=111) R tz49 R R (s_ (oSt R R R tk49 ts49 R R R (s0 ((Wk.trans (Wk.eq (el:=[(3,.I p3),(5,.sptr [.I p1]),(6,.sptr [.I p2]),(9,.arr 176 (List.length l11)),(11,.ptr 111 0),(37,.lst 5 (List.map Gq2.lv p0.Records)),(38,.I (p0.Records.length:Int)),(39,.I n10)]) (ml:=[(111,.box [.I x13.ID,.lst 5 (List.map GItem.lv x13.Versions),.lst 1 (List.map LV.bool x13.Approved),.lst 3 (List.map GUse.lv x13.Uses),.bool x13.Withdrawn]),(176,.arr 43 2 (List.map GRef.lv l11))]) R R R R) (Wk.trans (Wk.frzB 111 [.I x13.ID,.lst 5 (List.map GItem.lv x13.Versions),.lst 1 (List.map LV.bool x13.Approved),.lst 3 (List.map GUse.lv x13.Uses),.bool x13.Withdrawn] R R R (prN R)) (Wk.eq R R R R))))))))))))) (LH.seq (LH.seqT [(3,.I p3),(5,.sptr [.I p1]),(6,.sptr [.I p2]),(9,.arr 176 (List.length l11)),(11,.sptr [.I x13.ID,.lst 5 (List.map GItem.lv x13.Versions),.lst 1 (List.map LV.bool x13.Approved),.lst 3 (List.map GUse.lv x13.Uses),.bool x13.Withdrawn]),(37,.lst 5 (List.map Gq2.lv p0.Records)),(38,.I (p0.Records.length:Int)),(39,.I n10),(51,.bool (x13.Withdrawn || (decide ((x13.Uses.length:Int) > p3))))] [(176,.arr 43 2 (List.map GRef.lv l11))] R ?_ ?_))
   ·refine sN (oFaS tf49_4 tk4 ts4 R R R (sN (oLd R tk4 ta4 (sMb R ?_))))
    by_cases hb15:x13.Withdrawn=true
    ·exact sF R R hb15 (sF R R hb15 (sF R R hb15 (sF R R hb15 (sF R R hb15 (sN (oPkT (cB hb15) (v:=(.bool _)) R (s0 (Wk.to (eC R (eC R (eC R (eC R (eC R (eC R (eC R (eC R (eC (cB (orT hb15)) eN))))))))) ⟨R,trivial⟩ R (prK R)))))))))
    ·replace hb15:=bF hb15
     exact sT R (cB hb15) (oFaS tf49_3 tk47 ts47 R R R (sT R (cB hb15) (oLd R tk47 ta47 (sT R (cB hb15) (oLnL (f:=GUse.lv) te47 R (sT R (cB hb15) (oM (v:=(.int _ _)) R (sT R (cB hb15) (oGt R R (sN (oPkF (cB hb15) (v:=(.bool _)) R (s0 (Wk.to (eC R (eC R (eC R (eC R (eC R (eC R (eC R (eC R (eC (cB (orF hb15)) eN))))))))) ⟨R,trivial⟩ R (prK R))))))))))))))
   refine LH.cond (t:=(x13.Withdrawn || (decide ((x13.Uses.length:Int) > p3)))) R (fun hc16=>?_) (fun hc16=>?_)
   ·replace h:=iteT h hc16
    refine LH.exit (thenX (blockH (thenN (LH.loneT [(3,.I p3),(5,.sptr [.I p1]),(6,.sptr [.I p2]),(9,.arr 176 (List.length l11)),(37,.lst 5 (List.map Gq2.lv p0.Records)),(38,.I (p0.Records.length:Int)),(39,.I (i64 (n10+1)))] [(176,.arr 43 2 (List.map GRef.lv l11))] R (sN (oAdd R R (sMi R zS))) ?_))))
    exact roundI ⟨(i64 (n10+1)),l11,hrec1 ▸ h,R,R⟩ (Wk.eq R R R R)
   replace h:=iteF h hc16
   refine LH.skip (thenN (LH.wk (Wk.eq (el:=[(3,.I p3),(5,.sptr [.I p1]),(6,.sptr [.I p2]),(9,.arr 176 (List.length l11)),(11,.sptr [.I x13.ID,.lst 5 (List.map GItem.lv x13.Versions),.lst 1 (List.map LV.bool x13.Approved),.lst 3 (List.map GUse.lv x13.Uses),.bool x13.Withdrawn]),(37,.lst 5 (List.map Gq2.lv p0.Records)),(38,.I (p0.Records.length:Int)),(39,.I n10)]) (ml:=[(176,.arr 43 2 (List.map GRef.lv l11))]) R R R R) (LH.seq ?_)))
   obtain ⟨r17,hr17,h⟩:=bindS h
   refine LH.seqT [(3,.I p3),(5,.sptr [.I p1]),(6,.sptr [.I p2]),(9,.arr 176 (List.length l11)),(11,.sptr [.I x13.ID,.lst 5 (List.map GItem.lv x13.Versions),.lst 1 (List.map LV.bool x13.Approved),.lst 3 (List.map GUse.lv x13.Uses),.bool x13.Withdrawn]),(37,.lst 5 (List.map Gq2.lv p0.Records)),(38,.I (p0.Records.length:Int)),(39,.I n10),(55,.bool r17)] [(176,.arr 43 2 (List.map GRef.lv l11))] R (sN (oFaS tf49_3 tk47 ts47 R R R (sN (oLd R tk47 ta47 (sN (oMF (vs:=[.sptr [.I p1],.sptr [.I p2]]) R (sN (oCP (args:=[.lst 3 (List.map GUse.lv x13.Uses),.fn 37 [.sptr [.I p1],.sptr [.I p2]]]) R isF36 R (sbR (sbR sbN)) (q126q (p1_f:=37) (p1_c:=[.sptr [.I p1],.sptr [.I p2]]) isF37 R (fun _ _ h=>q210q h) hr17) R zS)))))))) (LH.cond (t:=r17) R (fun hc18=>?_) (fun hc18=>?_))
   ·replace h:=iteT h hc18
    refine LH.exit (thenX (blockH (thenN (LH.loneT [(3,.I p3),(5,.sptr [.I p1]),(6,.sptr [.I p2]),(9,.arr 176 (List.length l11)),(37,.lst 5 (List.map Gq2.lv p0.Records)),(38,.I (p0.Records.length:Int)),(39,.I (i64 (n10+1)))] [(176,.arr 43 2 (List.map GRef.lv l11))] R (sN (oAdd R R (sMi R zS))) ?_))))
    exact roundI ⟨(i64 (n10+1)),l11,hrec1 ▸ h,R,R⟩ (Wk.eq R R R R)
   replace h:=iteF h hc18
   refine LH.skip (thenN (LH.seqT [(3,.I p3),(5,.sptr [.I p1]),(6,.sptr [.I p2]),(9,.arr 176 (List.length l11)),(11,.sptr [.I x13.ID,.lst 5 (List.map GItem.lv x13.Versions),.lst 1 (List.map LV.bool x13.Approved),.lst 3 (List.map GUse.lv x13.Uses),.bool x13.Withdrawn]),(12,.I (i64 ((x13.Approved.length:Int) - 1))),(37,.lst 5 (List.map Gq2.lv p0.Records)),(38,.I (p0.Records.length:Int)),(39,.I n10)] [(176,.arr 43 2 (List.map GRef.lv l11))] R (sN (oFaS tf49_2 tk46 ts46 R R R (sN (oLd R tk46 ta46 (sN (oLnL (f:=LV.bool) te46 R (sN (oSub R R (sAi R zS))))))))) (LH.block (LH.loop (fun n e m=>∃ (n19:Int),q41q rec1 n10 l11 x13 n n19=some r∧e=Env.of [(3,.I p3),(5,.sptr [.I p1]),(6,.sptr [.I p2]),(9,.arr 176 (List.length l11)),(11,.sptr [.I x13.ID,.lst 5 (List.map GItem.lv x13.Versions),.lst 1 (List.map LV.bool x13.Approved),.lst 3 (List.map GUse.lv x13.Uses),.bool x13.Withdrawn]),(12,.I n19),(37,.lst 5 (List.map Gq2.lv p0.Records)),(38,.I (p0.Records.length:Int)),(39,.I n10)]∧m=Mem.of [(176,.arr 43 2 (List.map GRef.lv l11))]) F ⟨(i64 ((x13.Approved.length:Int) - 1)),h,R,R⟩ ?_))))
   clear h
   rintro n e m ⟨n19,h,rfl,rfl⟩
   rcases n with _ | n
   · cases (show Option.none=some _ from h)
   obtain ⟨rec2,hrec2⟩:∃ f,f=q41q rec1 n10 l11 x13 n:=⟨_,rfl⟩
   replace h:q81q rec1 n10 l11 x13 rec2 n19=some r:=hrec2 ▸ h
   unfold q81q at h
   refine LH.seq (LH.seqT [(3,.I p3),(5,.sptr [.I p1]),(6,.sptr [.I p2]),(9,.arr 176 (List.length l11)),(11,.sptr [.I x13.ID,.lst 5 (List.map GItem.lv x13.Versions),.lst 1 (List.map LV.bool x13.Approved),.lst 3 (List.map GUse.lv x13.Uses),.bool x13.Withdrawn]),(12,.I n19),(37,.lst 5 (List.map Gq2.lv p0.Records)),(38,.I (p0.Records.length:Int)),(39,.I n10),(61,.bool (decide (n19 ≥ 0)))] [(176,.arr 43 2 (List.map GRef.lv l11))] R (sMi R (sN (oGe R R zS))) (LH.cond (t:=(decide (n19 ≥ 0))) R (fun hc20=>?_) (fun hc20=>?_)))
   ·replace h:=iteT h hc20
    refine LH.skip (thenN (LH.wk (Wk.eq (el:=[(3,.I p3),(5,.sptr [.I p1]),(6,.sptr [.I p2]),(9,.arr 176 (List.length l11)),(11,.sptr [.I x13.ID,.lst 5 (List.map GItem.lv x13.Versions),.lst 1 (List.map LV.bool x13.Approved),.lst 3 (List.map GUse.lv x13.Uses),.bool x13.Withdrawn]),(12,.I n19),(37,.lst 5 (List.map Gq2.lv p0.Records)),(38,.I (p0.Records.length:Int)),(39,.I n10)]) (ml:=[(176,.arr 43 2 (List.map GRef.lv l11))]) R R R R) (LH.seq (LH.block ?_))))
    obtain ⟨x21,hx21,h⟩:=bindS h
    refine LH.seqT [(3,.I p3),(5,.sptr [.I p1]),(6,.sptr [.I p2]),(9,.arr 176 (List.length l11)),(11,.sptr [.I x13.ID,.lst 5 (List.map GItem.lv x13.Versions),.lst 1 (List.map LV.bool x13.Approved),.lst 3 (List.map GUse.lv x13.Uses),.bool x13.Withdrawn]),(12,.I n19),(37,.lst 5 (List.map Gq2.lv p0.Records)),(38,.I (p0.Records.length:Int)),(39,.I n10),(68,.bool x21)] [(176,.arr 43 2 (List.map GRef.lv l11))] R (sN (oFaS tf49_2 tk46 ts46 R R R (sN (oLd R tk46 ta46 (sMi R (sN (oIx (f:=LV.bool) te46 tk4 ts4 R R okB hx21 R (sN (oLd R tk4 ta4 zS))))))))) (LH.cond (t:=x21) R (fun hc22=>?_) (fun hc22=>?_))
    ·replace h:=iteT h hc22
     obtain ⟨v23,hv23,h⟩:=bindS h
     refine LH.seqT [(3,.I p3),(5,.sptr [.I p1]),(6,.sptr [.I p2]),(9,.arr 176 (List.length v23)),(37,.lst 5 (List.map Gq2.lv p0.Records)),(38,.I (p0.Records.length:Int)),(39,.I n10)] [(176,.arr 43 2 (List.map GRef.lv v23))] R (sMa R (sN (oFaS tf49_0 tk3 ts3 R R R (sN (oLd R tk3 ta3 (sMi R (sN (oAdd R R (sN (oBd (vs:=[(0,.I x13.ID),(1,.I (i64 (n19+1)))]) tu43 tz43 R (lf tf43_0 ts3 tk3 R R R (lf tf43_1 ts3 tk3 R R R lf0)) (sN (oBS (f:=GRef.lv) (ys:=[(GRef.mk x13.ID (i64 (n19+1)))]) te40 tr43 ts43 R R R GRef.ok (sN (oAp (f:=GRef.lv) te40 tr43 ts43 R R (prN R) R hv23 (sAa R zS))))))))))))))) (LH.exit (blockX R (thenX (roundX (blockH (blockN (thenN (LH.loneT [(3,.I p3),(5,.sptr [.I p1]),(6,.sptr [.I p2]),(9,.arr 176 (List.length v23)),(37,.lst 5 (List.map Gq2.lv p0.Records)),(38,.I (p0.Records.length:Int)),(39,.I (i64 (n10+1)))] [(176,.arr 43 2 (List.map GRef.lv v23))] R (sN (oAdd R R (sMi R zS))) ?_))))))))
     exact roundI ⟨(i64 (n10+1)),v23,hrec1 ▸ h,R,R⟩ (Wk.eq R R R R)
    replace h:=iteF h hc22
    refine LH.skip (blockN (thenN (LH.loneT [(3,.I p3),(5,.sptr [.I p1]),(6,.sptr [.I p2]),(9,.arr 176 (List.length l11)),(11,.sptr [.I x13.ID,.lst 5 (List.map GItem.lv x13.Versions),.lst 1 (List.map LV.bool x13.Approved),.lst 3 (List.map GUse.lv x13.Uses),.bool x13.Withdrawn]),(12,.I (i64 (n19 - 1))),(37,.lst 5 (List.map Gq2.lv p0.Records)),(38,.I (p0.Records.length:Int)),(39,.I n10)] [(176,.arr 43 2 (List.map GRef.lv l11))] R (sMi R (sN (oSub R R (sAi R zS)))) ?_)))
    exact roundI ⟨(i64 (n19 - 1)),hrec2 ▸ h,R,R⟩ (Wk.eq R R R R)
   replace h:=iteF h hc20
   refine LH.exit (thenX (roundX (blockH (blockN (thenN (LH.loneT [(3,.I p3),(5,.sptr [.I p1]),(6,.sptr [.I p2]),(9,.arr 176 (List.length l11)),(37,.lst 5 (List.map Gq2.lv p0.Records)),(38,.I (p0.Records.length:Int)),(39,.I (i64 (n10+1)))] [(176,.arr 43 2 (List.map GRef.lv l11))] R (sN (oAdd R R (sMi R zS))) ?_))))))
   exact roundI ⟨(i64 (n10+1)),l11,hrec1 ▸ h,R,R⟩ (Wk.eq R R R R)
  replace h:=iteF h hc12
  refine LH.exit (thenX (roundX (blockH (thenN (LH.wk ((Wk.trans (Wk.eq (el:=[(9,.arr 176 (List.length l11))]) (ml:=[(176,.arr 43 2 (List.map GRef.lv l11))]) R R R R) (Wk.trans (Wk.frzL (f:=GRef.lv) (el':=[(9,.lst 2 (List.map GRef.lv l11))]) 176 43 2 l11 R R (prN R) (fZ fN)) (Wk.eq (el:=[(9,.lst 2 (List.map GRef.lv l11))]) (ml:=[]) R R R R)))) (LH.seqT [(8,.lst 2 (List.map GRef.lv l11))] [] R (sMl R (sAl R zS)) (LH.ret ?_)))))))
  obtain rfl:=oI h
  exact retE (aT Tryz.results16) (lrT R (lr0 ⟨memN mN,R,prK R,Sub.rfl⟩))

theorem q234q {F:Nat} {r:Bool} (h:q168q F=some r):LCall Tryz.prog 14 [] (Mem.of []) (.bool r) (Mem.of []):=by
  unfold q168q at h
  refine bodyT Tryz.func14 R (nT Tryz.ntmps14 R) (LH.wk (Wk.eq (el:=[]) (ml:=[]) R R R R) (LH.seqT [] [] R (sAb R zS) (LH.seqT [(1,.sptr [.I 5,.I 1,.str (ByteArray.mk #[113]),.lst 6 (List.map GPart.lv [(GPart.mk 1 3 0 0 0 0)]),.nil])] [] R (sN (oBd (vs:=[(0,.I 1),(1,.I 3)]) tu86 tz86 R (lf tf86_0 ts3 tk3 R R R (lf tf86_1 ts3 tk3 R R R lf0)) (sN (oBS (f:=GPart.lv) (ys:=[(GPart.mk 1 3 0 0 0 0)]) te52 tr86 ts86 R R R GPart.ok (sN (oBd (vs:=[(0,.I 5),(1,.I 1),(2,.str (ByteArray.mk #[113])),(3,.lst 6 (List.map GPart.lv [(GPart.mk 1 3 0 0 0 0)]))]) tu54 tz54 R (lf tf54_0 ts3 tk3 R R R (lf tf54_1 ts3 tk3 R R R (lf tf54_2 ts9 tk9 R R R (lf tf54_3 ts52 tk52 R R R lf0)))) (sN (oAl (id:=101) R tz54 R R (s_ (oSt R R R tk54 ts54 R R R (s0 ((Wk.trans (Wk.eq (el:=[(1,.ptr 101 0)]) (ml:=[(101,.box [.I 5,.I 1,.str (ByteArray.mk #[113]),.lst 6 (List.map GPart.lv [(GPart.mk 1 3 0 0 0 0)]),.nil])]) R R R R) (Wk.trans (Wk.frzB 101 [.I 5,.I 1,.str (ByteArray.mk #[113]),.lst 6 (List.map GPart.lv [(GPart.mk 1 3 0 0 0 0)]),.nil] R R R (prN R)) (Wk.eq R R R R))))))))))))))) (LH.seqT [(2,.lst 12 (List.map Gq0.lv ([(Gq0.mk (Gq4.mk 3 0 2) 4 (GItem.mk 0 0 (ByteArray.mk #[]) [] []) (GRef.mk 5 1) 9),(Gq0.mk (Gq4.mk 1 0 0) 1 (GItem.mk 5 1 (ByteArray.mk #[113]) [(GPart.mk 1 3 0 0 0 0)] []) (GRef.mk 0 0) 0),(Gq0.mk (Gq4.mk 2 0 1) 3 (GItem.mk 0 0 (ByteArray.mk #[]) [] []) (GRef.mk 5 1) 0)])))] [] R (sN (oBd (vs:=[(0,.I 3),(2,.I 2)]) tu61 tz61 R (lf tf61_0 ts3 tk3 R R R (lf tf61_2 ts3 tk3 R R R lf0)) (sN (oBd (vs:=[(0,.I 5),(1,.I 1)]) tu43 tz43 R (lf tf43_0 ts3 tk3 R R R (lf tf43_1 ts3 tk3 R R R lf0)) (sN (oBd (vs:=[(0,.agg [.I 3,.I 0,.I 2]),(1,.I 4),(3,.agg [.I 5,.I 1]),(4,.I 9)]) tu63 tz63 R (lf tf63_0 ts61 tk61 R R R (lf tf63_1 ts3 tk3 R R R (lf tf63_3 ts43 tk43 R R R (lf tf63_4 ts3 tk3 R R R lf0)))) (sN (oBd (vs:=[(0,.I 1)]) tu61 tz61 R (lf tf61_0 ts3 tk3 R R R lf0) (sN (oLdA R tk54 ta54 ts54 R R (sN (oBd (vs:=[(0,.agg [.I 1,.I 0,.I 0]),(1,.I 1),(2,.agg [.I 5,.I 1,.str (ByteArray.mk #[113]),.lst 6 (List.map GPart.lv [(GPart.mk 1 3 0 0 0 0)]),.nil])]) tu63 tz63 R (lf tf63_0 ts61 tk61 R R R (lf tf63_1 ts3 tk3 R R R (lf tf63_2 ts54 tk54 R R R lf0))) (sN (oBd (vs:=[(0,.I 2),(2,.I 1)]) tu61 tz61 R (lf tf61_0 ts3 tk3 R R R (lf tf61_2 ts3 tk3 R R R lf0)) (sN (oBd (vs:=[(0,.I 5),(1,.I 1)]) tu43 tz43 R (lf tf43_0 ts3 tk3 R R R (lf tf43_1 ts3 tk3 R R R lf0)) (sN (oBd (vs:=[(0,.agg [.I 2,.I 0,.I 1]),(1,.I 3),(3,.agg [.I 5,.I 1])]) tu63 tz63 R (lf tf63_0 ts61 tk61 R R R (lf tf63_1 ts3 tk3 R R R (lf tf63_3 ts43 tk43 R R R lf0))) (sX (ok_bsn (f:=Gq0.lv) (ys:=[(Gq0.mk (Gq4.mk 3 0 2) 4 (GItem.mk 0 0 (ByteArray.mk #[]) [] []) (GRef.mk 5 1) 9),(Gq0.mk (Gq4.mk 1 0 0) 1 (GItem.mk 5 1 (ByteArray.mk #[113]) [(GPart.mk 1 3 0 0 0 0)] []) (GRef.mk 0 0) 0),(Gq0.mk (Gq4.mk 2 0 1) 3 (GItem.mk 0 0 (ByteArray.mk #[]) [] []) (GRef.mk 5 1) 0)]) te25 tr63 ts63 R R R (okC R R R (okC R R R (okC R R R okN))) (sbS (Sub.agg (sbR (sbR (sbR (sbR (sbR (sbR (sbR (sbL (sbL (sbR (sbR (sbR sbN))))))))))))) (sbS (Sub.agg (sbR (sbR (sbR (sbR (sbR (sbR (sbR (sbR (sbL (sbR (sbR (sbR sbN))))))))))))) (sbS (Sub.agg (sbR (sbR (sbR (sbR (sbR (sbR (sbR (sbL (sbL (sbR (sbR (sbR sbN))))))))))))) sbN))) Gq0.ok) (sAl R zS)))))))))))))))))))) ?_))))
  obtain ⟨r1,hr1,h⟩:=bindS h
  refine LH.seqT [(3,.sptr [.lst 5 (List.map Gq2.lv r1.1.Records)]),(4,.lst 3 (List.map Gq3.lv r1.2.1)),(5,.I r1.2.2)] [] R (sMl R (sN (oCP (args:=[.lst 12 (List.map Gq0.lv ([(Gq0.mk (Gq4.mk 3 0 2) 4 (GItem.mk 0 0 (ByteArray.mk #[]) [] []) (GRef.mk 5 1) 9),(Gq0.mk (Gq4.mk 1 0 0) 1 (GItem.mk 5 1 (ByteArray.mk #[113]) [(GPart.mk 1 3 0 0 0 0)] []) (GRef.mk 0 0) 0),(Gq0.mk (Gq4.mk 2 0 1) 3 (GItem.mk 0 0 (ByteArray.mk #[]) [] []) (GRef.mk 5 1) 0)])),.I 100]) R isF10 R (sbR (sbR sbN)) (q194q hr1) R (sMt R (sN (oEx R R (sN (oEx R R (sN (oEx R R (sN (oAl (id:=103) R tz30 R R (s_ (oSt R R R tk30 ts30 R R R (sAl R (sAi R (s0 ((Wk.trans (Wk.eq (el:=[(3,.ptr 103 0),(4,.lst 3 (List.map Gq3.lv r1.2.1)),(5,.I r1.2.2)]) (ml:=[(103,.box [.lst 5 (List.map Gq2.lv r1.1.Records)])]) R R R R) (Wk.trans (Wk.frzB 103 [.lst 5 (List.map Gq2.lv r1.1.Records)] R R R (prN R)) (Wk.eq R R R R))))))))))))))))))))) ?_
  obtain ⟨r2,hr2,h⟩:=bindS h
  refine LH.seqT [(3,.sptr [.lst 5 (List.map Gq2.lv r1.1.Records)]),(4,.lst 3 (List.map Gq3.lv r1.2.1)),(5,.I r1.2.2),(6,.lst 2 (List.map GRef.lv r2))] [] R (sN (oLdA R tk30 ta30 ts30 R R (sN (oCP (args:=[.agg [.lst 5 (List.map Gq2.lv r1.1.Records)],.I 10,.I 7,.I 1]) R isF16 R (sbR (sbR (sbR (sbR sbN)))) (q193q hr2) R (sAl R zS))))) ?_
  obtain ⟨w4,hv,h⟩:=bindS h
  refine LH.seqT [(0,.bool w4)] [] R ?_ ?_
  ·refine sMi R (sN (oEq R R (sMb R ?_)))
   by_cases hb5:(r1.2.2 == 0)=true
   ·replace hv:=iteT hv hb5
    refine sT R (cB hb5) (oM (v:=(.lst _ _)) R (sT R (cB hb5) (oLnL (f:=Gq3.lv) te31 R (sT R (cB hb5) (oEq R R (sN (oPkT (cB hb5) (v:=(.bool _)) R (sMb R ?_))))))))
    by_cases hb6:((r1.2.1.length:Int) == 0)=true
    ·replace hv:=iteT hv hb6
     refine sT R (cB hb6) (oM (v:=(.lst _ _)) R (sT R (cB hb6) (oLnL (f:=GRef.lv) te40 R (sT R (cB hb6) (oEq R R (sN (oPkT (cB hb6) (v:=(.bool _)) R (sMb R ?_))))))))
     by_cases hb7:((r2.length:Int) == 1)=true
     ·replace hv:=iteT hv hb7
      refine sT R (cB hb7) (oM (v:=(.lst _ _)) R ?_)
      obtain ⟨x8,hx8,hv⟩:=bindS hv
      refine sT R (cB hb7) (oIx (f:=GRef.lv) te40 tk43 ts43 R R GRef.ok hx8 R (sT R (cB hb7) (oLdA R tk43 ta43 ts43 R R (sT R (cB hb7) (oBd (vs:=[(0,.I 5),(1,.I 1)]) tu43 tz43 R (lf tf43_0 ts3 tk3 R R R (lf tf43_1 ts3 tk3 R R R lf0)) (sT R (cB hb7) (oEqA R R (ae43 x8 (GRef.mk 5 1)) (sN (oPkT (cB hb7) (v:=(.bool _)) R (sMb R ?_))))))))))
      by_cases hb9:(decide (x8=(GRef.mk 5 1)))=true
      ·replace hv:=iteT hv hb9
       refine sT R (cB hb9) (oLdA R tk30 ta30 ts30 R R ?_)
       obtain ⟨r10,hr10,hv⟩:=bindS hv
       refine sT R (cB hb9) (oCP (args:=[.agg [.lst 5 (List.map Gq2.lv r1.1.Records)],.I 10,.I 8,.I 1]) R isF16 R (sbR (sbR (sbR (sbR sbN)))) (q193q hr10) R (sT R (cB hb9) (oLnL (f:=GRef.lv) te40 R (sT R (cB hb9) (oEq R R (sN (oPkT (cB hb9) (v:=(.bool _)) R (sAb R ?_))))))))
       obtain rfl:=oI hv
       exact zS
      ·replace hb9:=bF hb9
       replace hv:=iteF hv hb9
       refine sF R R hb9 (sF R R hb9 (sF R R hb9 (sF R R hb9 (sN (oPkF (cB hb9) (v:=(.bool _)) R (sAb R ?_))))))
       obtain rfl:=oI hv
       exact zS
     ·replace hb7:=bF hb7
      replace hv:=iteF hv hb7
      refine sF R R hb7 (sF R R hb7 (sF R R hb7 (sF R R hb7 (sF R R hb7 (sN (oPkF (cB hb7) (v:=(.bool _)) R (sMb R (sF R R R (sF R R R (sF R R R (sF R R R (sN (oPkF R (v:=(.bool _)) R (sAb R ?_))))))))))))))
      obtain rfl:=oI hv
      exact zS
    ·replace hb6:=bF hb6
     replace hv:=iteF hv hb6
     refine sF R R hb6 (sF R R hb6 (sF R R hb6 (sN (oPkF (cB hb6) (v:=(.bool _)) R (sMb R (sF R R R (sF R R R (sF R R R (sF R R R (sF R R R (sN (oPkF R (v:=(.bool _)) R (sMb R (sF R R R (sF R R R (sF R R R (sF R R R (sN (oPkF R (v:=(.bool _)) R (sAb R ?_))))))))))))))))))))
     obtain rfl:=oI hv
     exact zS
   ·replace hb5:=bF hb5
    replace hv:=iteF hv hb5
    refine sF R R hb5 (sF R R hb5 (sF R R hb5 (sN (oPkF (cB hb5) (v:=(.bool _)) R (sMb R (sF R R R (sF R R R (sF R R R (sN (oPkF R (v:=(.bool _)) R (sMb R (sF R R R (sF R R R (sF R R R (sF R R R (sF R R R (sN (oPkF R (v:=(.bool _)) R (sMb R (sF R R R (sF R R R (sF R R R (sF R R R (sN (oPkF R (v:=(.bool _)) R (sAb R ?_))))))))))))))))))))))))))
    obtain rfl:=oI hv
    exact zS
  clear hv
  refine LH.ret ?_
  obtain rfl:=oI h
  exact retE (aT Tryz.results14) (lrT R (lr0 ⟨memN mN,R,prK R,Sub.rfl⟩))

end Go.Proofs.YtmollikhdbaikaaGreat
