import Derived.Test.YtmollikhdbaikaaGreatZW2
set_option linter.unusedVariables false
set_option linter.unusedSimpArgs false
set_option maxRecDepth 100000
set_option maxHeartbeats 1000000
namespace Go.Proofs.YtmollikhdbaikaaGreat
open Go.L Go.Sh
set_option maxHeartbeats 4000000 in
theorem q194q {F:Nat} {p0:List Gq0} {p1:Int} {r:GBank × List Gq3 × Int} (h:bank_Fold F p0 p1=some r):LCall Tryz.prog 10 [.lst 12 (List.map Gq0.lv p0),.I p1] (Mem.of []) (.tup [.agg [.lst 5 (List.map Gq2.lv r.1.Records)],.lst 3 (List.map Gq3.lv r.2.1),.I r.2.2]) (Mem.of []):=by
  unfold bank_Fold at h
  refine bodyT Tryz.func10 R (nT Tryz.ntmps10 R) (LH.wk (Wk.eq (el:=[(0,.lst 12 (List.map Gq0.lv p0)),(1,.I p1)]) (ml:=[]) R R R R) (LH.seqT [(0,.lst 12 (List.map Gq0.lv p0)),(1,.I p1),(4,.ptr 104 0)] [(104,.box [.nil])] R (sN (oAl (id:=104) R tz30 R R (sAn R (sAi R zS)))) ?_))
  obtain ⟨r1,hr1,h⟩:=bindS h
  refine LH.seqT [(1,.I p1),(4,.ptr 104 0),(7,.lst 12 (List.map Gq0.lv r1.1)),(8,.I r1.2)] [(104,.box [.nil])] R (sMl R (sN (oCP (args:=[.lst 12 (List.map Gq0.lv p0)]) R isF32 R (sbR sbN) (q216q hr1) R (sMt R (sN (oEx R R (sN (oEx R R (sAl R (sAi R zS)))))))))) (LH.seq (LH.seqT [(1,.I p1),(4,.ptr 104 0),(7,.lst 12 (List.map Gq0.lv r1.1)),(8,.I r1.2),(23,.bool (r1.2 != 0))] [(104,.box [.nil])] R (sMi R (sN (oNe R R zS))) (LH.cond (t:=(r1.2 != 0)) R (fun hc2=>?_) (fun hc2=>?_))))
  ·replace h:=iteT h hc2
   refine LH.seqT [(4,.sptr [.nil]),(5,.nil),(6,.I r1.2)] [] R (sN (oBd (vs:=[]) tu30 tz30 R lf0 (sMi R (s_ (oSt R R R tk30 ts30 R R R (sAn R (sAi R (s0 ((Wk.trans (Wk.eq (el:=[(4,.ptr 104 0),(5,.nil),(6,.I r1.2)]) (ml:=[(104,.box [.nil])]) R R R R) (Wk.trans (Wk.frzB 104 [.nil] R R R (prN R)) (Wk.eq R R R R)))))))))))) (LH.ret (thenR ?_))
   obtain rfl:=oI h
   exact retE (aT Tryz.results10) (lrSA R tk30 ta30 ts30 R R (lrT R (lrT R (lr0 ⟨memN mN,R,prK R,(Sub.tup (sbS (Sub.agg (sbL sbN)) (sbL (sbR sbN))))⟩))))
  replace h:=iteF h hc2
  refine LH.skip (thenN (LH.seqT [(1,.I p1),(4,.ptr 104 0),(7,.lst 12 (List.map Gq0.lv r1.1)),(9,.ptr 811 0)] [(104,.box [.nil]),(811,.box [.arr 812 (List.length ([]:List Gq2))]),(812,.nest 49 5 [(1,54,5),(2,4,1),(3,88,3)] (List.map Gq2.lv ([]:List Gq2)))] R (sX (ok_alI 711 R tz30 R R) (s0 ((Wk.trans (Wk.eq (el:=[(1,.I p1),(4,.ptr 104 0),(7,.lst 12 (List.map Gq0.lv r1.1)),(9,.ptr 811 0)]) (ml:=[(104,.box [.nil]),(811,.box [.nil])]) R R R R) (Wk.trans (Wk.eq (el:=[(1,.I p1),(4,.ptr 104 0),(7,.lst 12 (List.map Gq0.lv r1.1)),(9,.ptr 811 0)]) (ml:=[(104,.box [.nil]),(811,.box [.nil])]) R R R R) (Wk.trans (Wk.ownBxN 812 49 5 [(1,54,5),(2,4,1),(3,88,3)] 811 0 R R R R R (prN R)) (Wk.eq R R R R))))))) (LH.seqT [(1,.I p1),(4,.ptr 104 0),(7,.lst 12 (List.map Gq0.lv r1.1)),(9,.ptr 811 0),(10,.nil)] [(104,.box [.nil]),(811,.box [.arr 812 (List.length ([]:List Gq2))]),(812,.nest 49 5 [(1,54,5),(2,4,1),(3,88,3)] (List.map Gq2.lv ([]:List Gq2)))] R (sAn R zS) (LH.seqT [(1,.I p1),(4,.ptr 104 0),(7,.lst 12 (List.map Gq0.lv r1.1)),(9,.ptr 811 0),(10,.nil),(11,.mp 10301)] [(104,.box [.nil]),(811,.box [.arr 812 (List.length ([]:List Gq2))]),(812,.nest 49 5 [(1,54,5),(2,4,1),(3,88,3)] (List.map Gq2.lv ([]:List Gq2))),(10301,.map 3 78 (mlv LV.I bankH bankHs))] R (sN (oCM (args:=[]) (ml:=[]) (ml':=[(10301,.map 3 78 (mlv LV.I bankH bankHs))]) R isF33 R sbN (q222q (F:=F) (r:=bankHs) R) mN (newF R newN) R (sN (oA (v:=(.mp _)) R zS)))) (LH.seq (LH.seqT [(1,.I p1),(4,.ptr 104 0),(9,.ptr 811 0),(10,.nil),(11,.mp 10301),(27,.lst 12 (List.map Gq0.lv r1.1)),(28,.I (r1.1.length:Int)),(29,.I 0)] [(104,.box [.nil]),(811,.box [.arr 812 (List.length ([]:List Gq2))]),(812,.nest 49 5 [(1,54,5),(2,4,1),(3,88,3)] (List.map Gq2.lv ([]:List Gq2))),(10301,.map 3 78 (mlv LV.I bankH bankHs))] R (sMl R (sN (oLnL (f:=Gq0.lv) te25 R (sMi R zS)))) (LH.block (LH.wk ((Wk.trans (Wk.eq (el:=[(1,.I p1),(4,.ptr 104 0),(9,.ptr 811 0),(10,.nil),(11,.mp 10301),(27,.lst 12 (List.map Gq0.lv r1.1)),(28,.I (r1.1.length:Int)),(29,.I 0)]) (ml:=[(104,.box [.nil]),(811,.box [.arr 812 (List.length ([]:List Gq2))]),(812,.nest 49 5 [(1,54,5),(2,4,1),(3,88,3)] (List.map Gq2.lv ([]:List Gq2))),(10301,.map 3 78 (mlv LV.I bankH bankHs))]) R R R R) (Wk.trans (Wk.eq (el:=[(1,.I p1),(4,.ptr 104 0),(9,.ptr 811 0),(10,.nil),(11,.mp 10301),(27,.lst 12 (List.map Gq0.lv r1.1)),(28,.I (r1.1.length:Int)),(29,.I 0)]) (ml:=[(104,.box [.nil]),(811,.box [.arr 812 (List.length ([]:List Gq2))]),(812,.nest 49 5 [(1,54,5),(2,4,1),(3,88,3)] (List.map Gq2.lv ([]:List Gq2))),(10301,.map 3 78 (mlv LV.I bankH bankHs))]) R R R R) (Wk.trans (Wk.ownL (el':=[(1,.I p1),(4,.ptr 104 0),(9,.ptr 811 0),(10,.arr 162 (List.length ([]:List Gq3))),(11,.mp 10301),(27,.lst 12 (List.map Gq0.lv r1.1)),(28,.I (r1.1.length:Int)),(29,.I 0)]) 162 84 3 R R (wK (wK (wK (wO (wK (wK (wK (wK wN))))))))) (Wk.eq (el:=[(1,.I p1),(4,.ptr 104 0),(9,.ptr 811 0),(10,.arr 162 (List.length ([]:List Gq3))),(11,.mp 10301),(27,.lst 12 (List.map Gq0.lv r1.1)),(28,.I (r1.1.length:Int)),(29,.I 0)]) (ml:=[(104,.box [.nil]),(162,.arr 84 3 (List.map Gq3.lv ([]:List Gq3))),(811,.box [.arr 812 (List.length ([]:List Gq2))]),(812,.nest 49 5 [(1,54,5),(2,4,1),(3,88,3)] (List.map Gq2.lv ([]:List Gq2))),(10301,.map 3 78 (mlv LV.I bankH bankHs))]) R R R R))))) (LH.loop (fun n e m=>∃ (n3:Int) (l4:List Gq3) (l5:List Gq2),q56q F p1 r1 n n3 l4 l5=some r∧e=Env.of [(1,.I p1),(4,.ptr 104 0),(9,.ptr 811 0),(10,.arr 162 (List.length l4)),(11,.mp 10301),(27,.lst 12 (List.map Gq0.lv r1.1)),(28,.I (r1.1.length:Int)),(29,.I n3)]∧m=Mem.of [(104,.box [.nil]),(162,.arr 84 3 (List.map Gq3.lv l4)),(811,.box [.arr 812 (List.length l5)]),(812,.nest 49 5 [(1,54,5),(2,4,1),(3,88,3)] (List.map Gq2.lv l5)),(10301,.map 3 78 (mlv LV.I bankH bankHs))]) F ⟨0,([]:List Gq3),([]:List Gq2),h,R,R⟩ ?_)))))))))
  clear h
  rintro n e m ⟨n3,l4,l5,h,rfl,rfl⟩
  rcases n with _ | n
  · cases (show Option.none=some _ from h)
  obtain ⟨rec1,hrec1⟩:∃ f,f=q56q F p1 r1 n:=⟨_,rfl⟩
  replace h:q132q F p1 r1 rec1 n3 l4 l5=some r:=hrec1 ▸ h
  unfold q132q at h
  refine LH.seqT [(1,.I p1),(4,.ptr 104 0),(9,.ptr 811 0),(10,.arr 162 (List.length l4)),(11,.mp 10301),(27,.lst 12 (List.map Gq0.lv r1.1)),(28,.I (r1.1.length:Int)),(29,.I n3),(30,.bool (decide (n3<(r1.1.length:Int))))] [(104,.box [.nil]),(162,.arr 84 3 (List.map Gq3.lv l4)),(811,.box [.arr 812 (List.length l5)]),(812,.nest 49 5 [(1,54,5),(2,4,1),(3,88,3)] (List.map Gq2.lv l5)),(10301,.map 3 78 (mlv LV.I bankH bankHs))] R (sN (oLt R R zS)) (LH.seq (LH.cond (t:=(decide (n3<(r1.1.length:Int)))) R (fun hc6=>?_) (fun hc6=>?_)))
  ·replace h:=iteT h hc6
   refine LH.skip (thenN (LH.wk (Wk.eq (el:=[(1,.I p1),(4,.ptr 104 0),(9,.ptr 811 0),(10,.arr 162 (List.length l4)),(11,.mp 10301),(27,.lst 12 (List.map Gq0.lv r1.1)),(28,.I (r1.1.length:Int)),(29,.I n3)]) (ml:=[(104,.box [.nil]),(162,.arr 84 3 (List.map Gq3.lv l4)),(811,.box [.arr 812 (List.length l5)]),(812,.nest 49 5 [(1,54,5),(2,4,1),(3,88,3)] (List.map Gq2.lv l5)),(10301,.map 3 78 (mlv LV.I bankH bankHs))]) R R R R) (LH.seq (LH.block ?_))))
   obtain ⟨x7,hx7,h⟩:=bindS h
   refine LH.seqT [(1,.I p1),(4,.ptr 104 0),(9,.ptr 811 0),(10,.arr 162 (List.length l4)),(11,.mp 10301),(13,.sptr (Gq0.lv x7).cells),(27,.lst 12 (List.map Gq0.lv r1.1)),(28,.I (r1.1.length:Int)),(29,.I n3)] [(104,.box [.nil]),(162,.arr 84 3 (List.map Gq3.lv l4)),(811,.box [.arr 812 (List.length l5)]),(812,.nest 49 5 [(1,54,5),(2,4,1),(3,88,3)] (List.map Gq2.lv l5)),(10301,.map 3 78 (mlv LV.I bankH bankHs))] R (sN (oIx (f:=Gq0.lv) te25 tk63 ts63 R R Gq0.ok hx7 R (sN (oLdA R tk63 ta63 ts63 R R (sN (oAl (id:=113) R tz63 R R (s_ (oSt R R R tk63 ts63 R R R (s0 ((Wk.trans (Wk.eq (el:=[(1,.I p1),(4,.ptr 104 0),(9,.ptr 811 0),(10,.arr 162 (List.length l4)),(11,.mp 10301),(13,.ptr 113 0),(27,.lst 12 (List.map Gq0.lv r1.1)),(28,.I (r1.1.length:Int)),(29,.I n3)]) (ml:=[(104,.box [.nil]),(113,.box (Gq0.lv x7).cells),(162,.arr 84 3 (List.map Gq3.lv l4)),(811,.box [.arr 812 (List.length l5)]),(812,.nest 49 5 [(1,54,5),(2,4,1),(3,88,3)] (List.map Gq2.lv l5)),(10301,.map 3 78 (mlv LV.I bankH bankHs))]) R R R R) (Wk.trans (Wk.frzB 113 (Gq0.lv x7).cells R R R (prN R)) (Wk.eq R R R R))))))))))))) (LH.seq (LH.seqT [(1,.I p1),(4,.ptr 104 0),(9,.ptr 811 0),(10,.arr 162 (List.length l4)),(11,.mp 10301),(13,.sptr (Gq0.lv x7).cells),(27,.lst 12 (List.map Gq0.lv r1.1)),(28,.I (r1.1.length:Int)),(29,.I n3),(37,.bool (decide (x7.Stamp.Time > p1)))] [(104,.box [.nil]),(162,.arr 84 3 (List.map Gq3.lv l4)),(811,.box [.arr 812 (List.length l5)]),(812,.nest 49 5 [(1,54,5),(2,4,1),(3,88,3)] (List.map Gq2.lv l5)),(10301,.map 3 78 (mlv LV.I bankH bankHs))] R (sN (oFaS tf63_0 tk61 ts61 R R R (sN (oFaS tf61_0 tk3 ts3 R R R (sN (oLd R tk3 ta3 (sMi R (sN (oGt R R zS))))))))) (LH.cond (t:=(decide (x7.Stamp.Time > p1))) R (fun hc8=>?_) (fun hc8=>?_))))
   ·replace h:=iteT h hc8
    refine LH.exit (thenX (blockX R (thenX (roundX (blockH (thenN (LH.wk ((Wk.trans (Wk.eq (el:=[(4,.ptr 104 0),(9,.ptr 811 0),(10,.arr 162 (List.length l4))]) (ml:=[(104,.box [.nil]),(162,.arr 84 3 (List.map Gq3.lv l4)),(811,.box [.arr 812 (List.length l5)]),(812,.nest 49 5 [(1,54,5),(2,4,1),(3,88,3)] (List.map Gq2.lv l5))]) R R R R) (Wk.trans (Wk.frzL (f:=Gq3.lv) (el':=[(4,.ptr 104 0),(9,.ptr 811 0),(10,.lst 3 (List.map Gq3.lv l4))]) 162 84 3 l4 R R (prN R) (fK R (fK R (fZ fN)))) (Wk.eq (el:=[(4,.ptr 104 0),(9,.ptr 811 0),(10,.lst 3 (List.map Gq3.lv l4))]) (ml:=[(104,.box [.nil]),(811,.box [.arr 812 (List.length l5)]),(812,.nest 49 5 [(1,54,5),(2,4,1),(3,88,3)] (List.map Gq2.lv l5))]) R R R R)))) (LH.seqT [(4,.sptr [.lst 5 (List.map Gq2.lv l5)]),(5,.lst 3 (List.map Gq3.lv l4)),(6,.I 0)] [] R (SOps.wk (Wk.eq (el:=[(4,.ptr 104 0),(9,.ptr 811 0),(10,.lst 3 (List.map Gq3.lv l4))]) (ml:=[(104,.box [.nil]),(811,.box [.arr 812 (List.length l5)]),(812,.nest 49 5 [(1,54,5),(2,4,1),(3,88,3)] (List.map Gq2.lv l5))]) R R R R) (SOps.wk (Wk.trans (Wk.trans (Wk.unnest (f:=Gq2.lv) 812 49 5 [(1,54,5),(2,4,1),(3,88,3)] l5 R Gq2.ok) (Wk.eq (el:=[(4,.ptr 104 0),(9,.ptr 811 0),(10,.lst 3 (List.map Gq3.lv l4))]) (ml:=[(104,.box [.nil]),(811,.box [.arr 812 (List.length l5)]),(812,.arr 49 5 (List.map Gq2.lv l5))]) R R R R)) (Wk.trans (Wk.frzBx (f:=Gq2.lv) 812 49 5 l5 811 R R R (frAZ frA0) R R (prN R)) (Wk.eq (el:=[(4,.ptr 104 0),(9,.ptr 811 0),(10,.lst 3 (List.map Gq3.lv l4))]) (ml:=[(104,.box [.nil]),(811,.box [.lst 5 (List.map Gq2.lv l5)])]) R R R R))) (sN (oLdPA R R R tk30 ta30 ts30 R R (sMl R (s_ (oSt R R R tk30 ts30 R R R (sAl R (sAi R (s0 ((Wk.trans (Wk.eq (el:=[(4,.ptr 104 0),(5,.lst 3 (List.map Gq3.lv l4)),(6,.I 0)]) (ml:=[(104,.box [.lst 5 (List.map Gq2.lv l5)])]) R R R R) (Wk.trans (Wk.frzB 104 [.lst 5 (List.map Gq2.lv l5)] R R R (prN R)) (Wk.eq R R R R)))))))))))))) (LH.ret ?_)))))))))
    obtain rfl:=oI h
    exact retE (aT Tryz.results10) (lrSA R tk30 ta30 ts30 R R (lrT R (lrT R (lr0 ⟨memN mN,R,prK R,(Sub.tup (sbR (sbR (sbR sbN))))⟩))))
   replace h:=iteF h hc8
   refine LH.skip (thenN (LH.seqT [(1,.I p1),(4,.ptr 104 0),(9,.ptr 811 0),(10,.arr 162 (List.length l4)),(11,.mp 10301),(13,.sptr (Gq0.lv x7).cells),(14,.I 2),(27,.lst 12 (List.map Gq0.lv r1.1)),(28,.I (r1.1.length:Int)),(29,.I n3)] [(104,.box [.nil]),(162,.arr 84 3 (List.map Gq3.lv l4)),(811,.box [.arr 812 (List.length l5)]),(812,.nest 49 5 [(1,54,5),(2,4,1),(3,88,3)] (List.map Gq2.lv l5)),(10301,.map 3 78 (mlv LV.I bankH bankHs))] R (sAi R zS) (LH.seq ?_)))
   by_cases hk9:(x7.Kind == 1)=true
   ·replace h:=iteT h hk9
    refine LH.seqT [(1,.I p1),(4,.ptr 104 0),(9,.ptr 811 0),(10,.arr 162 (List.length l4)),(11,.mp 10301),(13,.sptr (Gq0.lv x7).cells),(14,.I 2),(15,.fn 57 []),(16,.bool true),(27,.lst 12 (List.map Gq0.lv r1.1)),(28,.I (r1.1.length:Int)),(29,.I n3)] [(104,.box [.nil]),(162,.arr 84 3 (List.map Gq3.lv l4)),(811,.box [.arr 812 (List.length l5)]),(812,.nest 49 5 [(1,54,5),(2,4,1),(3,88,3)] (List.map Gq2.lv l5)),(10301,.map 3 78 (mlv LV.I bankH bankHs))] R (sN (oM (v:=(.mp _)) R (sN (oFaS tf63_1 tk3 ts3 R R R (sN (oLd R tk3 ta3 (sX ((ok_lookK (f:=LV.I) (g:=bankH) (xs:=bankHs) (key:=1) (z:=0) (o:=some 1) tm76 kok3 kf3 R R (congrArg LV.I (eq_of_beq hk9)) tz78 R).ok) (sMt R (sN (oEx R R (sN (oEx R R (sN (oA (v:=(.fn _ _)) R (sAb R zS))))))))))))))) (LH.seqT [(1,.I p1),(4,.ptr 104 0),(9,.ptr 811 0),(10,.arr 162 (List.length l4)),(11,.mp 10301),(13,.sptr (Gq0.lv x7).cells),(14,.I 2),(15,.fn 57 []),(27,.lst 12 (List.map Gq0.lv r1.1)),(28,.I (r1.1.length:Int)),(29,.I n3),(45,.bool true)] [(104,.box [.nil]),(162,.arr 84 3 (List.map Gq3.lv l4)),(811,.box [.arr 812 (List.length l5)]),(812,.nest 49 5 [(1,54,5),(2,4,1),(3,88,3)] (List.map Gq2.lv l5)),(10301,.map 3 78 (mlv LV.I bankH bankHs))] R (sMb R zS) (LH.cond (t:=true) R (fun hc10=>?_) (fun hc10=>?_)))
    ·obtain ⟨r11,hr11,h⟩:=bindS h
     refine LH.loneT [(1,.I p1),(4,.ptr 104 0),(9,.ptr 811 0),(10,.arr 162 (List.length l4)),(11,.mp 10301),(13,.sptr (Gq0.lv x7).cells),(14,.I r11.1),(27,.lst 12 (List.map Gq0.lv r1.1)),(28,.I (r1.1.length:Int)),(29,.I n3)] [(104,.box [.nil]),(162,.arr 84 3 (List.map Gq3.lv l4)),(811,.box [.arr 812 (List.length r11.2.Records)]),(812,.nest 49 5 [(1,54,5),(2,4,1),(3,88,3)] (List.map Gq2.lv r11.2.Records)),(10301,.map 3 78 (mlv LV.I bankH bankHs))] R (sN (oM (v:=(.fn _ _)) R (sN (oLdA R tk63 ta63 ts63 R R (sN (oCM (args:=[.ptr 811 0,Gq0.lv x7]) (ml:=[(811,.box [.arr 812 (List.length l5)]),(812,.nest 49 5 [(1,54,5),(2,4,1),(3,88,3)] (List.map Gq2.lv l5))]) (ml':=[(811,.box [.arr 812 (List.length r11.2.Records)]),(812,.nest 49 5 [(1,54,5),(2,4,1),(3,88,3)] (List.map Gq2.lv r11.2.Records))]) R isF57 R (sbR (sbR sbN)) (q241q hr11) ⟨R,R,trivial⟩ (newI R (newI R newN)) R (sAi R zS))))))) (thenN (LH.seqT [(1,.I p1),(4,.ptr 104 0),(9,.ptr 811 0),(10,.arr 162 (List.length l4)),(11,.mp 10301),(13,.sptr (Gq0.lv x7).cells),(14,.I r11.1),(27,.lst 12 (List.map Gq0.lv r1.1)),(28,.I (r1.1.length:Int)),(29,.I n3),(50,.bool (r11.1 != 0))] [(104,.box [.nil]),(162,.arr 84 3 (List.map Gq3.lv l4)),(811,.box [.arr 812 (List.length r11.2.Records)]),(812,.nest 49 5 [(1,54,5),(2,4,1),(3,88,3)] (List.map Gq2.lv r11.2.Records)),(10301,.map 3 78 (mlv LV.I bankH bankHs))] R (sMi R (sN (oNe R R zS))) (LH.cond (t:=(r11.1 != 0)) R (fun hc12=>?_) (fun hc12=>?_))))
     ·replace h:=iteT h hc12
      obtain ⟨v13,hv13,h⟩:=bindS h
      refine LH.loneT [(1,.I p1),(4,.ptr 104 0),(9,.ptr 811 0),(10,.arr 162 (List.length v13)),(11,.mp 10301),(27,.lst 12 (List.map Gq0.lv r1.1)),(28,.I (r1.1.length:Int)),(29,.I n3)] [(104,.box [.nil]),(162,.arr 84 3 (List.map Gq3.lv v13)),(811,.box [.arr 812 (List.length r11.2.Records)]),(812,.nest 49 5 [(1,54,5),(2,4,1),(3,88,3)] (List.map Gq2.lv r11.2.Records)),(10301,.map 3 78 (mlv LV.I bankH bankHs))] R (sMa R (sN (oFaS tf63_0 tk61 ts61 R R R (sN (oFaS tf61_1 tk3 ts3 R R R (sN (oLd R tk3 ta3 (sN (oFaS tf63_0 tk61 ts61 R R R (sN (oFaS tf61_2 tk3 ts3 R R R (sN (oLd R tk3 ta3 (sN (oBd (vs:=[(0,.I x7.Stamp.Source),(1,.I x7.Stamp.Seq)]) tu82 tz82 R (lf tf82_0 ts3 tk3 R R R (lf tf82_1 ts3 tk3 R R R lf0)) (sMi R (sN (oBd (vs:=[(0,.agg [.I x7.Stamp.Source,.I x7.Stamp.Seq]),(1,.I r11.1)]) tu84 tz84 R (lf tf84_0 ts82 tk82 R R R (lf tf84_1 ts32 tk32 R R R lf0)) (sN (oBS (f:=Gq3.lv) (ys:=[(Gq3.mk (Gq1.mk x7.Stamp.Source x7.Stamp.Seq) r11.1)]) te31 tr84 ts84 R R R Gq3.ok (sN (oAp (f:=Gq3.lv) te31 tr84 ts84 R R (prN R) R hv13 (sAa R zS))))))))))))))))))))))) (blockN (thenN (LH.loneT [(1,.I p1),(4,.ptr 104 0),(9,.ptr 811 0),(10,.arr 162 (List.length v13)),(11,.mp 10301),(27,.lst 12 (List.map Gq0.lv r1.1)),(28,.I (r1.1.length:Int)),(29,.I (i64 (n3+1)))] [(104,.box [.nil]),(162,.arr 84 3 (List.map Gq3.lv v13)),(811,.box [.arr 812 (List.length r11.2.Records)]),(812,.nest 49 5 [(1,54,5),(2,4,1),(3,88,3)] (List.map Gq2.lv r11.2.Records)),(10301,.map 3 78 (mlv LV.I bankH bankHs))] R (sN (oAdd R R (sMi R zS))) ?_)))
      exact roundI ⟨(i64 (n3+1)),v13,r11.2.Records,hrec1 ▸ h,R,R⟩ (Wk.eq R R R R)
     replace h:=iteF h hc12
     refine LH.skip (blockN (thenN (LH.loneT [(1,.I p1),(4,.ptr 104 0),(9,.ptr 811 0),(10,.arr 162 (List.length l4)),(11,.mp 10301),(27,.lst 12 (List.map Gq0.lv r1.1)),(28,.I (r1.1.length:Int)),(29,.I (i64 (n3+1)))] [(104,.box [.nil]),(162,.arr 84 3 (List.map Gq3.lv l4)),(811,.box [.arr 812 (List.length r11.2.Records)]),(812,.nest 49 5 [(1,54,5),(2,4,1),(3,88,3)] (List.map Gq2.lv r11.2.Records)),(10301,.map 3 78 (mlv LV.I bankH bankHs))] R (sN (oAdd R R (sMi R zS))) ?_)))
     exact roundI ⟨(i64 (n3+1)),l4,r11.2.Records,hrec1 ▸ h,R,R⟩ (Wk.eq R R R R)
    ·cases hc10
   replace hk9:=bF hk9
   replace h:=iteF h hk9
   by_cases hk14:(x7.Kind == 2)=true
   ·replace h:=iteT h hk14
    refine LH.seqT [(1,.I p1),(4,.ptr 104 0),(9,.ptr 811 0),(10,.arr 162 (List.length l4)),(11,.mp 10301),(13,.sptr (Gq0.lv x7).cells),(14,.I 2),(15,.fn 58 []),(16,.bool true),(27,.lst 12 (List.map Gq0.lv r1.1)),(28,.I (r1.1.length:Int)),(29,.I n3)] [(104,.box [.nil]),(162,.arr 84 3 (List.map Gq3.lv l4)),(811,.box [.arr 812 (List.length l5)]),(812,.nest 49 5 [(1,54,5),(2,4,1),(3,88,3)] (List.map Gq2.lv l5)),(10301,.map 3 78 (mlv LV.I bankH bankHs))] R (sN (oM (v:=(.mp _)) R (sN (oFaS tf63_1 tk3 ts3 R R R (sN (oLd R tk3 ta3 (sX ((ok_lookK (f:=LV.I) (g:=bankH) (xs:=bankHs) (key:=2) (z:=0) (o:=some 2) tm76 kok3 kf3 R R (congrArg LV.I (eq_of_beq hk14)) tz78 R).ok) (sMt R (sN (oEx R R (sN (oEx R R (sN (oA (v:=(.fn _ _)) R (sAb R zS))))))))))))))) (LH.seqT [(1,.I p1),(4,.ptr 104 0),(9,.ptr 811 0),(10,.arr 162 (List.length l4)),(11,.mp 10301),(13,.sptr (Gq0.lv x7).cells),(14,.I 2),(15,.fn 58 []),(27,.lst 12 (List.map Gq0.lv r1.1)),(28,.I (r1.1.length:Int)),(29,.I n3),(45,.bool true)] [(104,.box [.nil]),(162,.arr 84 3 (List.map Gq3.lv l4)),(811,.box [.arr 812 (List.length l5)]),(812,.nest 49 5 [(1,54,5),(2,4,1),(3,88,3)] (List.map Gq2.lv l5)),(10301,.map 3 78 (mlv LV.I bankH bankHs))] R (sMb R zS) (LH.cond (t:=true) R (fun hc15=>?_) (fun hc15=>?_)))
    ·obtain ⟨r16,hr16,h⟩:=bindS h
     refine LH.loneT [(1,.I p1),(4,.ptr 104 0),(9,.ptr 811 0),(10,.arr 162 (List.length l4)),(11,.mp 10301),(13,.sptr (Gq0.lv x7).cells),(14,.I r16.1),(27,.lst 12 (List.map Gq0.lv r1.1)),(28,.I (r1.1.length:Int)),(29,.I n3)] [(104,.box [.nil]),(162,.arr 84 3 (List.map Gq3.lv l4)),(811,.box [.arr 812 (List.length r16.2.Records)]),(812,.nest 49 5 [(1,54,5),(2,4,1),(3,88,3)] (List.map Gq2.lv r16.2.Records)),(10301,.map 3 78 (mlv LV.I bankH bankHs))] R (sN (oM (v:=(.fn _ _)) R (sN (oLdA R tk63 ta63 ts63 R R (sN (oCM (args:=[.ptr 811 0,Gq0.lv x7]) (ml:=[(811,.box [.arr 812 (List.length l5)]),(812,.nest 49 5 [(1,54,5),(2,4,1),(3,88,3)] (List.map Gq2.lv l5))]) (ml':=[(811,.box [.arr 812 (List.length r16.2.Records)]),(812,.nest 49 5 [(1,54,5),(2,4,1),(3,88,3)] (List.map Gq2.lv r16.2.Records))]) R isF58 R (sbR (sbR sbN)) (q233q hr16) ⟨R,R,trivial⟩ (newI R (newI R newN)) R (sAi R zS))))))) (thenN (LH.seqT [(1,.I p1),(4,.ptr 104 0),(9,.ptr 811 0),(10,.arr 162 (List.length l4)),(11,.mp 10301),(13,.sptr (Gq0.lv x7).cells),(14,.I r16.1),(27,.lst 12 (List.map Gq0.lv r1.1)),(28,.I (r1.1.length:Int)),(29,.I n3),(50,.bool (r16.1 != 0))] [(104,.box [.nil]),(162,.arr 84 3 (List.map Gq3.lv l4)),(811,.box [.arr 812 (List.length r16.2.Records)]),(812,.nest 49 5 [(1,54,5),(2,4,1),(3,88,3)] (List.map Gq2.lv r16.2.Records)),(10301,.map 3 78 (mlv LV.I bankH bankHs))] R (sMi R (sN (oNe R R zS))) (LH.cond (t:=(r16.1 != 0)) R (fun hc17=>?_) (fun hc17=>?_))))
     ·replace h:=iteT h hc17
      obtain ⟨v18,hv18,h⟩:=bindS h
      refine LH.loneT [(1,.I p1),(4,.ptr 104 0),(9,.ptr 811 0),(10,.arr 162 (List.length v18)),(11,.mp 10301),(27,.lst 12 (List.map Gq0.lv r1.1)),(28,.I (r1.1.length:Int)),(29,.I n3)] [(104,.box [.nil]),(162,.arr 84 3 (List.map Gq3.lv v18)),(811,.box [.arr 812 (List.length r16.2.Records)]),(812,.nest 49 5 [(1,54,5),(2,4,1),(3,88,3)] (List.map Gq2.lv r16.2.Records)),(10301,.map 3 78 (mlv LV.I bankH bankHs))] R (sMa R (sN (oFaS tf63_0 tk61 ts61 R R R (sN (oFaS tf61_1 tk3 ts3 R R R (sN (oLd R tk3 ta3 (sN (oFaS tf63_0 tk61 ts61 R R R (sN (oFaS tf61_2 tk3 ts3 R R R (sN (oLd R tk3 ta3 (sN (oBd (vs:=[(0,.I x7.Stamp.Source),(1,.I x7.Stamp.Seq)]) tu82 tz82 R (lf tf82_0 ts3 tk3 R R R (lf tf82_1 ts3 tk3 R R R lf0)) (sMi R (sN (oBd (vs:=[(0,.agg [.I x7.Stamp.Source,.I x7.Stamp.Seq]),(1,.I r16.1)]) tu84 tz84 R (lf tf84_0 ts82 tk82 R R R (lf tf84_1 ts32 tk32 R R R lf0)) (sN (oBS (f:=Gq3.lv) (ys:=[(Gq3.mk (Gq1.mk x7.Stamp.Source x7.Stamp.Seq) r16.1)]) te31 tr84 ts84 R R R Gq3.ok (sN (oAp (f:=Gq3.lv) te31 tr84 ts84 R R (prN R) R hv18 (sAa R zS))))))))))))))))))))))) (blockN (thenN (LH.loneT [(1,.I p1),(4,.ptr 104 0),(9,.ptr 811 0),(10,.arr 162 (List.length v18)),(11,.mp 10301),(27,.lst 12 (List.map Gq0.lv r1.1)),(28,.I (r1.1.length:Int)),(29,.I (i64 (n3+1)))] [(104,.box [.nil]),(162,.arr 84 3 (List.map Gq3.lv v18)),(811,.box [.arr 812 (List.length r16.2.Records)]),(812,.nest 49 5 [(1,54,5),(2,4,1),(3,88,3)] (List.map Gq2.lv r16.2.Records)),(10301,.map 3 78 (mlv LV.I bankH bankHs))] R (sN (oAdd R R (sMi R zS))) ?_)))
      exact roundI ⟨(i64 (n3+1)),v18,r16.2.Records,hrec1 ▸ h,R,R⟩ (Wk.eq R R R R)
     replace h:=iteF h hc17
     refine LH.skip (blockN (thenN (LH.loneT [(1,.I p1),(4,.ptr 104 0),(9,.ptr 811 0),(10,.arr 162 (List.length l4)),(11,.mp 10301),(27,.lst 12 (List.map Gq0.lv r1.1)),(28,.I (r1.1.length:Int)),(29,.I (i64 (n3+1)))] [(104,.box [.nil]),(162,.arr 84 3 (List.map Gq3.lv l4)),(811,.box [.arr 812 (List.length r16.2.Records)]),(812,.nest 49 5 [(1,54,5),(2,4,1),(3,88,3)] (List.map Gq2.lv r16.2.Records)),(10301,.map 3 78 (mlv LV.I bankH bankHs))] R (sN (oAdd R R (sMi R zS))) ?_)))
     exact roundI ⟨(i64 (n3+1)),l4,r16.2.Records,hrec1 ▸ h,R,R⟩ (Wk.eq R R R R)
    ·cases hc15
   replace hk14:=bF hk14
   replace h:=iteF h hk14
   by_cases hk19:(x7.Kind == 3)=true
   ·replace h:=iteT h hk19
    refine LH.seqT [(1,.I p1),(4,.ptr 104 0),(9,.ptr 811 0),(10,.arr 162 (List.length l4)),(11,.mp 10301),(13,.sptr (Gq0.lv x7).cells),(14,.I 2),(15,.fn 59 []),(16,.bool true),(27,.lst 12 (List.map Gq0.lv r1.1)),(28,.I (r1.1.length:Int)),(29,.I n3)] [(104,.box [.nil]),(162,.arr 84 3 (List.map Gq3.lv l4)),(811,.box [.arr 812 (List.length l5)]),(812,.nest 49 5 [(1,54,5),(2,4,1),(3,88,3)] (List.map Gq2.lv l5)),(10301,.map 3 78 (mlv LV.I bankH bankHs))] R (sN (oM (v:=(.mp _)) R (sN (oFaS tf63_1 tk3 ts3 R R R (sN (oLd R tk3 ta3 (sX ((ok_lookK (f:=LV.I) (g:=bankH) (xs:=bankHs) (key:=3) (z:=0) (o:=some 3) tm76 kok3 kf3 R R (congrArg LV.I (eq_of_beq hk19)) tz78 R).ok) (sMt R (sN (oEx R R (sN (oEx R R (sN (oA (v:=(.fn _ _)) R (sAb R zS))))))))))))))) (LH.seqT [(1,.I p1),(4,.ptr 104 0),(9,.ptr 811 0),(10,.arr 162 (List.length l4)),(11,.mp 10301),(13,.sptr (Gq0.lv x7).cells),(14,.I 2),(15,.fn 59 []),(27,.lst 12 (List.map Gq0.lv r1.1)),(28,.I (r1.1.length:Int)),(29,.I n3),(45,.bool true)] [(104,.box [.nil]),(162,.arr 84 3 (List.map Gq3.lv l4)),(811,.box [.arr 812 (List.length l5)]),(812,.nest 49 5 [(1,54,5),(2,4,1),(3,88,3)] (List.map Gq2.lv l5)),(10301,.map 3 78 (mlv LV.I bankH bankHs))] R (sMb R zS) (LH.cond (t:=true) R (fun hc20=>?_) (fun hc20=>?_)))
    ·obtain ⟨r21,hr21,h⟩:=bindS h
     refine LH.loneT [(1,.I p1),(4,.ptr 104 0),(9,.ptr 811 0),(10,.arr 162 (List.length l4)),(11,.mp 10301),(13,.sptr (Gq0.lv x7).cells),(14,.I r21.1),(27,.lst 12 (List.map Gq0.lv r1.1)),(28,.I (r1.1.length:Int)),(29,.I n3)] [(104,.box [.nil]),(162,.arr 84 3 (List.map Gq3.lv l4)),(811,.box [.arr 812 (List.length r21.2.Records)]),(812,.nest 49 5 [(1,54,5),(2,4,1),(3,88,3)] (List.map Gq2.lv r21.2.Records)),(10301,.map 3 78 (mlv LV.I bankH bankHs))] R (sN (oM (v:=(.fn _ _)) R (sN (oLdA R tk63 ta63 ts63 R R (sN (oCM (args:=[.ptr 811 0,Gq0.lv x7]) (ml:=[(811,.box [.arr 812 (List.length l5)]),(812,.nest 49 5 [(1,54,5),(2,4,1),(3,88,3)] (List.map Gq2.lv l5))]) (ml':=[(811,.box [.arr 812 (List.length r21.2.Records)]),(812,.nest 49 5 [(1,54,5),(2,4,1),(3,88,3)] (List.map Gq2.lv r21.2.Records))]) R isF59 R (sbR (sbR sbN)) (q227q hr21) ⟨R,R,trivial⟩ (newI R (newI R newN)) R (sAi R zS))))))) (thenN (LH.seqT [(1,.I p1),(4,.ptr 104 0),(9,.ptr 811 0),(10,.arr 162 (List.length l4)),(11,.mp 10301),(13,.sptr (Gq0.lv x7).cells),(14,.I r21.1),(27,.lst 12 (List.map Gq0.lv r1.1)),(28,.I (r1.1.length:Int)),(29,.I n3),(50,.bool (r21.1 != 0))] [(104,.box [.nil]),(162,.arr 84 3 (List.map Gq3.lv l4)),(811,.box [.arr 812 (List.length r21.2.Records)]),(812,.nest 49 5 [(1,54,5),(2,4,1),(3,88,3)] (List.map Gq2.lv r21.2.Records)),(10301,.map 3 78 (mlv LV.I bankH bankHs))] R (sMi R (sN (oNe R R zS))) (LH.cond (t:=(r21.1 != 0)) R (fun hc22=>?_) (fun hc22=>?_))))
     ·replace h:=iteT h hc22
      obtain ⟨v23,hv23,h⟩:=bindS h
      refine LH.loneT [(1,.I p1),(4,.ptr 104 0),(9,.ptr 811 0),(10,.arr 162 (List.length v23)),(11,.mp 10301),(27,.lst 12 (List.map Gq0.lv r1.1)),(28,.I (r1.1.length:Int)),(29,.I n3)] [(104,.box [.nil]),(162,.arr 84 3 (List.map Gq3.lv v23)),(811,.box [.arr 812 (List.length r21.2.Records)]),(812,.nest 49 5 [(1,54,5),(2,4,1),(3,88,3)] (List.map Gq2.lv r21.2.Records)),(10301,.map 3 78 (mlv LV.I bankH bankHs))] R (sMa R (sN (oFaS tf63_0 tk61 ts61 R R R (sN (oFaS tf61_1 tk3 ts3 R R R (sN (oLd R tk3 ta3 (sN (oFaS tf63_0 tk61 ts61 R R R (sN (oFaS tf61_2 tk3 ts3 R R R (sN (oLd R tk3 ta3 (sN (oBd (vs:=[(0,.I x7.Stamp.Source),(1,.I x7.Stamp.Seq)]) tu82 tz82 R (lf tf82_0 ts3 tk3 R R R (lf tf82_1 ts3 tk3 R R R lf0)) (sMi R (sN (oBd (vs:=[(0,.agg [.I x7.Stamp.Source,.I x7.Stamp.Seq]),(1,.I r21.1)]) tu84 tz84 R (lf tf84_0 ts82 tk82 R R R (lf tf84_1 ts32 tk32 R R R lf0)) (sN (oBS (f:=Gq3.lv) (ys:=[(Gq3.mk (Gq1.mk x7.Stamp.Source x7.Stamp.Seq) r21.1)]) te31 tr84 ts84 R R R Gq3.ok (sN (oAp (f:=Gq3.lv) te31 tr84 ts84 R R (prN R) R hv23 (sAa R zS))))))))))))))))))))))) (blockN (thenN (LH.loneT [(1,.I p1),(4,.ptr 104 0),(9,.ptr 811 0),(10,.arr 162 (List.length v23)),(11,.mp 10301),(27,.lst 12 (List.map Gq0.lv r1.1)),(28,.I (r1.1.length:Int)),(29,.I (i64 (n3+1)))] [(104,.box [.nil]),(162,.arr 84 3 (List.map Gq3.lv v23)),(811,.box [.arr 812 (List.length r21.2.Records)]),(812,.nest 49 5 [(1,54,5),(2,4,1),(3,88,3)] (List.map Gq2.lv r21.2.Records)),(10301,.map 3 78 (mlv LV.I bankH bankHs))] R (sN (oAdd R R (sMi R zS))) ?_)))
      exact roundI ⟨(i64 (n3+1)),v23,r21.2.Records,hrec1 ▸ h,R,R⟩ (Wk.eq R R R R)
     replace h:=iteF h hc22
     refine LH.skip (blockN (thenN (LH.loneT [(1,.I p1),(4,.ptr 104 0),(9,.ptr 811 0),(10,.arr 162 (List.length l4)),(11,.mp 10301),(27,.lst 12 (List.map Gq0.lv r1.1)),(28,.I (r1.1.length:Int)),(29,.I (i64 (n3+1)))] [(104,.box [.nil]),(162,.arr 84 3 (List.map Gq3.lv l4)),(811,.box [.arr 812 (List.length r21.2.Records)]),(812,.nest 49 5 [(1,54,5),(2,4,1),(3,88,3)] (List.map Gq2.lv r21.2.Records)),(10301,.map 3 78 (mlv LV.I bankH bankHs))] R (sN (oAdd R R (sMi R zS))) ?_)))
     exact roundI ⟨(i64 (n3+1)),l4,r21.2.Records,hrec1 ▸ h,R,R⟩ (Wk.eq R R R R)
    ·cases hc20
   replace hk19:=bF hk19
   replace h:=iteF h hk19
   by_cases hk24:(x7.Kind == 4)=true
   ·replace h:=iteT h hk24
    refine LH.seqT [(1,.I p1),(4,.ptr 104 0),(9,.ptr 811 0),(10,.arr 162 (List.length l4)),(11,.mp 10301),(13,.sptr (Gq0.lv x7).cells),(14,.I 2),(15,.fn 60 []),(16,.bool true),(27,.lst 12 (List.map Gq0.lv r1.1)),(28,.I (r1.1.length:Int)),(29,.I n3)] [(104,.box [.nil]),(162,.arr 84 3 (List.map Gq3.lv l4)),(811,.box [.arr 812 (List.length l5)]),(812,.nest 49 5 [(1,54,5),(2,4,1),(3,88,3)] (List.map Gq2.lv l5)),(10301,.map 3 78 (mlv LV.I bankH bankHs))] R (sN (oM (v:=(.mp _)) R (sN (oFaS tf63_1 tk3 ts3 R R R (sN (oLd R tk3 ta3 (sX ((ok_lookK (f:=LV.I) (g:=bankH) (xs:=bankHs) (key:=4) (z:=0) (o:=some 4) tm76 kok3 kf3 R R (congrArg LV.I (eq_of_beq hk24)) tz78 R).ok) (sMt R (sN (oEx R R (sN (oEx R R (sN (oA (v:=(.fn _ _)) R (sAb R zS))))))))))))))) (LH.seqT [(1,.I p1),(4,.ptr 104 0),(9,.ptr 811 0),(10,.arr 162 (List.length l4)),(11,.mp 10301),(13,.sptr (Gq0.lv x7).cells),(14,.I 2),(15,.fn 60 []),(27,.lst 12 (List.map Gq0.lv r1.1)),(28,.I (r1.1.length:Int)),(29,.I n3),(45,.bool true)] [(104,.box [.nil]),(162,.arr 84 3 (List.map Gq3.lv l4)),(811,.box [.arr 812 (List.length l5)]),(812,.nest 49 5 [(1,54,5),(2,4,1),(3,88,3)] (List.map Gq2.lv l5)),(10301,.map 3 78 (mlv LV.I bankH bankHs))] R (sMb R zS) (LH.cond (t:=true) R (fun hc25=>?_) (fun hc25=>?_)))
    ·obtain ⟨r26,hr26,h⟩:=bindS h
     refine LH.loneT [(1,.I p1),(4,.ptr 104 0),(9,.ptr 811 0),(10,.arr 162 (List.length l4)),(11,.mp 10301),(13,.sptr (Gq0.lv x7).cells),(14,.I r26.1),(27,.lst 12 (List.map Gq0.lv r1.1)),(28,.I (r1.1.length:Int)),(29,.I n3)] [(104,.box [.nil]),(162,.arr 84 3 (List.map Gq3.lv l4)),(811,.box [.arr 812 (List.length r26.2.Records)]),(812,.nest 49 5 [(1,54,5),(2,4,1),(3,88,3)] (List.map Gq2.lv r26.2.Records)),(10301,.map 3 78 (mlv LV.I bankH bankHs))] R (sN (oM (v:=(.fn _ _)) R (sN (oLdA R tk63 ta63 ts63 R R (sN (oCM (args:=[.ptr 811 0,Gq0.lv x7]) (ml:=[(811,.box [.arr 812 (List.length l5)]),(812,.nest 49 5 [(1,54,5),(2,4,1),(3,88,3)] (List.map Gq2.lv l5))]) (ml':=[(811,.box [.arr 812 (List.length r26.2.Records)]),(812,.nest 49 5 [(1,54,5),(2,4,1),(3,88,3)] (List.map Gq2.lv r26.2.Records))]) R isF60 R (sbR (sbR sbN)) (q250q hr26) ⟨R,R,trivial⟩ (newI R (newI R newN)) R (sAi R zS))))))) (thenN (LH.seqT [(1,.I p1),(4,.ptr 104 0),(9,.ptr 811 0),(10,.arr 162 (List.length l4)),(11,.mp 10301),(13,.sptr (Gq0.lv x7).cells),(14,.I r26.1),(27,.lst 12 (List.map Gq0.lv r1.1)),(28,.I (r1.1.length:Int)),(29,.I n3),(50,.bool (r26.1 != 0))] [(104,.box [.nil]),(162,.arr 84 3 (List.map Gq3.lv l4)),(811,.box [.arr 812 (List.length r26.2.Records)]),(812,.nest 49 5 [(1,54,5),(2,4,1),(3,88,3)] (List.map Gq2.lv r26.2.Records)),(10301,.map 3 78 (mlv LV.I bankH bankHs))] R (sMi R (sN (oNe R R zS))) (LH.cond (t:=(r26.1 != 0)) R (fun hc27=>?_) (fun hc27=>?_))))
     ·replace h:=iteT h hc27
      obtain ⟨v28,hv28,h⟩:=bindS h
      refine LH.loneT [(1,.I p1),(4,.ptr 104 0),(9,.ptr 811 0),(10,.arr 162 (List.length v28)),(11,.mp 10301),(27,.lst 12 (List.map Gq0.lv r1.1)),(28,.I (r1.1.length:Int)),(29,.I n3)] [(104,.box [.nil]),(162,.arr 84 3 (List.map Gq3.lv v28)),(811,.box [.arr 812 (List.length r26.2.Records)]),(812,.nest 49 5 [(1,54,5),(2,4,1),(3,88,3)] (List.map Gq2.lv r26.2.Records)),(10301,.map 3 78 (mlv LV.I bankH bankHs))] R (sMa R (sN (oFaS tf63_0 tk61 ts61 R R R (sN (oFaS tf61_1 tk3 ts3 R R R (sN (oLd R tk3 ta3 (sN (oFaS tf63_0 tk61 ts61 R R R (sN (oFaS tf61_2 tk3 ts3 R R R (sN (oLd R tk3 ta3 (sN (oBd (vs:=[(0,.I x7.Stamp.Source),(1,.I x7.Stamp.Seq)]) tu82 tz82 R (lf tf82_0 ts3 tk3 R R R (lf tf82_1 ts3 tk3 R R R lf0)) (sMi R (sN (oBd (vs:=[(0,.agg [.I x7.Stamp.Source,.I x7.Stamp.Seq]),(1,.I r26.1)]) tu84 tz84 R (lf tf84_0 ts82 tk82 R R R (lf tf84_1 ts32 tk32 R R R lf0)) (sN (oBS (f:=Gq3.lv) (ys:=[(Gq3.mk (Gq1.mk x7.Stamp.Source x7.Stamp.Seq) r26.1)]) te31 tr84 ts84 R R R Gq3.ok (sN (oAp (f:=Gq3.lv) te31 tr84 ts84 R R (prN R) R hv28 (sAa R zS))))))))))))))))))))))) (blockN (thenN (LH.loneT [(1,.I p1),(4,.ptr 104 0),(9,.ptr 811 0),(10,.arr 162 (List.length v28)),(11,.mp 10301),(27,.lst 12 (List.map Gq0.lv r1.1)),(28,.I (r1.1.length:Int)),(29,.I (i64 (n3+1)))] [(104,.box [.nil]),(162,.arr 84 3 (List.map Gq3.lv v28)),(811,.box [.arr 812 (List.length r26.2.Records)]),(812,.nest 49 5 [(1,54,5),(2,4,1),(3,88,3)] (List.map Gq2.lv r26.2.Records)),(10301,.map 3 78 (mlv LV.I bankH bankHs))] R (sN (oAdd R R (sMi R zS))) ?_)))
      exact roundI ⟨(i64 (n3+1)),v28,r26.2.Records,hrec1 ▸ h,R,R⟩ (Wk.eq R R R R)
     replace h:=iteF h hc27
     refine LH.skip (blockN (thenN (LH.loneT [(1,.I p1),(4,.ptr 104 0),(9,.ptr 811 0),(10,.arr 162 (List.length l4)),(11,.mp 10301),(27,.lst 12 (List.map Gq0.lv r1.1)),(28,.I (r1.1.length:Int)),(29,.I (i64 (n3+1)))] [(104,.box [.nil]),(162,.arr 84 3 (List.map Gq3.lv l4)),(811,.box [.arr 812 (List.length r26.2.Records)]),(812,.nest 49 5 [(1,54,5),(2,4,1),(3,88,3)] (List.map Gq2.lv r26.2.Records)),(10301,.map 3 78 (mlv LV.I bankH bankHs))] R (sN (oAdd R R (sMi R zS))) ?_)))
     exact roundI ⟨(i64 (n3+1)),l4,r26.2.Records,hrec1 ▸ h,R,R⟩ (Wk.eq R R R R)
    ·cases hc25
   replace hk24:=bF hk24
   replace h:=iteF h hk24
   by_cases hk29:(x7.Kind == 5)=true
   ·replace h:=iteT h hk29
    refine LH.seqT [(1,.I p1),(4,.ptr 104 0),(9,.ptr 811 0),(10,.arr 162 (List.length l4)),(11,.mp 10301),(13,.sptr (Gq0.lv x7).cells),(14,.I 2),(15,.fn 81 [.sptr [.bool true]]),(16,.bool true),(27,.lst 12 (List.map Gq0.lv r1.1)),(28,.I (r1.1.length:Int)),(29,.I n3)] [(104,.box [.nil]),(162,.arr 84 3 (List.map Gq3.lv l4)),(811,.box [.arr 812 (List.length l5)]),(812,.nest 49 5 [(1,54,5),(2,4,1),(3,88,3)] (List.map Gq2.lv l5)),(10301,.map 3 78 (mlv LV.I bankH bankHs))] R (sN (oM (v:=(.mp _)) R (sN (oFaS tf63_1 tk3 ts3 R R R (sN (oLd R tk3 ta3 (sX ((ok_lookK (f:=LV.I) (g:=bankH) (xs:=bankHs) (key:=5) (z:=0) (o:=some 5) tm76 kok3 kf3 R R (congrArg LV.I (eq_of_beq hk29)) tz78 R).ok) (sMt R (sN (oEx R R (sN (oEx R R (sN (oA (v:=(.fn _ _)) R (sAb R zS))))))))))))))) (LH.seqT [(1,.I p1),(4,.ptr 104 0),(9,.ptr 811 0),(10,.arr 162 (List.length l4)),(11,.mp 10301),(13,.sptr (Gq0.lv x7).cells),(14,.I 2),(15,.fn 81 [.sptr [.bool true]]),(27,.lst 12 (List.map Gq0.lv r1.1)),(28,.I (r1.1.length:Int)),(29,.I n3),(45,.bool true)] [(104,.box [.nil]),(162,.arr 84 3 (List.map Gq3.lv l4)),(811,.box [.arr 812 (List.length l5)]),(812,.nest 49 5 [(1,54,5),(2,4,1),(3,88,3)] (List.map Gq2.lv l5)),(10301,.map 3 78 (mlv LV.I bankH bankHs))] R (sMb R zS) (LH.cond (t:=true) R (fun hc30=>?_) (fun hc30=>?_)))
    ·obtain ⟨r31,hr31,h⟩:=bindS h
     refine LH.loneT [(1,.I p1),(4,.ptr 104 0),(9,.ptr 811 0),(10,.arr 162 (List.length l4)),(11,.mp 10301),(13,.sptr (Gq0.lv x7).cells),(14,.I r31.1),(27,.lst 12 (List.map Gq0.lv r1.1)),(28,.I (r1.1.length:Int)),(29,.I n3)] [(104,.box [.nil]),(162,.arr 84 3 (List.map Gq3.lv l4)),(811,.box [.arr 812 (List.length r31.2.Records)]),(812,.nest 49 5 [(1,54,5),(2,4,1),(3,88,3)] (List.map Gq2.lv r31.2.Records)),(10301,.map 3 78 (mlv LV.I bankH bankHs))] R (sN (oM (v:=(.fn _ _)) R (sN (oLdA R tk63 ta63 ts63 R R (sN (oCM (args:=[.ptr 811 0,Gq0.lv x7,.sptr [.bool true]]) (ml:=[(811,.box [.arr 812 (List.length l5)]),(812,.nest 49 5 [(1,54,5),(2,4,1),(3,88,3)] (List.map Gq2.lv l5))]) (ml':=[(811,.box [.arr 812 (List.length r31.2.Records)]),(812,.nest 49 5 [(1,54,5),(2,4,1),(3,88,3)] (List.map Gq2.lv r31.2.Records))]) R isF81 R (sbR (sbR (sbR sbN))) (q167q hr31) ⟨R,R,trivial⟩ (newI R (newI R newN)) R (sAi R zS))))))) (thenN (LH.seqT [(1,.I p1),(4,.ptr 104 0),(9,.ptr 811 0),(10,.arr 162 (List.length l4)),(11,.mp 10301),(13,.sptr (Gq0.lv x7).cells),(14,.I r31.1),(27,.lst 12 (List.map Gq0.lv r1.1)),(28,.I (r1.1.length:Int)),(29,.I n3),(50,.bool (r31.1 != 0))] [(104,.box [.nil]),(162,.arr 84 3 (List.map Gq3.lv l4)),(811,.box [.arr 812 (List.length r31.2.Records)]),(812,.nest 49 5 [(1,54,5),(2,4,1),(3,88,3)] (List.map Gq2.lv r31.2.Records)),(10301,.map 3 78 (mlv LV.I bankH bankHs))] R (sMi R (sN (oNe R R zS))) (LH.cond (t:=(r31.1 != 0)) R (fun hc32=>?_) (fun hc32=>?_))))
     ·replace h:=iteT h hc32
      obtain ⟨v33,hv33,h⟩:=bindS h
      refine LH.loneT [(1,.I p1),(4,.ptr 104 0),(9,.ptr 811 0),(10,.arr 162 (List.length v33)),(11,.mp 10301),(27,.lst 12 (List.map Gq0.lv r1.1)),(28,.I (r1.1.length:Int)),(29,.I n3)] [(104,.box [.nil]),(162,.arr 84 3 (List.map Gq3.lv v33)),(811,.box [.arr 812 (List.length r31.2.Records)]),(812,.nest 49 5 [(1,54,5),(2,4,1),(3,88,3)] (List.map Gq2.lv r31.2.Records)),(10301,.map 3 78 (mlv LV.I bankH bankHs))] R (sMa R (sN (oFaS tf63_0 tk61 ts61 R R R (sN (oFaS tf61_1 tk3 ts3 R R R (sN (oLd R tk3 ta3 (sN (oFaS tf63_0 tk61 ts61 R R R (sN (oFaS tf61_2 tk3 ts3 R R R (sN (oLd R tk3 ta3 (sN (oBd (vs:=[(0,.I x7.Stamp.Source),(1,.I x7.Stamp.Seq)]) tu82 tz82 R (lf tf82_0 ts3 tk3 R R R (lf tf82_1 ts3 tk3 R R R lf0)) (sMi R (sN (oBd (vs:=[(0,.agg [.I x7.Stamp.Source,.I x7.Stamp.Seq]),(1,.I r31.1)]) tu84 tz84 R (lf tf84_0 ts82 tk82 R R R (lf tf84_1 ts32 tk32 R R R lf0)) (sN (oBS (f:=Gq3.lv) (ys:=[(Gq3.mk (Gq1.mk x7.Stamp.Source x7.Stamp.Seq) r31.1)]) te31 tr84 ts84 R R R Gq3.ok (sN (oAp (f:=Gq3.lv) te31 tr84 ts84 R R (prN R) R hv33 (sAa R zS))))))))))))))))))))))) (blockN (thenN (LH.loneT [(1,.I p1),(4,.ptr 104 0),(9,.ptr 811 0),(10,.arr 162 (List.length v33)),(11,.mp 10301),(27,.lst 12 (List.map Gq0.lv r1.1)),(28,.I (r1.1.length:Int)),(29,.I (i64 (n3+1)))] [(104,.box [.nil]),(162,.arr 84 3 (List.map Gq3.lv v33)),(811,.box [.arr 812 (List.length r31.2.Records)]),(812,.nest 49 5 [(1,54,5),(2,4,1),(3,88,3)] (List.map Gq2.lv r31.2.Records)),(10301,.map 3 78 (mlv LV.I bankH bankHs))] R (sN (oAdd R R (sMi R zS))) ?_)))
      exact roundI ⟨(i64 (n3+1)),v33,r31.2.Records,hrec1 ▸ h,R,R⟩ (Wk.eq R R R R)
     replace h:=iteF h hc32
     refine LH.skip (blockN (thenN (LH.loneT [(1,.I p1),(4,.ptr 104 0),(9,.ptr 811 0),(10,.arr 162 (List.length l4)),(11,.mp 10301),(27,.lst 12 (List.map Gq0.lv r1.1)),(28,.I (r1.1.length:Int)),(29,.I (i64 (n3+1)))] [(104,.box [.nil]),(162,.arr 84 3 (List.map Gq3.lv l4)),(811,.box [.arr 812 (List.length r31.2.Records)]),(812,.nest 49 5 [(1,54,5),(2,4,1),(3,88,3)] (List.map Gq2.lv r31.2.Records)),(10301,.map 3 78 (mlv LV.I bankH bankHs))] R (sN (oAdd R R (sMi R zS))) ?_)))
     exact roundI ⟨(i64 (n3+1)),l4,r31.2.Records,hrec1 ▸ h,R,R⟩ (Wk.eq R R R R)
    ·cases hc30
   replace hk29:=bF hk29
   replace h:=iteF h hk29
   by_cases hk34:(x7.Kind == 6)=true
   ·replace h:=iteT h hk34
    refine LH.seqT [(1,.I p1),(4,.ptr 104 0),(9,.ptr 811 0),(10,.arr 162 (List.length l4)),(11,.mp 10301),(13,.sptr (Gq0.lv x7).cells),(14,.I 2),(15,.fn 81 [.sptr [.bool false]]),(16,.bool true),(27,.lst 12 (List.map Gq0.lv r1.1)),(28,.I (r1.1.length:Int)),(29,.I n3)] [(104,.box [.nil]),(162,.arr 84 3 (List.map Gq3.lv l4)),(811,.box [.arr 812 (List.length l5)]),(812,.nest 49 5 [(1,54,5),(2,4,1),(3,88,3)] (List.map Gq2.lv l5)),(10301,.map 3 78 (mlv LV.I bankH bankHs))] R (sN (oM (v:=(.mp _)) R (sN (oFaS tf63_1 tk3 ts3 R R R (sN (oLd R tk3 ta3 (sX ((ok_lookK (f:=LV.I) (g:=bankH) (xs:=bankHs) (key:=6) (z:=0) (o:=some 6) tm76 kok3 kf3 R R (congrArg LV.I (eq_of_beq hk34)) tz78 R).ok) (sMt R (sN (oEx R R (sN (oEx R R (sN (oA (v:=(.fn _ _)) R (sAb R zS))))))))))))))) (LH.seqT [(1,.I p1),(4,.ptr 104 0),(9,.ptr 811 0),(10,.arr 162 (List.length l4)),(11,.mp 10301),(13,.sptr (Gq0.lv x7).cells),(14,.I 2),(15,.fn 81 [.sptr [.bool false]]),(27,.lst 12 (List.map Gq0.lv r1.1)),(28,.I (r1.1.length:Int)),(29,.I n3),(45,.bool true)] [(104,.box [.nil]),(162,.arr 84 3 (List.map Gq3.lv l4)),(811,.box [.arr 812 (List.length l5)]),(812,.nest 49 5 [(1,54,5),(2,4,1),(3,88,3)] (List.map Gq2.lv l5)),(10301,.map 3 78 (mlv LV.I bankH bankHs))] R (sMb R zS) (LH.cond (t:=true) R (fun hc35=>?_) (fun hc35=>?_)))
    ·obtain ⟨r36,hr36,h⟩:=bindS h
     refine LH.loneT [(1,.I p1),(4,.ptr 104 0),(9,.ptr 811 0),(10,.arr 162 (List.length l4)),(11,.mp 10301),(13,.sptr (Gq0.lv x7).cells),(14,.I r36.1),(27,.lst 12 (List.map Gq0.lv r1.1)),(28,.I (r1.1.length:Int)),(29,.I n3)] [(104,.box [.nil]),(162,.arr 84 3 (List.map Gq3.lv l4)),(811,.box [.arr 812 (List.length r36.2.Records)]),(812,.nest 49 5 [(1,54,5),(2,4,1),(3,88,3)] (List.map Gq2.lv r36.2.Records)),(10301,.map 3 78 (mlv LV.I bankH bankHs))] R (sN (oM (v:=(.fn _ _)) R (sN (oLdA R tk63 ta63 ts63 R R (sN (oCM (args:=[.ptr 811 0,Gq0.lv x7,.sptr [.bool false]]) (ml:=[(811,.box [.arr 812 (List.length l5)]),(812,.nest 49 5 [(1,54,5),(2,4,1),(3,88,3)] (List.map Gq2.lv l5))]) (ml':=[(811,.box [.arr 812 (List.length r36.2.Records)]),(812,.nest 49 5 [(1,54,5),(2,4,1),(3,88,3)] (List.map Gq2.lv r36.2.Records))]) R isF81 R (sbR (sbR (sbR sbN))) (q167q hr36) ⟨R,R,trivial⟩ (newI R (newI R newN)) R (sAi R zS))))))) (thenN (LH.seqT [(1,.I p1),(4,.ptr 104 0),(9,.ptr 811 0),(10,.arr 162 (List.length l4)),(11,.mp 10301),(13,.sptr (Gq0.lv x7).cells),(14,.I r36.1),(27,.lst 12 (List.map Gq0.lv r1.1)),(28,.I (r1.1.length:Int)),(29,.I n3),(50,.bool (r36.1 != 0))] [(104,.box [.nil]),(162,.arr 84 3 (List.map Gq3.lv l4)),(811,.box [.arr 812 (List.length r36.2.Records)]),(812,.nest 49 5 [(1,54,5),(2,4,1),(3,88,3)] (List.map Gq2.lv r36.2.Records)),(10301,.map 3 78 (mlv LV.I bankH bankHs))] R (sMi R (sN (oNe R R zS))) (LH.cond (t:=(r36.1 != 0)) R (fun hc37=>?_) (fun hc37=>?_))))
     ·replace h:=iteT h hc37
      obtain ⟨v38,hv38,h⟩:=bindS h
      refine LH.loneT [(1,.I p1),(4,.ptr 104 0),(9,.ptr 811 0),(10,.arr 162 (List.length v38)),(11,.mp 10301),(27,.lst 12 (List.map Gq0.lv r1.1)),(28,.I (r1.1.length:Int)),(29,.I n3)] [(104,.box [.nil]),(162,.arr 84 3 (List.map Gq3.lv v38)),(811,.box [.arr 812 (List.length r36.2.Records)]),(812,.nest 49 5 [(1,54,5),(2,4,1),(3,88,3)] (List.map Gq2.lv r36.2.Records)),(10301,.map 3 78 (mlv LV.I bankH bankHs))] R (sMa R (sN (oFaS tf63_0 tk61 ts61 R R R (sN (oFaS tf61_1 tk3 ts3 R R R (sN (oLd R tk3 ta3 (sN (oFaS tf63_0 tk61 ts61 R R R (sN (oFaS tf61_2 tk3 ts3 R R R (sN (oLd R tk3 ta3 (sN (oBd (vs:=[(0,.I x7.Stamp.Source),(1,.I x7.Stamp.Seq)]) tu82 tz82 R (lf tf82_0 ts3 tk3 R R R (lf tf82_1 ts3 tk3 R R R lf0)) (sMi R (sN (oBd (vs:=[(0,.agg [.I x7.Stamp.Source,.I x7.Stamp.Seq]),(1,.I r36.1)]) tu84 tz84 R (lf tf84_0 ts82 tk82 R R R (lf tf84_1 ts32 tk32 R R R lf0)) (sN (oBS (f:=Gq3.lv) (ys:=[(Gq3.mk (Gq1.mk x7.Stamp.Source x7.Stamp.Seq) r36.1)]) te31 tr84 ts84 R R R Gq3.ok (sN (oAp (f:=Gq3.lv) te31 tr84 ts84 R R (prN R) R hv38 (sAa R zS))))))))))))))))))))))) (blockN (thenN (LH.loneT [(1,.I p1),(4,.ptr 104 0),(9,.ptr 811 0),(10,.arr 162 (List.length v38)),(11,.mp 10301),(27,.lst 12 (List.map Gq0.lv r1.1)),(28,.I (r1.1.length:Int)),(29,.I (i64 (n3+1)))] [(104,.box [.nil]),(162,.arr 84 3 (List.map Gq3.lv v38)),(811,.box [.arr 812 (List.length r36.2.Records)]),(812,.nest 49 5 [(1,54,5),(2,4,1),(3,88,3)] (List.map Gq2.lv r36.2.Records)),(10301,.map 3 78 (mlv LV.I bankH bankHs))] R (sN (oAdd R R (sMi R zS))) ?_)))
      exact roundI ⟨(i64 (n3+1)),v38,r36.2.Records,hrec1 ▸ h,R,R⟩ (Wk.eq R R R R)
     replace h:=iteF h hc37
     refine LH.skip (blockN (thenN (LH.loneT [(1,.I p1),(4,.ptr 104 0),(9,.ptr 811 0),(10,.arr 162 (List.length l4)),(11,.mp 10301),(27,.lst 12 (List.map Gq0.lv r1.1)),(28,.I (r1.1.length:Int)),(29,.I (i64 (n3+1)))] [(104,.box [.nil]),(162,.arr 84 3 (List.map Gq3.lv l4)),(811,.box [.arr 812 (List.length r36.2.Records)]),(812,.nest 49 5 [(1,54,5),(2,4,1),(3,88,3)] (List.map Gq2.lv r36.2.Records)),(10301,.map 3 78 (mlv LV.I bankH bankHs))] R (sN (oAdd R R (sMi R zS))) ?_)))
     exact roundI ⟨(i64 (n3+1)),l4,r36.2.Records,hrec1 ▸ h,R,R⟩ (Wk.eq R R R R)
    ·cases hc35
   replace hk34:=bF hk34
   replace h:=iteF h hk34
   refine LH.seqT [(1,.I p1),(4,.ptr 104 0),(9,.ptr 811 0),(10,.arr 162 (List.length l4)),(11,.mp 10301),(13,.sptr (Gq0.lv x7).cells),(14,.I 2),(15,.nilf),(16,.bool false),(27,.lst 12 (List.map Gq0.lv r1.1)),(28,.I (r1.1.length:Int)),(29,.I n3)] [(104,.box [.nil]),(162,.arr 84 3 (List.map Gq3.lv l4)),(811,.box [.arr 812 (List.length l5)]),(812,.nest 49 5 [(1,54,5),(2,4,1),(3,88,3)] (List.map Gq2.lv l5)),(10301,.map 3 78 (mlv LV.I bankH bankHs))] R (sN (oM (v:=(.mp _)) R (sN (oFaS tf63_1 tk3 ts3 R R R (sN (oLd R tk3 ta3 (sX ((ok_lookK (f:=LV.I) (g:=bankH) (xs:=bankHs) (key:=x7.Kind) (z:=0) (o:=none) tm76 kok3 kf3 R R R tz78 (mgN hk9 (mgN hk14 (mgN hk19 (mgN hk24 (mgN hk29 (mgN hk34 R))))))).ok) (sMt R (sN (oEx R R (sN (oEx R R (sN (oA (v:=.nilf) R (sAb R zS))))))))))))))) (LH.seqT [(1,.I p1),(4,.ptr 104 0),(9,.ptr 811 0),(10,.arr 162 (List.length l4)),(11,.mp 10301),(13,.sptr (Gq0.lv x7).cells),(14,.I 2),(15,.nilf),(27,.lst 12 (List.map Gq0.lv r1.1)),(28,.I (r1.1.length:Int)),(29,.I n3),(45,.bool false)] [(104,.box [.nil]),(162,.arr 84 3 (List.map Gq3.lv l4)),(811,.box [.arr 812 (List.length l5)]),(812,.nest 49 5 [(1,54,5),(2,4,1),(3,88,3)] (List.map Gq2.lv l5)),(10301,.map 3 78 (mlv LV.I bankH bankHs))] R (sMb R zS) (LH.cond (t:=false) R (fun hc39=>?_) (fun hc39=>?_)))
   ·cases hc39
   refine LH.skip (thenN (LH.seqT [(1,.I p1),(4,.ptr 104 0),(9,.ptr 811 0),(10,.arr 162 (List.length l4)),(11,.mp 10301),(13,.sptr (Gq0.lv x7).cells),(14,.I 2),(27,.lst 12 (List.map Gq0.lv r1.1)),(28,.I (r1.1.length:Int)),(29,.I n3),(50,.bool (2 != 0))] [(104,.box [.nil]),(162,.arr 84 3 (List.map Gq3.lv l4)),(811,.box [.arr 812 (List.length l5)]),(812,.nest 49 5 [(1,54,5),(2,4,1),(3,88,3)] (List.map Gq2.lv l5)),(10301,.map 3 78 (mlv LV.I bankH bankHs))] R (sMi R (sN (oNe R R zS))) (LH.cond (t:=(2 != 0)) R (fun hc40=>?_) (fun hc40=>?_))))
   ·replace h:=iteT h hc40
    obtain ⟨v41,hv41,h⟩:=bindS h
    refine LH.loneT [(1,.I p1),(4,.ptr 104 0),(9,.ptr 811 0),(10,.arr 162 (List.length v41)),(11,.mp 10301),(27,.lst 12 (List.map Gq0.lv r1.1)),(28,.I (r1.1.length:Int)),(29,.I n3)] [(104,.box [.nil]),(162,.arr 84 3 (List.map Gq3.lv v41)),(811,.box [.arr 812 (List.length l5)]),(812,.nest 49 5 [(1,54,5),(2,4,1),(3,88,3)] (List.map Gq2.lv l5)),(10301,.map 3 78 (mlv LV.I bankH bankHs))] R (sMa R (sN (oFaS tf63_0 tk61 ts61 R R R (sN (oFaS tf61_1 tk3 ts3 R R R (sN (oLd R tk3 ta3 (sN (oFaS tf63_0 tk61 ts61 R R R (sN (oFaS tf61_2 tk3 ts3 R R R (sN (oLd R tk3 ta3 (sN (oBd (vs:=[(0,.I x7.Stamp.Source),(1,.I x7.Stamp.Seq)]) tu82 tz82 R (lf tf82_0 ts3 tk3 R R R (lf tf82_1 ts3 tk3 R R R lf0)) (sMi R (sN (oBd (vs:=[(0,.agg [.I x7.Stamp.Source,.I x7.Stamp.Seq]),(1,.I 2)]) tu84 tz84 R (lf tf84_0 ts82 tk82 R R R (lf tf84_1 ts32 tk32 R R R lf0)) (sN (oBS (f:=Gq3.lv) (ys:=[(Gq3.mk (Gq1.mk x7.Stamp.Source x7.Stamp.Seq) 2)]) te31 tr84 ts84 R R R Gq3.ok (sN (oAp (f:=Gq3.lv) te31 tr84 ts84 R R (prN R) R hv41 (sAa R zS))))))))))))))))))))))) (blockN (thenN (LH.loneT [(1,.I p1),(4,.ptr 104 0),(9,.ptr 811 0),(10,.arr 162 (List.length v41)),(11,.mp 10301),(27,.lst 12 (List.map Gq0.lv r1.1)),(28,.I (r1.1.length:Int)),(29,.I (i64 (n3+1)))] [(104,.box [.nil]),(162,.arr 84 3 (List.map Gq3.lv v41)),(811,.box [.arr 812 (List.length l5)]),(812,.nest 49 5 [(1,54,5),(2,4,1),(3,88,3)] (List.map Gq2.lv l5)),(10301,.map 3 78 (mlv LV.I bankH bankHs))] R (sN (oAdd R R (sMi R zS))) ?_)))
    exact roundI ⟨(i64 (n3+1)),v41,l5,hrec1 ▸ h,R,R⟩ (Wk.eq R R R R)
   replace h:=iteF h hc40
   refine LH.skip (blockN (thenN (LH.loneT [(1,.I p1),(4,.ptr 104 0),(9,.ptr 811 0),(10,.arr 162 (List.length l4)),(11,.mp 10301),(27,.lst 12 (List.map Gq0.lv r1.1)),(28,.I (r1.1.length:Int)),(29,.I (i64 (n3+1)))] [(104,.box [.nil]),(162,.arr 84 3 (List.map Gq3.lv l4)),(811,.box [.arr 812 (List.length l5)]),(812,.nest 49 5 [(1,54,5),(2,4,1),(3,88,3)] (List.map Gq2.lv l5)),(10301,.map 3 78 (mlv LV.I bankH bankHs))] R (sN (oAdd R R (sMi R zS))) ?_)))
   exact roundI ⟨(i64 (n3+1)),l4,l5,hrec1 ▸ h,R,R⟩ (Wk.eq R R R R)
  replace h:=iteF h hc6
  refine LH.exit (thenX (roundX (blockH (thenN (LH.wk ((Wk.trans (Wk.eq (el:=[(4,.ptr 104 0),(9,.ptr 811 0),(10,.arr 162 (List.length l4))]) (ml:=[(104,.box [.nil]),(162,.arr 84 3 (List.map Gq3.lv l4)),(811,.box [.arr 812 (List.length l5)]),(812,.nest 49 5 [(1,54,5),(2,4,1),(3,88,3)] (List.map Gq2.lv l5))]) R R R R) (Wk.trans (Wk.frzL (f:=Gq3.lv) (el':=[(4,.ptr 104 0),(9,.ptr 811 0),(10,.lst 3 (List.map Gq3.lv l4))]) 162 84 3 l4 R R (prN R) (fK R (fK R (fZ fN)))) (Wk.eq (el:=[(4,.ptr 104 0),(9,.ptr 811 0),(10,.lst 3 (List.map Gq3.lv l4))]) (ml:=[(104,.box [.nil]),(811,.box [.arr 812 (List.length l5)]),(812,.nest 49 5 [(1,54,5),(2,4,1),(3,88,3)] (List.map Gq2.lv l5))]) R R R R)))) (LH.seqT [(4,.sptr [.lst 5 (List.map Gq2.lv l5)]),(5,.lst 3 (List.map Gq3.lv l4)),(6,.I 0)] [] R (SOps.wk (Wk.eq (el:=[(4,.ptr 104 0),(9,.ptr 811 0),(10,.lst 3 (List.map Gq3.lv l4))]) (ml:=[(104,.box [.nil]),(811,.box [.arr 812 (List.length l5)]),(812,.nest 49 5 [(1,54,5),(2,4,1),(3,88,3)] (List.map Gq2.lv l5))]) R R R R) (SOps.wk (Wk.trans (Wk.trans (Wk.unnest (f:=Gq2.lv) 812 49 5 [(1,54,5),(2,4,1),(3,88,3)] l5 R Gq2.ok) (Wk.eq (el:=[(4,.ptr 104 0),(9,.ptr 811 0),(10,.lst 3 (List.map Gq3.lv l4))]) (ml:=[(104,.box [.nil]),(811,.box [.arr 812 (List.length l5)]),(812,.arr 49 5 (List.map Gq2.lv l5))]) R R R R)) (Wk.trans (Wk.frzBx (f:=Gq2.lv) 812 49 5 l5 811 R R R (frAZ frA0) R R (prN R)) (Wk.eq (el:=[(4,.ptr 104 0),(9,.ptr 811 0),(10,.lst 3 (List.map Gq3.lv l4))]) (ml:=[(104,.box [.nil]),(811,.box [.lst 5 (List.map Gq2.lv l5)])]) R R R R))) (sN (oLdPA R R R tk30 ta30 ts30 R R (sMl R (s_ (oSt R R R tk30 ts30 R R R (sAl R (sAi R (s0 ((Wk.trans (Wk.eq (el:=[(4,.ptr 104 0),(5,.lst 3 (List.map Gq3.lv l4)),(6,.I 0)]) (ml:=[(104,.box [.lst 5 (List.map Gq2.lv l5)])]) R R R R) (Wk.trans (Wk.frzB 104 [.lst 5 (List.map Gq2.lv l5)] R R R (prN R)) (Wk.eq R R R R)))))))))))))) (LH.ret ?_)))))))
  obtain rfl:=oI h
  exact retE (aT Tryz.results10) (lrSA R tk30 ta30 ts30 R R (lrT R (lrT R (lr0 ⟨memN mN,R,prK R,(Sub.tup (sbR (sbR (sbR sbN))))⟩))))

theorem q220q {F:Nat} {p0:GItem} {p1:GItem} {r:List Int} (h:q162q F p0 p1=some r):LCall Tryz.prog 42 [GItem.lv p0,GItem.lv p1] (Mem.of []) (.L r) (Mem.of []):=by
  unfold q162q at h
  refine bodyT Tryz.func42 R (nT Tryz.ntmps42 R) (LH.wk (Wk.eq (el:=[(0,GItem.lv p0),(1,GItem.lv p1)]) (ml:=[]) R R R R) (LH.seqT [(2,.sptr (GItem.lv p0).cells),(3,.sptr (GItem.lv p1).cells)] [] R (sB (oBxR R R R R (sB (oBxR R R R R (sAn R zS))))) (LH.seqT [(2,.sptr (GItem.lv p0).cells),(3,.sptr (GItem.lv p1).cells),(5,.nil)] [] R (sAn R zS) (LH.seq (LH.seqT [(2,.sptr (GItem.lv p0).cells),(3,.sptr (GItem.lv p1).cells),(5,.nil),(6,.I 0)] [] R (sAi R zS) (LH.block (LH.wk ((Wk.trans (Wk.eq (el:=[(2,.sptr (GItem.lv p0).cells),(3,.sptr (GItem.lv p1).cells),(5,.nil),(6,.I 0)]) (ml:=[]) R R R R) (Wk.trans (Wk.eq (el:=[(2,.sptr (GItem.lv p0).cells),(3,.sptr (GItem.lv p1).cells),(5,.nil),(6,.I 0)]) (ml:=[]) R R R R) (Wk.trans (Wk.ownL (el':=[(2,.sptr (GItem.lv p0).cells),(3,.sptr (GItem.lv p1).cells),(5,.arr 146 (List.length ([]:List Int))),(6,.I 0)]) 146 3 1 R R (wK (wK (wO (wK wN))))) (Wk.eq (el:=[(2,.sptr (GItem.lv p0).cells),(3,.sptr (GItem.lv p1).cells),(5,.arr 146 (List.length ([]:List Int))),(6,.I 0)]) (ml:=[(146,.arr 3 1 (List.map LV.I ([]:List Int)))]) R R R R))))) (LH.loop (fun n e m=>∃ (n1:Int) (l2:List Int),q32q p0 p1 n n1 l2=some r∧e=Env.of [(2,.sptr (GItem.lv p0).cells),(3,.sptr (GItem.lv p1).cells),(5,.arr 146 (List.length l2)),(6,.I n1)]∧m=Mem.of [(146,.arr 3 1 (List.map LV.I l2))]) F ⟨0,([]:List Int),h,R,R⟩ ?_))))))))
  clear h
  rintro n e m ⟨n1,l2,h,rfl,rfl⟩
  rcases n with _ | n
  · cases (show Option.none=some _ from h)
  obtain ⟨rec1,hrec1⟩:∃ f,f=q32q p0 p1 n:=⟨_,rfl⟩
  replace h:q72q p0 p1 rec1 n1 l2=some r:=hrec1 ▸ h
  unfold q72q at h
  refine LH.seq (LH.seqT [(2,.sptr (GItem.lv p0).cells),(3,.sptr (GItem.lv p1).cells),(5,.arr 146 (List.length l2)),(6,.I n1),(15,.bool (decide (n1<(max (p0.Parts.length:Int) (p1.Parts.length:Int)))))] [(146,.arr 3 1 (List.map LV.I l2))] R (sMi R (sN (oFaS tf54_3 tk52 ts52 R R R (sN (oLd R tk52 ta52 (sN (oLnL (f:=GPart.lv) te52 R (sN (oFaS tf54_3 tk52 ts52 R R R (sN (oLd R tk52 ta52 (sN (oLnL (f:=GPart.lv) te52 R (sX ((ok_max R R).ok) (sN (oLt R R zS)))))))))))))))) (LH.cond (t:=(decide (n1<(max (p0.Parts.length:Int) (p1.Parts.length:Int))))) R (fun hc3=>?_) (fun hc3=>?_)))
  ·replace h:=iteT h hc3
   refine LH.skip (thenN (LH.wk (Wk.eq (el:=[(2,.sptr (GItem.lv p0).cells),(3,.sptr (GItem.lv p1).cells),(5,.arr 146 (List.length l2)),(6,.I n1)]) (ml:=[(146,.arr 3 1 (List.map LV.I l2))]) R R R R) (LH.seq (LH.block ?_))))
   obtain ⟨w5,hv,h⟩:=bindS h
   refine LH.seqJM mixed [] [0,0,0,0,0,0,0,0,0,0,0,0,0,0,0,0,0,0,0,0,0,0,0,0,0] [(2,.sptr (GItem.lv p0).cells),(3,.sptr (GItem.lv p1).cells),(5,.arr 146 (List.length l2)),(6,.I n1),(42,.bool w5)] [(146,.arr 3 1 (List.map LV.I l2))] R R (by kernel_rfl) ?_ ?_
   ·refine mMi R (mN0 (oFaS tf54_3 tk52 ts52 R R R ⟨R,mN0 (oLd R tk52 ta52 ⟨R,mN0 (oLnL (f:=GPart.lv) te52 R ⟨R,mN0 (oGe R R ⟨R,mMb R ?_⟩)⟩)⟩)⟩))
    by_cases hb6:(decide (n1 ≥ (p0.Parts.length:Int)))=true
    ·replace hv:=iteT hv hb6
     refine mF R R hb6 (mF R R hb6 (mF R R hb6 (mF R R hb6 (mF R R hb6 (mN0 (oPkT (cB hb6) (v:=(.bool _)) R ⟨R,mMb R (mF R R R (mF R R R (mF R R R (mF R R R (mF R R R (mF R R R (mF R R R (mF R R R (mF R R R (mF R R R (mF R R R (mN0 (oPkT R (v:=(.bool _)) R ⟨R,?_⟩)))))))))))))⟩))))))
     obtain rfl:=oI hv
     exact zM
    ·replace hb6:=bF hb6
     replace hv:=iteF hv hb6
     refine mT R (cB hb6) (mMi R (mT R (cB hb6) (mN0 (oFaS tf54_3 tk52 ts52 R R R ⟨R,mT R (cB hb6) (mN0 (oLd R tk52 ta52 ⟨R,mT R (cB hb6) (mN0 (oLnL (f:=GPart.lv) te52 R ⟨R,mT R (cB hb6) (mN0 (oGe R R ⟨R,mN0 (oPkF (cB hb6) (v:=(.bool _)) R ⟨R,mMb R ?_⟩)⟩))⟩))⟩))⟩))))
     by_cases hb7:(decide (n1 ≥ (p1.Parts.length:Int)))=true
     ·replace hv:=iteT hv hb7
      refine mF R R hb7 (mF R R hb7 (mF R R hb7 (mF R R hb7 (mF R R hb7 (mF R R hb7 (mF R R hb7 (mF R R hb7 (mF R R hb7 (mF R R hb7 (mF R R hb7 (mN0 (oPkT (cB hb7) (v:=(.bool _)) R ⟨R,?_⟩))))))))))))
      obtain rfl:=oI hv
      exact zM
     ·replace hb7:=bF hb7
      replace hv:=iteF hv hb7
      refine mT R (cB hb7) (mN0 (oFaS tf54_3 tk52 ts52 R R R ⟨R,mT R (cB hb7) (mN0 (oLd R tk52 ta52 ⟨R,mT R (cB hb7) (mMi R ?_)⟩))⟩))
      obtain ⟨x8,hx8,hv⟩:=bindS hv
      refine mT R (cB hb7) (mN0 (oIx (f:=GPart.lv) te52 tk86 ts86 R R GPart.ok hx8 R ⟨R,mT R (cB hb7) (mN0 (oLdA R tk86 ta86 ts86 R R ⟨R,mT R (cB hb7) (mN0 (oFaS tf54_3 tk52 ts52 R R R ⟨R,mT R (cB hb7) (mN0 (oLd R tk52 ta52 ⟨R,mT R (cB hb7) (mMi R ?_)⟩))⟩))⟩))⟩))
      obtain ⟨x9,hx9,hv⟩:=bindS hv
      refine mT R (cB hb7) (mN0 (oIx (f:=GPart.lv) te52 tk86 ts86 R R GPart.ok hx9 R ⟨R,mT R (cB hb7) (mN0 (oLdA R tk86 ta86 ts86 R R ⟨R,mT R (cB hb7) (mN0 (oNeA R R (ae86 x8 x9) ⟨R,mN0 (oPkF (cB hb7) (v:=(.bool _)) R ⟨R,?_⟩)⟩))⟩))⟩))
      obtain rfl:=oI hv
      exact zM
   clear hv
   refine LH.cond (t:=w5) R (fun hc10=>?_) (fun hc10=>?_)
   ·replace h:=iteT h hc10
    obtain ⟨v11,hv11,h⟩:=bindS h
    refine LH.loneT [(2,.sptr (GItem.lv p0).cells),(3,.sptr (GItem.lv p1).cells),(5,.arr 146 (List.length v11)),(6,.I n1)] [(146,.arr 3 1 (List.map LV.I v11))] R (sMa R (sMi R (sN (oBS (f:=LV.I) (ys:=[n1]) te22 tr3 ts3 R R R okI (sN (oAp (f:=LV.I) te22 tr3 ts3 R R (prN R) R hv11 (sAa R zS))))))) (blockN (thenN (LH.loneT [(2,.sptr (GItem.lv p0).cells),(3,.sptr (GItem.lv p1).cells),(5,.arr 146 (List.length v11)),(6,.I (i64 (n1+1)))] [(146,.arr 3 1 (List.map LV.I v11))] R (sMi R (sN (oAdd R R (sAi R zS)))) ?_)))
    exact roundI ⟨(i64 (n1+1)),v11,hrec1 ▸ h,R,R⟩ (Wk.eq R R R R)
   replace h:=iteF h hc10
   refine LH.skip (blockN (thenN (LH.loneT [(2,.sptr (GItem.lv p0).cells),(3,.sptr (GItem.lv p1).cells),(5,.arr 146 (List.length l2)),(6,.I (i64 (n1+1)))] [(146,.arr 3 1 (List.map LV.I l2))] R (sMi R (sN (oAdd R R (sAi R zS)))) ?_)))
   exact roundI ⟨(i64 (n1+1)),l2,hrec1 ▸ h,R,R⟩ (Wk.eq R R R R)
  replace h:=iteF h hc3
  refine LH.exit (thenX (roundX (blockH (thenN (LH.wk ((Wk.trans (Wk.eq (el:=[(5,.arr 146 (List.length l2))]) (ml:=[(146,.arr 3 1 (List.map LV.I l2))]) R R R R) (Wk.trans (Wk.frzL (f:=LV.I) (el':=[(5,.L l2)]) 146 3 1 l2 R R (prN R) (fZ fN)) (Wk.eq (el:=[(5,.L l2)]) (ml:=[]) R R R R)))) (LH.seqT [(4,.L l2)] [] R (sMl R (sAl R zS)) (LH.ret ?_)))))))
  obtain rfl:=oI h
  exact retE (aT Tryz.results42) (lrT R (lr0 ⟨memN mN,R,prK R,Sub.rfl⟩))

theorem q244q {F:Nat} {p0:List Int} {p1:List Int} {r:Bool} (h:q161q F p0 p1=some r):LCall Tryz.prog 43 [.L p0,.L p1] (Mem.of []) (.bool r) (Mem.of []):=by
  unfold q161q at h
  refine bodyT Tryz.func43 R (nT Tryz.ntmps43 R) (LH.wk (Wk.eq (el:=[(0,.L p0),(1,.L p1)]) (ml:=[]) R R R R) (LH.seqT [(0,.L p0),(1,.L p1)] [] R (sAb R zS) (LH.seq (LH.seqT [(0,.L p0),(1,.L p1),(10,.bool ((p0.length:Int) != (p1.length:Int)))] [] R (sMl R (sN (oLnL (f:=LV.I) te22 R (sMl R (sN (oLnL (f:=LV.I) te22 R (sN (oNe R R zS)))))))) (LH.cond (t:=((p0.length:Int) != (p1.length:Int))) R (fun hc1=>?_) (fun hc1=>?_))))))
  ·replace h:=iteT h hc1
   refine LH.seqT [(4,.bool false)] [] R (sAb R zS) (LH.ret (thenR ?_))
   obtain rfl:=oI h
   exact retE (aT Tryz.results43) (lrT R (lr0 ⟨memN mN,R,prK R,Sub.rfl⟩))
  replace h:=iteF h hc1
  refine LH.skip (thenN (LH.wk (Wk.eq (el:=[(0,.L p0),(1,.L p1)]) (ml:=[]) R R R R) (LH.seq (LH.seqT [(0,.L p0),(1,.L p1),(5,.I 0)] [] R (sAi R zS) (LH.block (LH.loop (fun n e m=>∃ (n2:Int),q114q p0 p1 n n2=some r∧e=Env.of [(0,.L p0),(1,.L p1),(5,.I n2)]∧m=Mem.of []) F ⟨0,h,R,R⟩ ?_))))))
  clear h
  rintro n e m ⟨n2,h,rfl,rfl⟩
  rcases n with _ | n
  · cases (show Option.none=some _ from h)
  obtain ⟨rec1,hrec1⟩:∃ f,f=q114q p0 p1 n:=⟨_,rfl⟩
  replace h:q150q p0 p1 rec1 n2=some r:=hrec1 ▸ h
  unfold q150q at h
  refine LH.seq (LH.seqT [(0,.L p0),(1,.L p1),(5,.I n2),(14,.bool (decide (n2<(p0.length:Int))))] [] R (sMi R (sMl R (sN (oLnL (f:=LV.I) te22 R (sN (oLt R R zS)))))) (LH.cond (t:=(decide (n2<(p0.length:Int)))) R (fun hc3=>?_) (fun hc3=>?_)))
  ·replace h:=iteT h hc3
   refine LH.skip (thenN (LH.wk (Wk.eq (el:=[(0,.L p0),(1,.L p1),(5,.I n2)]) (ml:=[]) R R R R) (LH.seq (LH.block ?_))))
   obtain ⟨x4,hx4,h⟩:=bindS h
   obtain ⟨x5,hx5,h⟩:=bindS h
   refine LH.seqJM mixed [] [0,0,0,0,0,0,0,0,0] [(0,.L p0),(1,.L p1),(5,.I n2),(25,.bool (x4 != x5))] [] R R (by kernel_rfl) (mMl R (mMi R (mN0 (oIx (f:=LV.I) te22 tk3 ts3 R R okI hx4 R ⟨R,mN0 (oLd R tk3 ta3 ⟨R,mMl R (mMi R (mN0 (oIx (f:=LV.I) te22 tk3 ts3 R R okI hx5 R ⟨R,mN0 (oLd R tk3 ta3 ⟨R,mN0 (oNe R R ⟨R,zM⟩)⟩)⟩)))⟩)⟩)))) (LH.cond (t:=(x4 != x5)) R (fun hc6=>?_) (fun hc6=>?_))
   ·replace h:=iteT h hc6
    refine LH.seqT [(4,.bool false)] [] R (sAb R zS) (LH.ret (blockR (thenR (roundR (blockR (thenR ?_))))))
    obtain rfl:=oI h
    exact retE (aT Tryz.results43) (lrT R (lr0 ⟨memN mN,R,prK R,Sub.rfl⟩))
   replace h:=iteF h hc6
   refine LH.skip (blockN (thenN (LH.loneT [(0,.L p0),(1,.L p1),(5,.I (i64 (n2+1)))] [] R (sMi R (sN (oAdd R R (sAi R zS)))) ?_)))
   exact roundI ⟨(i64 (n2+1)),hrec1 ▸ h,R,R⟩ (Wk.eq R R R R)
  replace h:=iteF h hc3
  refine LH.exit (thenX (roundX (blockH (thenN (LH.seqT [(4,.bool true)] [] R (sAb R zS) (LH.ret ?_))))))
  obtain rfl:=oI h
  exact retE (aT Tryz.results43) (lrT R (lr0 ⟨memN mN,R,prK R,Sub.rfl⟩))

theorem q205q {F:Nat} {p0:GItem} {p1:GItem} {r:Bool} (h:q163q F p0 p1=some r):LCall Tryz.prog 24 [GItem.lv p0,GItem.lv p1] (Mem.of []) (.bool r) (Mem.of []):=by
  unfold q163q at h
  refine bodyT Tryz.func24 R (nT Tryz.ntmps24 R) (LH.wk (Wk.eq (el:=[(0,GItem.lv p0),(1,GItem.lv p1)]) (ml:=[]) R R R R) (LH.seqT [(2,.sptr (GItem.lv p0).cells),(3,.sptr (GItem.lv p1).cells)] [] R (sB (oBxR R R R R (sB (oBxR R R R R (sAb R zS))))) ?_))
  obtain ⟨w2,hv,h⟩:=bindS h
  refine LH.seqT [(4,.bool w2)] [] R ?_ ?_
  ·refine sN (oFaS tf54_0 tk3 ts3 R R R (sN (oLd R tk3 ta3 (sN (oFaS tf54_0 tk3 ts3 R R R (sN (oLd R tk3 ta3 (sN (oEq R R (sMb R ?_))))))))))
   by_cases hb3:(p0.ID == p1.ID)=true
   ·replace hv:=iteT hv hb3
    refine sT R (cB hb3) (oFaS tf54_1 tk3 ts3 R R R (sT R (cB hb3) (oLd R tk3 ta3 (sT R (cB hb3) (oFaS tf54_1 tk3 ts3 R R R (sT R (cB hb3) (oLd R tk3 ta3 (sT R (cB hb3) (oEq R R (sN (oPkT (cB hb3) (v:=(.bool _)) R (sMb R ?_))))))))))))
    by_cases hb4:(p0.Version == p1.Version)=true
    ·replace hv:=iteT hv hb4
     refine sT R (cB hb4) (oFaS tf54_2 tk9 ts9 R R R (sT R (cB hb4) (oLd R tk9 ta9 (sT R (cB hb4) (oFaS tf54_2 tk9 ts9 R R R (sT R (cB hb4) (oLd R tk9 ta9 (sXT R (cB hb4) ((ok_sEq R R).ok) (sN (oPkT (cB hb4) (v:=(.bool _)) R (sMb R ?_)))))))))))
     by_cases hb5:(decide (p0.Stem=p1.Stem))=true
     ·replace hv:=iteT hv hb5
      refine sT R (cB hb5) (oFaS tf54_3 tk52 ts52 R R R (sT R (cB hb5) (oLd R tk52 ta52 (sT R (cB hb5) (oLnL (f:=GPart.lv) te52 R (sT R (cB hb5) (oFaS tf54_3 tk52 ts52 R R R (sT R (cB hb5) (oLd R tk52 ta52 (sT R (cB hb5) (oLnL (f:=GPart.lv) te52 R (sT R (cB hb5) (oEq R R (sN (oPkT (cB hb5) (v:=(.bool _)) R (sMb R ?_))))))))))))))))
      by_cases hb6:((p0.Parts.length:Int) == (p1.Parts.length:Int))=true
      ·replace hv:=iteT hv hb6
       refine sT R (cB hb6) (oLdA R tk54 ta54 ts54 R R (sT R (cB hb6) (oLdA R tk54 ta54 ts54 R R ?_)))
       obtain ⟨r7,hr7,hv⟩:=bindS hv
       refine sT R (cB hb6) (oCP (args:=[GItem.lv p0,GItem.lv p1]) R isF42 R (sbR (sbR sbN)) (q220q hr7) R (sT R (cB hb6) (oLnL (f:=LV.I) te22 R (sT R (cB hb6) (oEq R R (sN (oPkT (cB hb6) (v:=(.bool _)) R (sMb R ?_))))))))
       by_cases hb8:((r7.length:Int) == 0)=true
       ·replace hv:=iteT hv hb8
        refine sT R (cB hb8) (oFaS tf54_4 tk22 ts22 R R R (sT R (cB hb8) (oLd R tk22 ta22 (sT R (cB hb8) (oFaS tf54_4 tk22 ts22 R R R (sT R (cB hb8) (oLd R tk22 ta22 ?_)))))))
        obtain ⟨r9,hr9,hv⟩:=bindS hv
        refine sT R (cB hb8) (oCP (args:=[.L p0.Enemies,.L p1.Enemies]) R isF43 R (sbR (sbR sbN)) (q244q hr9) R (sN (oPkT (cB hb8) (v:=(.bool _)) R (sAb R ?_))))
        obtain rfl:=oI hv
        exact zS
       ·replace hb8:=bF hb8
        replace hv:=iteF hv hb8
        refine sF R R hb8 (sF R R hb8 (sF R R hb8 (sF R R hb8 (sF R R hb8 (sN (oPkF (cB hb8) (v:=(.bool _)) R (sAb R ?_)))))))
        obtain rfl:=oI hv
        exact zS
      ·replace hb6:=bF hb6
       replace hv:=iteF hv hb6
       refine sF R R hb6 (sF R R hb6 (sF R R hb6 (sF R R hb6 (sF R R hb6 (sN (oPkF (cB hb6) (v:=(.bool _)) R (sMb R (sF R R R (sF R R R (sF R R R (sF R R R (sF R R R (sN (oPkF R (v:=(.bool _)) R (sAb R ?_)))))))))))))))
       obtain rfl:=oI hv
       exact zS
     ·replace hb5:=bF hb5
      replace hv:=iteF hv hb5
      refine sF R R hb5 (sF R R hb5 (sF R R hb5 (sF R R hb5 (sF R R hb5 (sF R R hb5 (sF R R hb5 (sN (oPkF (cB hb5) (v:=(.bool _)) R (sMb R (sF R R R (sF R R R (sF R R R (sF R R R (sF R R R (sN (oPkF R (v:=(.bool _)) R (sMb R (sF R R R (sF R R R (sF R R R (sF R R R (sF R R R (sN (oPkF R (v:=(.bool _)) R (sAb R ?_)))))))))))))))))))))))))
      obtain rfl:=oI hv
      exact zS
    ·replace hb4:=bF hb4
     replace hv:=iteF hv hb4
     refine sF R R hb4 (sF R R hb4 (sF R R hb4 (sF R R hb4 (sF R R hb4 (sN (oPkF (cB hb4) (v:=(.bool _)) R (sMb R (sF R R R (sF R R R (sF R R R (sF R R R (sF R R R (sF R R R (sF R R R (sN (oPkF R (v:=(.bool _)) R (sMb R (sF R R R (sF R R R (sF R R R (sF R R R (sF R R R (sN (oPkF R (v:=(.bool _)) R (sMb R (sF R R R (sF R R R (sF R R R (sF R R R (sF R R R (sN (oPkF R (v:=(.bool _)) R (sAb R ?_)))))))))))))))))))))))))))))))))
     obtain rfl:=oI hv
     exact zS
   ·replace hb3:=bF hb3
    replace hv:=iteF hv hb3
    refine sF R R hb3 (sF R R hb3 (sF R R hb3 (sF R R hb3 (sF R R hb3 (sN (oPkF (cB hb3) (v:=(.bool _)) R (sMb R (sF R R R (sF R R R (sF R R R (sF R R R (sF R R R (sN (oPkF R (v:=(.bool _)) R (sMb R (sF R R R (sF R R R (sF R R R (sF R R R (sF R R R (sF R R R (sF R R R (sN (oPkF R (v:=(.bool _)) R (sMb R (sF R R R (sF R R R (sF R R R (sF R R R (sF R R R (sN (oPkF R (v:=(.bool _)) R (sMb R (sF R R R (sF R R R (sF R R R (sF R R R (sF R R R (sN (oPkF R (v:=(.bool _)) R (sAb R ?_)))))))))))))))))))))))))))))))))))))))))
    obtain rfl:=oI hv
    exact zS
  clear hv
  refine LH.ret ?_
  obtain rfl:=oI h
  exact retE (aT Tryz.results24) (lrT R (lr0 ⟨memN mN,R,prK R,Sub.rfl⟩))

theorem q245q {F:Nat} {p0:Gq0} {p1:Gq0} {r:Bool} (h:q178q F p0 p1=some r):LCall Tryz.prog 62 [Gq0.lv p0,Gq0.lv p1] (Mem.of []) (.bool r) (Mem.of []):=by
  unfold q178q at h
  refine bodyT Tryz.func62 R (nT Tryz.ntmps62 R) (LH.wk (Wk.eq (el:=[(0,Gq0.lv p0),(1,Gq0.lv p1)]) (ml:=[]) R R R R) (LH.seqT [(2,.sptr (Gq0.lv p0).cells),(3,.sptr (Gq0.lv p1).cells)] [] R (sB (oBxR R R R R (sB (oBxR R R R R (sAb R zS))))) ?_))
  obtain ⟨w2,hv,h⟩:=bindS h
  refine LH.seqT [(4,.bool w2)] [] R ?_ ?_
  ·refine sN (oFaS tf63_0 tk61 ts61 R R R (sN (oLdA R tk61 ta61 ts61 R R (sN (oFaS tf63_0 tk61 ts61 R R R (sN (oLdA R tk61 ta61 ts61 R R (sN (oEqA R R (ae61 p0.Stamp p1.Stamp) (sMb R ?_))))))))))
   by_cases hb3:(decide (p0.Stamp=p1.Stamp))=true
   ·replace hv:=iteT hv hb3
    refine sT R (cB hb3) (oFaS tf63_1 tk3 ts3 R R R (sT R (cB hb3) (oLd R tk3 ta3 (sT R (cB hb3) (oFaS tf63_1 tk3 ts3 R R R (sT R (cB hb3) (oLd R tk3 ta3 (sT R (cB hb3) (oEq R R (sN (oPkT (cB hb3) (v:=(.bool _)) R (sMb R ?_))))))))))))
    by_cases hb4:(p0.Kind == p1.Kind)=true
    ·replace hv:=iteT hv hb4
     refine sT R (cB hb4) (oFaS tf63_3 tk43 ts43 R R R (sT R (cB hb4) (oLdA R tk43 ta43 ts43 R R (sT R (cB hb4) (oFaS tf63_3 tk43 ts43 R R R (sT R (cB hb4) (oLdA R tk43 ta43 ts43 R R (sT R (cB hb4) (oEqA R R (ae43 p0.Ref p1.Ref) (sN (oPkT (cB hb4) (v:=(.bool _)) R (sMb R ?_))))))))))))
     by_cases hb5:(decide (p0.Ref=p1.Ref))=true
     ·replace hv:=iteT hv hb5
      refine sT R (cB hb5) (oFaS tf63_4 tk3 ts3 R R R (sT R (cB hb5) (oLd R tk3 ta3 (sT R (cB hb5) (oFaS tf63_4 tk3 ts3 R R R (sT R (cB hb5) (oLd R tk3 ta3 (sT R (cB hb5) (oEq R R (sN (oPkT (cB hb5) (v:=(.bool _)) R (sMb R ?_))))))))))))
      by_cases hb6:(p0.Form == p1.Form)=true
      ·replace hv:=iteT hv hb6
       refine sT R (cB hb6) (oFaS tf63_2 tk54 ts54 R R R (sT R (cB hb6) (oLdA R tk54 ta54 ts54 R R (sT R (cB hb6) (oFaS tf63_2 tk54 ts54 R R R (sT R (cB hb6) (oLdA R tk54 ta54 ts54 R R ?_)))))))
       obtain ⟨r7,hr7,hv⟩:=bindS hv
       refine sT R (cB hb6) (oCP (args:=[GItem.lv p0.Item,GItem.lv p1.Item]) R isF24 R (sbR (sbR sbN)) (q205q hr7) R (sN (oPkT (cB hb6) (v:=(.bool _)) R (sAb R ?_))))
       obtain rfl:=oI hv
       exact zS
      ·replace hb6:=bF hb6
       replace hv:=iteF hv hb6
       refine sF R R hb6 (sF R R hb6 (sF R R hb6 (sF R R hb6 (sF R R hb6 (sN (oPkF (cB hb6) (v:=(.bool _)) R (sAb R ?_)))))))
       obtain rfl:=oI hv
       exact zS
     ·replace hb5:=bF hb5
      replace hv:=iteF hv hb5
      refine sF R R hb5 (sF R R hb5 (sF R R hb5 (sF R R hb5 (sF R R hb5 (sN (oPkF (cB hb5) (v:=(.bool _)) R (sMb R (sF R R R (sF R R R (sF R R R (sF R R R (sF R R R (sN (oPkF R (v:=(.bool _)) R (sAb R ?_)))))))))))))))
      obtain rfl:=oI hv
      exact zS
    ·replace hb4:=bF hb4
     replace hv:=iteF hv hb4
     refine sF R R hb4 (sF R R hb4 (sF R R hb4 (sF R R hb4 (sF R R hb4 (sN (oPkF (cB hb4) (v:=(.bool _)) R (sMb R (sF R R R (sF R R R (sF R R R (sF R R R (sF R R R (sN (oPkF R (v:=(.bool _)) R (sMb R (sF R R R (sF R R R (sF R R R (sF R R R (sF R R R (sN (oPkF R (v:=(.bool _)) R (sAb R ?_)))))))))))))))))))))))
     obtain rfl:=oI hv
     exact zS
   ·replace hb3:=bF hb3
    replace hv:=iteF hv hb3
    refine sF R R hb3 (sF R R hb3 (sF R R hb3 (sF R R hb3 (sF R R hb3 (sN (oPkF (cB hb3) (v:=(.bool _)) R (sMb R (sF R R R (sF R R R (sF R R R (sF R R R (sF R R R (sN (oPkF R (v:=(.bool _)) R (sMb R (sF R R R (sF R R R (sF R R R (sF R R R (sF R R R (sN (oPkF R (v:=(.bool _)) R (sMb R (sF R R R (sF R R R (sF R R R (sF R R R (sF R R R (sN (oPkF R (v:=(.bool _)) R (sAb R ?_)))))))))))))))))))))))))))))))
    obtain rfl:=oI hv
    exact zS
  clear hv
  refine LH.ret ?_
  obtain rfl:=oI h
  exact retE (aT Tryz.results62) (lrT R (lr0 ⟨memN mN,R,prK R,Sub.rfl⟩))

theorem q198q {p0:Gq4} {r:Bool} (h:q169q p0=some r):LCall Tryz.prog 100 [.agg [.I p0.Time,.I p0.Source,.I p0.Seq]] (Mem.of []) (.bool r) (Mem.of []):=by
  unfold q169q at h
  refine bodyT Tryz.func100 R (nT Tryz.ntmps100 R) (LH.wk (Wk.eq (el:=[(0,.agg [.I p0.Time,.I p0.Source,.I p0.Seq])]) (ml:=[]) R R R R) (LH.seqT [(1,.sptr [.I p0.Time,.I p0.Source,.I p0.Seq])] [] R (sB (oBxR R R R R (sAb R zS))) (LH.seqT [(2,.bool ((decide (p0.Time ≥ 0)) && ((decide (p0.Time≤1000000)) && ((decide (p0.Source ≥ 0)) && ((decide (p0.Source≤99)) && ((decide (p0.Seq ≥ 0)) && (decide (p0.Seq≤9999))))))))] [] R ?_ ?_)))
  ·refine sN (oFaS tf61_0 tk3 ts3 R R R (sN (oLd R tk3 ta3 (sN (oGe R R (sMb R ?_))))))
   by_cases hb2:(decide (p0.Time ≥ 0))=true
   ·refine sT R (cB hb2) (oFaS tf61_0 tk3 ts3 R R R (sT R (cB hb2) (oLd R tk3 ta3 (sT R (cB hb2) (oLe R R (sN (oPkT (cB hb2) (v:=(.bool _)) R (sMb R ?_))))))))
    by_cases hb3:(decide (p0.Time≤1000000))=true
    ·refine sT R (cB hb3) (oFaS tf61_1 tk3 ts3 R R R (sT R (cB hb3) (oLd R tk3 ta3 (sT R (cB hb3) (oGe R R (sN (oPkT (cB hb3) (v:=(.bool _)) R (sMb R ?_))))))))
     by_cases hb4:(decide (p0.Source ≥ 0))=true
     ·refine sT R (cB hb4) (oFaS tf61_1 tk3 ts3 R R R (sT R (cB hb4) (oLd R tk3 ta3 (sT R (cB hb4) (oLe R R (sN (oPkT (cB hb4) (v:=(.bool _)) R (sMb R ?_))))))))
      by_cases hb5:(decide (p0.Source≤99))=true
      ·refine sT R (cB hb5) (oFaS tf61_2 tk3 ts3 R R R (sT R (cB hb5) (oLd R tk3 ta3 (sT R (cB hb5) (oGe R R (sN (oPkT (cB hb5) (v:=(.bool _)) R (sMb R ?_))))))))
       by_cases hb6:(decide (p0.Seq ≥ 0))=true
       ·exact sT R (cB hb6) (oFaS tf61_2 tk3 ts3 R R R (sT R (cB hb6) (oLd R tk3 ta3 (sT R (cB hb6) (oLe R R (sN (oPkT (cB hb6) (v:=(.bool _)) R (sAb R (s0 (Wk.to (eC (cB (Eq.trans (Eq.trans (Eq.trans (Eq.trans (andT hb6) (andT hb5)) (andT hb4)) (andT hb3)) (andT hb2))) eN) mN R (prK R)))))))))))
       ·replace hb6:=bF hb6
        exact sF R R hb6 (sF R R hb6 (sF R R hb6 (sN (oPkF (cB hb6) (v:=(.bool _)) R (sAb R (s0 (Wk.to (eC (cB (Eq.trans (Eq.trans (Eq.trans (Eq.trans (andF hb6) (andT hb5)) (andT hb4)) (andT hb3)) (andT hb2))) eN) mN R (prK R))))))))
      ·replace hb5:=bF hb5
       exact sF R R hb5 (sF R R hb5 (sF R R hb5 (sN (oPkF (cB hb5) (v:=(.bool _)) R (sMb R (sF R R R (sF R R R (sF R R R (sN (oPkF R (v:=(.bool _)) R (sAb R (s0 (Wk.to (eC (cB (Eq.trans (Eq.trans (Eq.trans (andF hb5) (andT hb4)) (andT hb3)) (andT hb2))) eN) mN R (prK R))))))))))))))
     ·replace hb4:=bF hb4
      exact sF R R hb4 (sF R R hb4 (sF R R hb4 (sN (oPkF (cB hb4) (v:=(.bool _)) R (sMb R (sF R R R (sF R R R (sF R R R (sN (oPkF R (v:=(.bool _)) R (sMb R (sF R R R (sF R R R (sF R R R (sN (oPkF R (v:=(.bool _)) R (sAb R (s0 (Wk.to (eC (cB (Eq.trans (Eq.trans (andF hb4) (andT hb3)) (andT hb2))) eN) mN R (prK R))))))))))))))))))))
    ·replace hb3:=bF hb3
     exact sF R R hb3 (sF R R hb3 (sF R R hb3 (sN (oPkF (cB hb3) (v:=(.bool _)) R (sMb R (sF R R R (sF R R R (sF R R R (sN (oPkF R (v:=(.bool _)) R (sMb R (sF R R R (sF R R R (sF R R R (sN (oPkF R (v:=(.bool _)) R (sMb R (sF R R R (sF R R R (sF R R R (sN (oPkF R (v:=(.bool _)) R (sAb R (s0 (Wk.to (eC (cB (Eq.trans (andF hb3) (andT hb2))) eN) mN R (prK R))))))))))))))))))))))))))
   ·replace hb2:=bF hb2
    exact sF R R hb2 (sF R R hb2 (sF R R hb2 (sN (oPkF (cB hb2) (v:=(.bool _)) R (sMb R (sF R R R (sF R R R (sF R R R (sN (oPkF R (v:=(.bool _)) R (sMb R (sF R R R (sF R R R (sF R R R (sN (oPkF R (v:=(.bool _)) R (sMb R (sF R R R (sF R R R (sF R R R (sN (oPkF R (v:=(.bool _)) R (sMb R (sF R R R (sF R R R (sF R R R (sN (oPkF R (v:=(.bool _)) R (sAb R (s0 (Wk.to (eC (cB (andF hb2)) eN) mN R (prK R))))))))))))))))))))))))))))))))
  refine LH.ret ?_
  obtain rfl:=oI h
  exact retE (aT Tryz.results100) (lrT R (lr0 ⟨memN mN,R,prK R,Sub.rfl⟩))

theorem q219q {p0:Gq4} {p1:Gq4} {p2:Int} {p3:Int} {r:Bool} (h:q159q p0 p1 p2 p3=some r):LCall Tryz.prog 101 [.agg [.I p0.Time,.I p0.Source,.I p0.Seq],.agg [.I p1.Time,.I p1.Source,.I p1.Seq],.I p2,.I p3] (Mem.of []) (.bool r) (Mem.of []):=by
  unfold q159q at h
  refine bodyT Tryz.func101 R (nT Tryz.ntmps101 R) (LH.wk (Wk.eq (el:=[(0,.agg [.I p0.Time,.I p0.Source,.I p0.Seq]),(1,.agg [.I p1.Time,.I p1.Source,.I p1.Seq]),(2,.I p2),(3,.I p3)]) (ml:=[]) R R R R) (LH.seqT [(2,.I p2),(3,.I p3),(4,.sptr [.I p0.Time,.I p0.Source,.I p0.Seq]),(5,.sptr [.I p1.Time,.I p1.Source,.I p1.Seq])] [] R (sB (oBxR R R R R (sB (oBxR R R R R (sAb R zS))))) (LH.seqT [(8,.bool ((p0.Source == p1.Source) && ((p0.Seq == p1.Seq) && ((p0.Time != p1.Time) || (p2 != p3)))))] [] R ?_ ?_)))
  ·refine sN (oFaS tf61_1 tk3 ts3 R R R (sN (oLd R tk3 ta3 (sN (oFaS tf61_1 tk3 ts3 R R R (sN (oLd R tk3 ta3 (sN (oEq R R (sMb R ?_))))))))))
   by_cases hb2:(p0.Source == p1.Source)=true
   ·refine sT R (cB hb2) (oFaS tf61_2 tk3 ts3 R R R (sT R (cB hb2) (oLd R tk3 ta3 (sT R (cB hb2) (oFaS tf61_2 tk3 ts3 R R R (sT R (cB hb2) (oLd R tk3 ta3 (sT R (cB hb2) (oEq R R (sN (oPkT (cB hb2) (v:=(.bool _)) R (sMb R ?_))))))))))))
    by_cases hb3:(p0.Seq == p1.Seq)=true
    ·refine sT R (cB hb3) (oFaS tf61_0 tk3 ts3 R R R (sT R (cB hb3) (oLd R tk3 ta3 (sT R (cB hb3) (oFaS tf61_0 tk3 ts3 R R R (sT R (cB hb3) (oLd R tk3 ta3 (sT R (cB hb3) (oNe R R (sT R (cB hb3) (oM (v:=(.bool _)) R ?_)))))))))))
     by_cases hb4:(p0.Time != p1.Time)=true
     ·exact sF R R hb4 (sF R R hb4 (sF R R hb4 (sT R (cB hb3) (oPkT (cB hb4) (v:=(.bool _)) R (sN (oPkT (cB hb3) (v:=(.bool _)) R (sAb R (s0 (Wk.to (eC (cB (Eq.trans (Eq.trans (orT hb4) (andT hb3)) (andT hb2))) eN) mN R (prK R))))))))))
     ·replace hb4:=bF hb4
      exact sT R (cB hb4) (oM (v:=(.int _ _)) R (sT R (cB hb4) (oM (v:=(.int _ _)) R (sT R (cB hb4) (oNe R R (sT R (cB hb3) (oPkF (cB hb4) (v:=(.bool _)) R (sN (oPkT (cB hb3) (v:=(.bool _)) R (sAb R (s0 (Wk.to (eC (cB (Eq.trans (Eq.trans (orF hb4) (andT hb3)) (andT hb2))) eN) mN R (prK R)))))))))))))
    ·replace hb3:=bF hb3
     exact sF R R hb3 (sF R R hb3 (sF R R hb3 (sF R R hb3 (sF R R hb3 (sF R R hb3 (sU R R (sU R R (sU R R (sF R R hb3 (sN (oPkF (cB hb3) (v:=(.bool _)) R (sAb R (s0 (Wk.to (eC (cB (Eq.trans (andF hb3) (andT hb2))) eN) mN R (prK R)))))))))))))))
   ·replace hb2:=bF hb2
    exact sF R R hb2 (sF R R hb2 (sF R R hb2 (sF R R hb2 (sF R R hb2 (sN (oPkF (cB hb2) (v:=(.bool _)) R (sMb R (sF R R R (sF R R R (sF R R R (sF R R R (sF R R R (sF R R R (sU R R (sU R R (sU R R (sF R R R (sN (oPkF R (v:=(.bool _)) R (sAb R (s0 (Wk.to (eC (cB (andF hb2)) eN) mN R (prK R)))))))))))))))))))))))
  refine LH.ret ?_
  obtain rfl:=oI h
  exact retE (aT Tryz.results101) (lrT R (lr0 ⟨memN mN,R,prK R,Sub.rfl⟩))

theorem q229q {F:Nat} {p0:List Gq4} {p1:List Int} {p2:Int} {r:Bool} (h:q153q F p0 p1 p2=some r):LCall Tryz.prog 82 [.lst 3 (List.map Gq4.lv p0),.L p1,.I p2] (Mem.of []) (.bool r) (Mem.of []):=by
  unfold q153q at h
  refine bodyT Tryz.func82 R (nT Tryz.ntmps82 R) (LH.wk (Wk.eq (el:=[(0,.lst 3 (List.map Gq4.lv p0)),(1,.L p1),(2,.I p2)]) (ml:=[]) R R R R) (LH.seqT [(0,.lst 3 (List.map Gq4.lv p0)),(1,.L p1),(2,.I p2)] [] R (sAb R zS) (LH.seq ?_)))
  obtain ⟨x1,hx1,h⟩:=bindS h
  obtain ⟨r2,hr2,h⟩:=bindS h
  refine LH.seqT [(0,.lst 3 (List.map Gq4.lv p0)),(1,.L p1),(2,.I p2),(13,.bool (!r2))] [] R (sMl R (sMi R (sN (oIx (f:=Gq4.lv) te111 tk61 ts61 R R Gq4.ok hx1 R (sN (oLdA R tk61 ta61 ts61 R R (sN (oCP (args:=[.agg [.I x1.Time,.I x1.Source,.I x1.Seq]]) R isF100 R (sbR sbN) (q198q hr2) R (sN (oNot R zS)))))))))) (LH.cond (t:=(!r2)) R (fun hc3=>?_) (fun hc3=>?_))
  ·replace h:=iteT h hc3
   refine LH.seqT [(6,.bool false)] [] R (sAb R zS) (LH.ret (thenR ?_))
   obtain rfl:=oI h
   exact retE (aT Tryz.results82) (lrT R (lr0 ⟨memN mN,R,prK R,Sub.rfl⟩))
  replace h:=iteF h hc3
  refine LH.skip (thenN (LH.wk (Wk.eq (el:=[(0,.lst 3 (List.map Gq4.lv p0)),(1,.L p1),(2,.I p2)]) (ml:=[]) R R R R) (LH.seq (LH.seqT [(0,.lst 3 (List.map Gq4.lv p0)),(1,.L p1),(2,.I p2),(7,.I 0)] [] R (sAi R zS) (LH.block (LH.loop (fun n e m=>∃ (n4:Int),q83q p0 p1 p2 n n4=some r∧e=Env.of [(0,.lst 3 (List.map Gq4.lv p0)),(1,.L p1),(2,.I p2),(7,.I n4)]∧m=Mem.of []) F ⟨0,h,R,R⟩ ?_))))))
  clear h
  rintro n e m ⟨n4,h,rfl,rfl⟩
  rcases n with _ | n
  · cases (show Option.none=some _ from h)
  obtain ⟨rec1,hrec1⟩:∃ f,f=q83q p0 p1 p2 n:=⟨_,rfl⟩
  replace h:q65q p0 p1 p2 rec1 n4=some r:=hrec1 ▸ h
  unfold q65q at h
  refine LH.seq (LH.seqT [(0,.lst 3 (List.map Gq4.lv p0)),(1,.L p1),(2,.I p2),(7,.I n4),(17,.bool (decide (n4<(p0.length:Int))))] [] R (sMi R (sMl R (sN (oLnL (f:=Gq4.lv) te111 R (sN (oLt R R zS)))))) (LH.cond (t:=(decide (n4<(p0.length:Int)))) R (fun hc5=>?_) (fun hc5=>?_)))
  ·replace h:=iteT h hc5
   refine LH.skip (thenN (LH.wk (Wk.eq (el:=[(0,.lst 3 (List.map Gq4.lv p0)),(1,.L p1),(2,.I p2),(7,.I n4)]) (ml:=[]) R R R R) (LH.seq (LH.block ?_))))
   obtain ⟨w7,hv,h⟩:=bindS h
   refine LH.seqJM mixed [] [0,0,0,0,0,0,0,0,0,0,0,0,0,0,0,0,0,0,0,0,0,0,0,0,0,0,0,0,0,0,0,0,0,0,0,0,0,0,0,0] [(0,.lst 3 (List.map Gq4.lv p0)),(1,.L p1),(2,.I p2),(7,.I n4),(59,.bool w7)] [] R R (by kernel_rfl) ?_ ?_
   ·refine mMl R (mMi R ?_)
    obtain ⟨x8,hx8,hv⟩:=bindS hv
    refine mN0 (oIx (f:=Gq4.lv) te111 tk61 ts61 R R Gq4.ok hx8 R ⟨R,mN0 (oLdA R tk61 ta61 ts61 R R ⟨R,?_⟩)⟩)
    obtain ⟨r9,hr9,hv⟩:=bindS hv
    refine mN0 (oCP (args:=[.agg [.I x8.Time,.I x8.Source,.I x8.Seq]]) R isF100 R (sbR sbN) (q198q hr9) R ⟨R,mMb R ?_⟩)
    by_cases hb10:r9=true
    ·replace hv:=iteT hv hb10
     refine mT R (cB hb10) (mMl R (mT R (cB hb10) (mMi R ?_)))
     obtain ⟨x11,hx11,hv⟩:=bindS hv
     refine mT R (cB hb10) (mN0 (oIx (f:=Gq4.lv) te111 tk61 ts61 R R Gq4.ok hx11 R ⟨R,mT R (cB hb10) (mN0 (oLdA R tk61 ta61 ts61 R R ⟨R,mT R (cB hb10) (mMl R (mT R (cB hb10) (mMi R ?_)))⟩))⟩))
     obtain ⟨x12,hx12,hv⟩:=bindS hv
     refine mT R (cB hb10) (mN0 (oIx (f:=Gq4.lv) te111 tk61 ts61 R R Gq4.ok hx12 R ⟨R,mT R (cB hb10) (mN0 (oLdA R tk61 ta61 ts61 R R ⟨R,mT R (cB hb10) (mMl R (mT R (cB hb10) (mMi R ?_)))⟩))⟩))
     obtain ⟨x13,hx13,hv⟩:=bindS hv
     refine mT R (cB hb10) (mN0 (oIx (f:=LV.I) te22 tk3 ts3 R R okI hx13 R ⟨R,mT R (cB hb10) (mN0 (oLd R tk3 ta3 ⟨R,mT R (cB hb10) (mMl R (mT R (cB hb10) (mMi R ?_)))⟩))⟩))
     obtain ⟨x14,hx14,hv⟩:=bindS hv
     refine mT R (cB hb10) (mN0 (oIx (f:=LV.I) te22 tk3 ts3 R R okI hx14 R ⟨R,mT R (cB hb10) (mN0 (oLd R tk3 ta3 ⟨R,?_⟩))⟩))
     obtain ⟨r15,hr15,hv⟩:=bindS hv
     refine mT R (cB hb10) (mN0 (oCP (args:=[.agg [.I x11.Time,.I x11.Source,.I x11.Seq],.agg [.I x12.Time,.I x12.Source,.I x12.Seq],.I x13,.I x14]) R isF101 R (sbR (sbR (sbR (sbR sbN)))) (q219q hr15) R ⟨R,mT R (cB hb10) (mMb R ?_)⟩))
     by_cases hb16:r15=true
     ·replace hv:=iteT hv hb16
      refine mF R R hb16 (mF R R hb16 (mF R R hb16 (mF R R hb16 (mU R R (mU R R (mU R R (mU R R (mU R R (mU R R (mU R R (mU R R (mU R R (mF R R hb16 (mT R (cB hb10) (mN0 (oPkT (cB hb16) (v:=(.bool _)) R ⟨R,mN0 (oPkT (cB hb10) (v:=(.bool _)) R ⟨R,?_⟩)⟩))))))))))))))))
      obtain rfl:=oI hv
      exact zM
     ·replace hb16:=bF hb16
      replace hv:=iteF hv hb16
      refine mT R (cB hb16) (mMi R (mT R (cB hb16) (mMi R (mT R (cB hb16) (mN0 (oLt R R ⟨R,mT R (cB hb16) (mMb R ?_)⟩))))))
      by_cases hb17:(decide (n4<p2))=true
      ·replace hv:=iteT hv hb17
       refine mT R (cB hb17) (mMl R (mT R (cB hb17) (mMi R ?_)))
       obtain ⟨x18,hx18,hv⟩:=bindS hv
       refine mT R (cB hb17) (mN0 (oIx (f:=Gq4.lv) te111 tk61 ts61 R R Gq4.ok hx18 R ⟨R,mT R (cB hb17) (mN0 (oLdA R tk61 ta61 ts61 R R ⟨R,mT R (cB hb17) (mMl R (mT R (cB hb17) (mMi R ?_)))⟩))⟩))
       obtain ⟨x19,hx19,hv⟩:=bindS hv
       refine mT R (cB hb17) (mN0 (oIx (f:=Gq4.lv) te111 tk61 ts61 R R Gq4.ok hx19 R ⟨R,mT R (cB hb17) (mN0 (oLdA R tk61 ta61 ts61 R R ⟨R,mT R (cB hb17) (mN0 (oEqA R R (ae61 x18 x19) ⟨R,mT R (cB hb16) (mN0 (oPkT (cB hb17) (v:=(.bool _)) R ⟨R,mT R (cB hb10) (mN0 (oPkF (cB hb16) (v:=(.bool _)) R ⟨R,mN0 (oPkT (cB hb10) (v:=(.bool _)) R ⟨R,?_⟩)⟩))⟩))⟩))⟩))⟩))
       obtain rfl:=oI hv
       exact zM
      ·replace hb17:=bF hb17
       replace hv:=iteF hv hb17
       refine mF R R hb17 (mF R R hb17 (mF R R hb17 (mF R R hb17 (mF R R hb17 (mF R R hb17 (mF R R hb17 (mF R R hb17 (mF R R hb17 (mT R (cB hb16) (mN0 (oPkF (cB hb17) (v:=(.bool _)) R ⟨R,mT R (cB hb10) (mN0 (oPkF (cB hb16) (v:=(.bool _)) R ⟨R,mN0 (oPkT (cB hb10) (v:=(.bool _)) R ⟨R,?_⟩)⟩))⟩)))))))))))
       obtain rfl:=oI hv
       exact zM
    ·replace hb10:=bF hb10
     replace hv:=iteF hv hb10
     refine mF R R hb10 (mF R R hb10 (mF R R hb10 (mF R R hb10 (mF R R hb10 (mF R R hb10 (mF R R hb10 (mF R R hb10 (mF R R hb10 (mF R R hb10 (mF R R hb10 (mF R R hb10 (mF R R hb10 (mF R R hb10 (mF R R hb10 (mF R R hb10 (mF R R hb10 (mF R R hb10 (mU R R (mU R R (mU R R (mU R R (mU R R (mU R R (mU R R (mU R R (mU R R (mU R R (mU R R (mU R R (mU R R (mU R R (mF R R hb10 (mN0 (oPkF (cB hb10) (v:=(.bool _)) R ⟨R,?_⟩))))))))))))))))))))))))))))))))))
     obtain rfl:=oI hv
     exact zM
   clear hv
   refine LH.cond (t:=w7) R (fun hc20=>?_) (fun hc20=>?_)
   ·replace h:=iteT h hc20
    refine LH.seqT [(6,.bool false)] [] R (sAb R zS) (LH.ret (blockR (thenR (roundR (blockR (thenR ?_))))))
    obtain rfl:=oI h
    exact retE (aT Tryz.results82) (lrT R (lr0 ⟨memN mN,R,prK R,Sub.rfl⟩))
   replace h:=iteF h hc20
   refine LH.skip (blockN (thenN (LH.loneT [(0,.lst 3 (List.map Gq4.lv p0)),(1,.L p1),(2,.I p2),(7,.I (i64 (n4+1)))] [] R (sMi R (sN (oAdd R R (sAi R zS)))) ?_)))
   exact roundI ⟨(i64 (n4+1)),hrec1 ▸ h,R,R⟩ (Wk.eq R R R R)
  replace h:=iteF h hc5
  refine LH.exit (thenX (roundX (blockH (thenN (LH.seqT [(6,.bool true)] [] R (sAb R zS) (LH.ret ?_))))))
  obtain rfl:=oI h
  exact retE (aT Tryz.results82) (lrT R (lr0 ⟨memN mN,R,prK R,Sub.rfl⟩))

theorem q160q {p0:Int} {p1:Int} {r:Int} (h:q91q p0 p1=some r):LCall Tryz.prog 102 [.I p0,.I p1] (Mem.of []) (.I r) (Mem.of []):=by
  unfold q91q at h
  refine bodyT Tryz.func102 R (nT Tryz.ntmps102 R) (LH.wk (Wk.eq (el:=[(0,.I p0),(1,.I p1)]) (ml:=[]) R R R R) (LH.seqT [(0,.I p0),(1,.I p1)] [] R (sAi R zS) (LH.seq (LH.seqT [(0,.I p0),(1,.I p1),(7,.bool (decide (p0<p1)))] [] R (sMi R (sMi R (sN (oLt R R zS)))) (LH.cond (t:=(decide (p0<p1))) R (fun hc1=>?_) (fun hc1=>?_))))))
  ·replace h:=iteT h hc1
   refine LH.seqT [(4,.I (-1))] [] R (sAi R zS) (LH.ret (thenR ?_))
   obtain rfl:=oI h
   exact retE (aT Tryz.results102) (lrT R (lr0 ⟨memN mN,R,prK R,Sub.rfl⟩))
  replace h:=iteF h hc1
  refine LH.skip (thenN (LH.wk (Wk.eq (el:=[(0,.I p0),(1,.I p1)]) (ml:=[]) R R R R) (LH.seq (LH.seqT [(10,.bool (decide (p0 > p1)))] [] R (sMi R (sMi R (sN (oGt R R zS)))) (LH.cond (t:=(decide (p0 > p1))) R (fun hc2=>?_) (fun hc2=>?_))))))
  ·replace h:=iteT h hc2
   refine LH.seqT [(4,.I 1)] [] R (sAi R zS) (LH.ret (thenR ?_))
   obtain rfl:=oI h
   exact retE (aT Tryz.results102) (lrT R (lr0 ⟨memN mN,R,prK R,Sub.rfl⟩))
  replace h:=iteF h hc2
  refine LH.skip (thenN (LH.seqT [(4,.I 0)] [] R (sAi R zS) (LH.ret ?_)))
  obtain rfl:=oI h
  exact retE (aT Tryz.results102) (lrT R (lr0 ⟨memN mN,R,prK R,Sub.rfl⟩))

theorem q224q {p0:Gq4} {p1:Gq4} {r:Int} (h:q144q p0 p1=some r):LCall Tryz.prog 83 [.agg [.I p0.Time,.I p0.Source,.I p0.Seq],.agg [.I p1.Time,.I p1.Source,.I p1.Seq]] (Mem.of []) (.I r) (Mem.of []):=by
  unfold q144q at h
  refine bodyT Tryz.func83 R (nT Tryz.ntmps83 R) (LH.wk (Wk.eq (el:=[(0,.agg [.I p0.Time,.I p0.Source,.I p0.Seq]),(1,.agg [.I p1.Time,.I p1.Source,.I p1.Seq])]) (ml:=[]) R R R R) (LH.seqT [(2,.sptr [.I p0.Time,.I p0.Source,.I p0.Seq]),(3,.sptr [.I p1.Time,.I p1.Source,.I p1.Seq])] [] R (sB (oBxR R R R R (sB (oBxR R R R R (sAi R zS))))) ?_))
  obtain ⟨r1,hr1,h⟩:=bindS h
  refine LH.seqT [(2,.sptr [.I p0.Time,.I p0.Source,.I p0.Seq]),(3,.sptr [.I p1.Time,.I p1.Source,.I p1.Seq]),(5,.I r1)] [] R (sN (oFaS tf61_0 tk3 ts3 R R R (sN (oLd R tk3 ta3 (sN (oFaS tf61_0 tk3 ts3 R R R (sN (oLd R tk3 ta3 (sN (oCP (args:=[.I p0.Time,.I p1.Time]) R isF102 R (sbR (sbR sbN)) (q160q hr1) R (sAi R zS))))))))))) (LH.seq (LH.seqT [(2,.sptr [.I p0.Time,.I p0.Source,.I p0.Seq]),(3,.sptr [.I p1.Time,.I p1.Source,.I p1.Seq]),(5,.I r1),(12,.bool (r1 == 0))] [] R (sMi R (sN (oEq R R zS))) (LH.cond (t:=(r1 == 0)) R (fun hc2=>?_) (fun hc2=>?_))))
  ·replace h:=iteT h hc2
   obtain ⟨r3,hr3,h⟩:=bindS h
   refine LH.loneT [(2,.sptr [.I p0.Time,.I p0.Source,.I p0.Seq]),(3,.sptr [.I p1.Time,.I p1.Source,.I p1.Seq]),(5,.I r3)] [] R (sN (oFaS tf61_1 tk3 ts3 R R R (sN (oLd R tk3 ta3 (sN (oFaS tf61_1 tk3 ts3 R R R (sN (oLd R tk3 ta3 (sN (oCP (args:=[.I p0.Source,.I p1.Source]) R isF102 R (sbR (sbR sbN)) (q160q hr3) R (sAi R zS))))))))))) (thenN (LH.seq (LH.seqT [(2,.sptr [.I p0.Time,.I p0.Source,.I p0.Seq]),(3,.sptr [.I p1.Time,.I p1.Source,.I p1.Seq]),(5,.I r3),(19,.bool (r3 == 0))] [] R (sMi R (sN (oEq R R zS))) (LH.cond (t:=(r3 == 0)) R (fun hc4=>?_) (fun hc4=>?_)))))
   ·replace h:=iteT h hc4
    obtain ⟨r5,hr5,h⟩:=bindS h
    refine LH.loneT [(5,.I r5)] [] R (sN (oFaS tf61_2 tk3 ts3 R R R (sN (oLd R tk3 ta3 (sN (oFaS tf61_2 tk3 ts3 R R R (sN (oLd R tk3 ta3 (sN (oCP (args:=[.I p0.Seq,.I p1.Seq]) R isF102 R (sbR (sbR sbN)) (q160q hr5) R (sAi R zS))))))))))) (thenN (LH.seqT [(4,.I r5)] [] R (sMi R (sAi R zS)) (LH.ret ?_)))
    obtain rfl:=oI h
    exact retE (aT Tryz.results83) (lrT R (lr0 ⟨memN mN,R,prK R,Sub.rfl⟩))
   replace h:=iteF h hc4
   refine LH.skip (thenN (LH.seqT [(4,.I r3)] [] R (sMi R (sAi R zS)) (LH.ret ?_)))
   obtain rfl:=oI h
   exact retE (aT Tryz.results83) (lrT R (lr0 ⟨memN mN,R,prK R,Sub.rfl⟩))
  replace h:=iteF h hc2
  refine LH.skip (thenN (LH.wk (Wk.eq (el:=[(2,.sptr [.I p0.Time,.I p0.Source,.I p0.Seq]),(3,.sptr [.I p1.Time,.I p1.Source,.I p1.Seq]),(5,.I r1)]) (ml:=[]) R R R R) (LH.seq (LH.seqT [(2,.sptr [.I p0.Time,.I p0.Source,.I p0.Seq]),(3,.sptr [.I p1.Time,.I p1.Source,.I p1.Seq]),(5,.I r1),(19,.bool (r1 == 0))] [] R (sMi R (sN (oEq R R zS))) (LH.cond (t:=(r1 == 0)) R (fun hc6=>?_) (fun hc6=>?_))))))
  ·replace h:=iteT h hc6
   obtain ⟨r7,hr7,h⟩:=bindS h
   refine LH.loneT [(5,.I r7)] [] R (sN (oFaS tf61_2 tk3 ts3 R R R (sN (oLd R tk3 ta3 (sN (oFaS tf61_2 tk3 ts3 R R R (sN (oLd R tk3 ta3 (sN (oCP (args:=[.I p0.Seq,.I p1.Seq]) R isF102 R (sbR (sbR sbN)) (q160q hr7) R (sAi R zS))))))))))) (thenN (LH.seqT [(4,.I r7)] [] R (sMi R (sAi R zS)) (LH.ret ?_)))
   obtain rfl:=oI h
   exact retE (aT Tryz.results83) (lrT R (lr0 ⟨memN mN,R,prK R,Sub.rfl⟩))
  replace h:=iteF h hc6
  refine LH.skip (thenN (LH.seqT [(4,.I r1)] [] R (sMi R (sAi R zS)) (LH.ret ?_)))
  obtain rfl:=oI h
  exact retE (aT Tryz.results83) (lrT R (lr0 ⟨memN mN,R,prK R,Sub.rfl⟩))

theorem q212q {F:Nat} {p0:List Gq4} {p1:List Int} {r:List Int × Int} (h:q82q F p0 p1=some r):LCall Tryz.prog 63 [.lst 3 (List.map Gq4.lv p0),.L p1] (Mem.of []) (.tup [.L r.1,.I r.2]) (Mem.of []):=by
  unfold q82q at h
  refine bodyT Tryz.func63 R (nT Tryz.ntmps63 R) (LH.wk (Wk.eq (el:=[(0,.lst 3 (List.map Gq4.lv p0)),(1,.L p1)]) (ml:=[]) R R R R) (LH.seqT [(0,.lst 3 (List.map Gq4.lv p0)),(1,.L p1)] [] R (sAn R (sAi R zS)) (LH.seq (LH.seqT [(0,.lst 3 (List.map Gq4.lv p0)),(1,.L p1),(14,.bool ((p1.length:Int) != (p0.length:Int)))] [] R (sMl R (sN (oLnL (f:=LV.I) te22 R (sMl R (sN (oLnL (f:=Gq4.lv) te111 R (sN (oNe R R zS)))))))) (LH.cond (t:=((p1.length:Int) != (p0.length:Int))) R (fun hc1=>?_) (fun hc1=>?_))))))
  ·replace h:=iteT h hc1
   refine LH.seqT [(4,.nil),(5,.I 1)] [] R (sAn R (sAi R zS)) (LH.ret (thenR ?_))
   obtain rfl:=oI h
   exact retE (aT Tryz.results63) (lrT R (lrT R (lr0 ⟨memN mN,R,prK R,(Sub.tup (sbL (sbR sbN)))⟩)))
  replace h:=iteF h hc1
  refine LH.skip (thenN (LH.seqT [(0,.lst 3 (List.map Gq4.lv p0)),(1,.L p1),(6,.nil)] [] R (sAn R zS) (LH.seq (LH.seqT [(0,.lst 3 (List.map Gq4.lv p0)),(1,.L p1),(6,.nil),(7,.I 0)] [] R (sAi R zS) (LH.block (LH.wk (Wk.to (el:=[(0,.lst 3 (List.map Gq4.lv p0)),(1,.L p1),(6,.L ([]:List Int)),(7,.I 0)]) (ml:=[]) (eC R (eC R (eL R (eC R eN)))) mN R (prK R)) (LH.loop (fun n e m=>∃ (l2:List Int) (n3:Int),q48q F p0 p1 n l2 n3=some r∧e=Env.of [(0,.lst 3 (List.map Gq4.lv p0)),(1,.L p1),(6,.L l2),(7,.I n3)]∧m=Mem.of []) F ⟨([]:List Int),0,h,R,R⟩ ?_)))))))
  clear h
  rintro n e m ⟨l2,n3,h,rfl,rfl⟩
  rcases n with _ | n
  · cases (show Option.none=some _ from h)
  obtain ⟨rec1,hrec1⟩:∃ f,f=q48q F p0 p1 n:=⟨_,rfl⟩
  replace h:q57q F p0 p1 rec1 l2 n3=some r:=hrec1 ▸ h
  unfold q57q at h
  refine LH.seq (LH.seqT [(0,.lst 3 (List.map Gq4.lv p0)),(1,.L p1),(6,.L l2),(7,.I n3),(18,.bool (decide (n3<(p0.length:Int))))] [] R (sMi R (sMl R (sN (oLnL (f:=Gq4.lv) te111 R (sN (oLt R R zS)))))) (LH.cond (t:=(decide (n3<(p0.length:Int)))) R (fun hc4=>?_) (fun hc4=>?_)))
  ·replace h:=iteT h hc4
   refine LH.skip (thenN (LH.wk (Wk.eq (el:=[(0,.lst 3 (List.map Gq4.lv p0)),(1,.L p1),(6,.L l2),(7,.I n3)]) (ml:=[]) R R R R) (LH.seq (LH.block (LH.seq ?_)))))
   obtain ⟨r5,hr5,h⟩:=bindS h
   refine LH.seqT [(0,.lst 3 (List.map Gq4.lv p0)),(1,.L p1),(6,.L l2),(7,.I n3),(25,.bool (!r5))] [] R (sMl R (sMl R (sMi R (sN (oCP (args:=[.lst 3 (List.map Gq4.lv p0),.L p1,.I n3]) R isF82 R (sbR (sbR (sbR sbN))) (q229q hr5) R (sN (oNot R zS))))))) (LH.cond (t:=(!r5)) R (fun hc6=>?_) (fun hc6=>?_))
   ·replace h:=iteT h hc6
    refine LH.exit (thenX (blockH (thenN (LH.loneT [(0,.lst 3 (List.map Gq4.lv p0)),(1,.L p1),(6,.L l2),(7,.I (i64 (n3+1)))] [] R (sMi R (sN (oAdd R R (sAi R zS)))) ?_))))
    exact roundI ⟨l2,(i64 (n3+1)),hrec1 ▸ h,R,R⟩ (Wk.eq R R R R)
   replace h:=iteF h hc6
   refine LH.skip (thenN (LH.seqT [(0,.lst 3 (List.map Gq4.lv p0)),(1,.L p1),(6,.L l2),(7,.I n3),(8,.I (l2.length:Int))] [] R (sMl R (sN (oLnL (f:=LV.I) te22 R (sAi R zS)))) (LH.seq (LH.block (LH.loop (fun n e m=>∃ (n7:Int),q49q rec1 p0 l2 n3 n n7=some r∧e=Env.of [(0,.lst 3 (List.map Gq4.lv p0)),(1,.L p1),(6,.L l2),(7,.I n3),(8,.I n7)]∧m=Mem.of []) F ⟨(l2.length:Int),h,R,R⟩ ?_)))))
   clear h
   rintro n e m ⟨n7,h,rfl,rfl⟩
   rcases n with _ | n
   · cases (show Option.none=some _ from h)
   obtain ⟨rec2,hrec2⟩:∃ f,f=q49q rec1 p0 l2 n3 n:=⟨_,rfl⟩
   replace h:q58q rec1 p0 l2 n3 rec2 n7=some r:=hrec2 ▸ h
   unfold q58q at h
   refine LH.seq ?_
   obtain ⟨w9,hv,h⟩:=bindS h
   refine LH.seqJM mixed [] [0,0,0,0,0,0,0,0,0,0,0,0,0,0,0,0,0,0] [(0,.lst 3 (List.map Gq4.lv p0)),(1,.L p1),(6,.L l2),(7,.I n3),(8,.I n7),(45,.bool w9)] [] R R (by kernel_rfl) ?_ ?_
   ·refine mMi R (mN0 (oGt R R ⟨R,mMb R ?_⟩))
    by_cases hb10:(decide (n7 > 0))=true
    ·replace hv:=iteT hv hb10
     refine mT R (cB hb10) (mMl R (mT R (cB hb10) (mMl R (mT R (cB hb10) (mMi R (mT R (cB hb10) (mN0 (oSub R R ⟨R,?_⟩))))))))
     obtain ⟨x11,hx11,hv⟩:=bindS hv
     refine mT R (cB hb10) (mN0 (oIx (f:=LV.I) te22 tk3 ts3 R R okI hx11 R ⟨R,mT R (cB hb10) (mN0 (oLd R tk3 ta3 ⟨R,?_⟩))⟩))
     obtain ⟨x12,hx12,hv⟩:=bindS hv
     refine mT R (cB hb10) (mN0 (oIx (f:=Gq4.lv) te111 tk61 ts61 R R Gq4.ok hx12 R ⟨R,mT R (cB hb10) (mN0 (oLdA R tk61 ta61 ts61 R R ⟨R,mT R (cB hb10) (mMl R (mT R (cB hb10) (mMi R ?_)))⟩))⟩))
     obtain ⟨x13,hx13,hv⟩:=bindS hv
     refine mT R (cB hb10) (mN0 (oIx (f:=Gq4.lv) te111 tk61 ts61 R R Gq4.ok hx13 R ⟨R,mT R (cB hb10) (mN0 (oLdA R tk61 ta61 ts61 R R ⟨R,?_⟩))⟩))
     obtain ⟨r14,hr14,hv⟩:=bindS hv
     refine mT R (cB hb10) (mN0 (oCP (args:=[.agg [.I x12.Time,.I x12.Source,.I x12.Seq],.agg [.I x13.Time,.I x13.Source,.I x13.Seq]]) R isF83 R (sbR (sbR sbN)) (q224q hr14) R ⟨R,mT R (cB hb10) (mN0 (oGt R R ⟨R,mN0 (oPkT (cB hb10) (v:=(.bool _)) R ⟨R,?_⟩)⟩))⟩))
     obtain rfl:=oI hv
     exact zM
    ·replace hb10:=bF hb10
     replace hv:=iteF hv hb10
     refine mF R R hb10 (mF R R hb10 (mF R R hb10 (mF R R hb10 (mF R R hb10 (mF R R hb10 (mF R R hb10 (mF R R hb10 (mF R R hb10 (mF R R hb10 (mF R R hb10 (mF R R hb10 (mF R R hb10 (mF R R hb10 (mN0 (oPkF (cB hb10) (v:=(.bool _)) R ⟨R,?_⟩)))))))))))))))
     obtain rfl:=oI hv
     exact zM
   clear hv
   refine LH.cond (t:=w9) R (fun hc15=>?_) (fun hc15=>?_)
   ·replace h:=iteT h hc15
    refine LH.skip (thenN (LH.wk (Wk.eq (el:=[(0,.lst 3 (List.map Gq4.lv p0)),(1,.L p1),(6,.L l2),(7,.I n3),(8,.I n7)]) (ml:=[]) R R R R) (LH.block (LH.loneT [(0,.lst 3 (List.map Gq4.lv p0)),(1,.L p1),(6,.L l2),(7,.I n3),(8,.I (i64 (n7 - 1)))] [] R (sMi R (sN (oSub R R (sAi R zS)))) (blockN ?_)))))
    exact roundI ⟨(i64 (n7 - 1)),hrec2 ▸ h,R,R⟩ (Wk.eq R R R R)
   replace h:=iteF h hc15
   refine LH.exit (thenX (roundX (blockH (thenN (LH.seqT [(0,.lst 3 (List.map Gq4.lv p0)),(1,.L p1),(6,.L l2),(7,.I n3),(8,.I n7),(9,.nil)] [] R (sAn R zS) ?_)))))
   obtain ⟨v16,hv16,h⟩:=bindS h
   obtain ⟨v17,hv17,h⟩:=bindS h
   refine LH.seqT [(0,.lst 3 (List.map Gq4.lv p0)),(1,.L p1),(6,.L l2),(7,.I n3),(8,.I n7),(9,.arr 152 (List.length v17))] [(152,.arr 3 1 (List.map LV.I v17))] R (sMn R (sMl R (sMi R (sN (oSl (f:=LV.I) te22 tk3 ts3 R R R hv16 (sN (oApN (f:=LV.I) (id:=152) R te22 tr3 ts3 R R hv17 R (sAa R zS)))))))) ?_
   obtain ⟨v18,hv18,h⟩:=bindS h
   refine LH.seqT [(0,.lst 3 (List.map Gq4.lv p0)),(1,.L p1),(6,.L l2),(7,.I n3),(8,.I n7),(9,.arr 152 (List.length v18))] [(152,.arr 3 1 (List.map LV.I v18))] R (sMa R (sMi R (sN (oBS (f:=LV.I) (ys:=[n3]) te22 tr3 ts3 R R R okI (sN (oAp (f:=LV.I) te22 tr3 ts3 R R (prN R) R hv18 (sAa R zS))))))) ?_
   obtain ⟨v19,hv19,h⟩:=bindS h
   obtain ⟨v20,hv20,h⟩:=bindS h
   refine LH.seqT [(0,.lst 3 (List.map Gq4.lv p0)),(1,.L p1),(7,.I n3),(9,.L v20)] [] R (sMa R (sMl R (sMi R (sN (oSl (f:=LV.I) te22 tk3 ts3 R R R hv19 (sN (oAp (f:=LV.I) te22 tr3 ts3 R R (prN R) R hv20 (sAa R (s0 ((Wk.trans (Wk.eq (el:=[(0,.lst 3 (List.map Gq4.lv p0)),(1,.L p1),(7,.I n3),(9,.arr 152 (List.length v20))]) (ml:=[(152,.arr 3 1 (List.map LV.I v20))]) R R R R) (Wk.trans (Wk.frzL (f:=LV.I) (el':=[(0,.lst 3 (List.map Gq4.lv p0)),(1,.L p1),(7,.I n3),(9,.L v20)]) 152 3 1 v20 R R (prN R) (fK R (fK R (fK R (fZ fN))))) (Wk.eq R R R R))))))))))))) (LH.loneT [(0,.lst 3 (List.map Gq4.lv p0)),(1,.L p1),(6,.L v20),(7,.I n3)] [] R (sMl R (sAl R zS)) (blockN (thenN (LH.loneT [(0,.lst 3 (List.map Gq4.lv p0)),(1,.L p1),(6,.L v20),(7,.I (i64 (n3+1)))] [] R (sMi R (sN (oAdd R R (sAi R zS)))) ?_))))
   exact roundI ⟨v20,(i64 (n3+1)),hrec1 ▸ h,R,R⟩ (Wk.eq R R R R)
  replace h:=iteF h hc4
  refine LH.exit (thenX (roundX (blockH (thenN (LH.wk (Wk.eq (el:=[(6,.L l2)]) (ml:=[]) R R R R) (LH.seq (LH.seqT [(6,.L l2),(65,.bool (decide ((l2.length:Int) > 300)))] [] R (sMl R (sN (oLnL (f:=LV.I) te22 R (sN (oGt R R zS))))) (LH.cond (t:=(decide ((l2.length:Int) > 300))) R (fun hc21=>?_) (fun hc21=>?_)))))))))
  ·replace h:=iteT h hc21
   refine LH.seqT [(4,.nil),(5,.I 3)] [] R (sAn R (sAi R zS)) (LH.ret (thenR ?_))
   obtain rfl:=oI h
   exact retE (aT Tryz.results63) (lrT R (lrT R (lr0 ⟨memN mN,R,prK R,(Sub.tup (sbL (sbR sbN)))⟩)))
  replace h:=iteF h hc21
  refine LH.skip (thenN (LH.seqT [(4,.L l2),(5,.I 0)] [] R (sMl R (sAl R (sAi R zS))) (LH.ret ?_)))
  obtain rfl:=oI h
  exact retE (aT Tryz.results63) (lrT R (lrT R (lr0 ⟨memN mN,R,prK R,(Sub.tup (sbR (sbR sbN)))⟩)))

theorem q214q {F:Nat} {p0:List Gq0} {r:List Gq0 × Int} (h:q151q F p0=some r):LCall Tryz.prog 34 [.lst 12 (List.map Gq0.lv p0)] (Mem.of []) (.tup [.lst 12 (List.map Gq0.lv r.1),.I r.2]) (Mem.of []):=by
  unfold q151q at h
  refine bodyT Tryz.func34 R (nT Tryz.ntmps34 R) (LH.wk (Wk.eq (el:=[(0,.lst 12 (List.map Gq0.lv p0))]) (ml:=[]) R R R R) (LH.seqT [(0,.lst 12 (List.map Gq0.lv p0))] [] R (sAn R (sAi R zS)) (LH.seqT [(0,.lst 12 (List.map Gq0.lv p0)),(4,.nil)] [] R (sAn R zS) (LH.seqT [(0,.lst 12 (List.map Gq0.lv p0)),(4,.nil),(5,.nil)] [] R (sAn R zS) (LH.seq (LH.seqT [(0,.lst 12 (List.map Gq0.lv p0)),(4,.nil),(5,.nil),(6,.I 0)] [] R (sAi R zS) (LH.block (LH.wk ((Wk.trans (Wk.eq (el:=[(0,.lst 12 (List.map Gq0.lv p0)),(4,.nil),(5,.nil),(6,.I 0)]) (ml:=[]) R R R R) (Wk.trans (Wk.eq (el:=[(0,.lst 12 (List.map Gq0.lv p0)),(4,.nil),(5,.nil),(6,.I 0)]) (ml:=[]) R R R R) (Wk.trans (Wk.ownL (el':=[(0,.lst 12 (List.map Gq0.lv p0)),(4,.arr 143 (List.length ([]:List Gq4))),(5,.nil),(6,.I 0)]) 143 61 3 R R (wK (wO (wK (wK wN))))) (Wk.trans (Wk.eq (el:=[(0,.lst 12 (List.map Gq0.lv p0)),(4,.arr 143 (List.length ([]:List Gq4))),(5,.nil),(6,.I 0)]) (ml:=[(143,.arr 61 3 (List.map Gq4.lv ([]:List Gq4)))]) R R R R) (Wk.trans (Wk.ownL (el':=[(0,.lst 12 (List.map Gq0.lv p0)),(4,.arr 143 (List.length ([]:List Gq4))),(5,.arr 147 (List.length ([]:List Int))),(6,.I 0)]) 147 3 1 R R (wK (wK (wO (wK wN))))) (Wk.eq (el:=[(0,.lst 12 (List.map Gq0.lv p0)),(4,.arr 143 (List.length ([]:List Gq4))),(5,.arr 147 (List.length ([]:List Int))),(6,.I 0)]) (ml:=[(143,.arr 61 3 (List.map Gq4.lv ([]:List Gq4))),(147,.arr 3 1 (List.map LV.I ([]:List Int)))]) R R R R))))))) (LH.loop (fun n e m=>∃ (n1:Int) (l2:List Gq4) (l3:List Int),q19q F p0 n n1 l2 l3=some r∧e=Env.of [(0,.lst 12 (List.map Gq0.lv p0)),(4,.arr 143 (List.length l2)),(5,.arr 147 (List.length l3)),(6,.I n1)]∧m=Mem.of [(143,.arr 61 3 (List.map Gq4.lv l2)),(147,.arr 3 1 (List.map LV.I l3))]) F ⟨0,([]:List Gq4),([]:List Int),h,R,R⟩ ?_)))))))))
  clear h
  rintro n e m ⟨n1,l2,l3,h,rfl,rfl⟩
  rcases n with _ | n
  · cases (show Option.none=some _ from h)
  obtain ⟨rec1,hrec1⟩:∃ f,f=q19q F p0 n:=⟨_,rfl⟩
  replace h:q59q F p0 rec1 n1 l2 l3=some r:=hrec1 ▸ h
  unfold q59q at h
  refine LH.seq (LH.seqT [(0,.lst 12 (List.map Gq0.lv p0)),(4,.arr 143 (List.length l2)),(5,.arr 147 (List.length l3)),(6,.I n1),(16,.bool (decide (n1<(p0.length:Int))))] [(143,.arr 61 3 (List.map Gq4.lv l2)),(147,.arr 3 1 (List.map LV.I l3))] R (sMi R (sMl R (sN (oLnL (f:=Gq0.lv) te25 R (sN (oLt R R zS)))))) (LH.cond (t:=(decide (n1<(p0.length:Int)))) R (fun hc4=>?_) (fun hc4=>?_)))
  ·replace h:=iteT h hc4
   refine LH.skip (thenN (LH.wk (Wk.eq (el:=[(0,.lst 12 (List.map Gq0.lv p0)),(4,.arr 143 (List.length l2)),(5,.arr 147 (List.length l3)),(6,.I n1)]) (ml:=[(143,.arr 61 3 (List.map Gq4.lv l2)),(147,.arr 3 1 (List.map LV.I l3))]) R R R R) (LH.seq (LH.block (LH.seqT [(0,.lst 12 (List.map Gq0.lv p0)),(4,.arr 143 (List.length l2)),(5,.arr 147 (List.length l3)),(6,.I n1),(7,.I n1)] [(143,.arr 61 3 (List.map Gq4.lv l2)),(147,.arr 3 1 (List.map LV.I l3))] R (sMi R (sAi R zS)) (LH.seq (LH.seqT [(0,.lst 12 (List.map Gq0.lv p0)),(4,.arr 143 (List.length l2)),(5,.arr 147 (List.length l3)),(6,.I n1),(7,.I n1),(8,.I (i64 (n1 - 1)))] [(143,.arr 61 3 (List.map Gq4.lv l2)),(147,.arr 3 1 (List.map LV.I l3))] R (sMi R (sN (oSub R R (sAi R zS)))) (LH.block (LH.loop (fun n e m=>∃ (n5:Int) (n6:Int),q27q rec1 F p0 n1 l2 l3 n n5 n6=some r∧e=Env.of [(0,.lst 12 (List.map Gq0.lv p0)),(4,.arr 143 (List.length l2)),(5,.arr 147 (List.length l3)),(6,.I n1),(7,.I n5),(8,.I n6)]∧m=Mem.of [(143,.arr 61 3 (List.map Gq4.lv l2)),(147,.arr 3 1 (List.map LV.I l3))]) F ⟨n1,(i64 (n1 - 1)),h,R,R⟩ ?_)))))))))
   clear h
   rintro n e m ⟨n5,n6,h,rfl,rfl⟩
   rcases n with _ | n
   · cases (show Option.none=some _ from h)
   obtain ⟨rec2,hrec2⟩:∃ f,f=q27q rec1 F p0 n1 l2 l3 n:=⟨_,rfl⟩
   replace h:q60q rec1 F p0 n1 l2 l3 rec2 n5 n6=some r:=hrec2 ▸ h
   unfold q60q at h
   refine LH.seq (LH.seqT [(0,.lst 12 (List.map Gq0.lv p0)),(4,.arr 143 (List.length l2)),(5,.arr 147 (List.length l3)),(6,.I n1),(7,.I n5),(8,.I n6),(23,.bool (decide (n6 ≥ 0)))] [(143,.arr 61 3 (List.map Gq4.lv l2)),(147,.arr 3 1 (List.map LV.I l3))] R (sMi R (sN (oGe R R zS))) (LH.cond (t:=(decide (n6 ≥ 0))) R (fun hc7=>?_) (fun hc7=>?_)))
   ·replace h:=iteT h hc7
    refine LH.skip (thenN (LH.wk (Wk.eq (el:=[(0,.lst 12 (List.map Gq0.lv p0)),(4,.arr 143 (List.length l2)),(5,.arr 147 (List.length l3)),(6,.I n1),(7,.I n5),(8,.I n6)]) (ml:=[(143,.arr 61 3 (List.map Gq4.lv l2)),(147,.arr 3 1 (List.map LV.I l3))]) R R R R) (LH.seq (LH.block ?_))))
    obtain ⟨x8,hx8,h⟩:=bindS h
    obtain ⟨x9,hx9,h⟩:=bindS h
    obtain ⟨r10,hr10,h⟩:=bindS h
    refine LH.seqJM mixed [] [0,0,0,0,0,0,0,0,0] [(0,.lst 12 (List.map Gq0.lv p0)),(4,.arr 143 (List.length l2)),(5,.arr 147 (List.length l3)),(6,.I n1),(7,.I n5),(8,.I n6),(34,.bool r10)] [(143,.arr 61 3 (List.map Gq4.lv l2)),(147,.arr 3 1 (List.map LV.I l3))] R R (by kernel_rfl) (mMl R (mMi R (mN0 (oIx (f:=Gq0.lv) te25 tk63 ts63 R R Gq0.ok hx8 R ⟨R,mN0 (oLdA R tk63 ta63 ts63 R R ⟨R,mMl R (mMi R (mN0 (oIx (f:=Gq0.lv) te25 tk63 ts63 R R Gq0.ok hx9 R ⟨R,mN0 (oLdA R tk63 ta63 ts63 R R ⟨R,mN0 (oCP (args:=[Gq0.lv x8,Gq0.lv x9]) R isF62 R (sbR (sbR sbN)) (q245q hr10) R ⟨R,zM⟩)⟩)⟩)))⟩)⟩)))) (LH.cond (t:=r10) R (fun hc11=>?_) (fun hc11=>?_))
    ·replace h:=iteT h hc11
     refine LH.loneT [(0,.lst 12 (List.map Gq0.lv p0)),(4,.arr 143 (List.length l2)),(5,.arr 147 (List.length l3)),(6,.I n1),(7,.I n6),(8,.I n6)] [(143,.arr 61 3 (List.map Gq4.lv l2)),(147,.arr 3 1 (List.map LV.I l3))] R (sMi R (sAi R zS)) (blockN (thenN (LH.loneT [(0,.lst 12 (List.map Gq0.lv p0)),(4,.arr 143 (List.length l2)),(5,.arr 147 (List.length l3)),(6,.I n1),(7,.I n6),(8,.I (i64 (n6 - 1)))] [(143,.arr 61 3 (List.map Gq4.lv l2)),(147,.arr 3 1 (List.map LV.I l3))] R (sMi R (sN (oSub R R (sAi R zS)))) ?_)))
     exact roundI ⟨n6,(i64 (n6 - 1)),hrec2 ▸ h,R,R⟩ (Wk.eq R R R R)
    replace h:=iteF h hc11
    refine LH.skip (blockN (thenN (LH.loneT [(0,.lst 12 (List.map Gq0.lv p0)),(4,.arr 143 (List.length l2)),(5,.arr 147 (List.length l3)),(6,.I n1),(7,.I n5),(8,.I (i64 (n6 - 1)))] [(143,.arr 61 3 (List.map Gq4.lv l2)),(147,.arr 3 1 (List.map LV.I l3))] R (sMi R (sN (oSub R R (sAi R zS)))) ?_)))
    exact roundI ⟨n5,(i64 (n6 - 1)),hrec2 ▸ h,R,R⟩ (Wk.eq R R R R)
   replace h:=iteF h hc7
   refine LH.exit (thenX (roundX (blockH (thenN ?_))))
   obtain ⟨x12,hx12,h⟩:=bindS h
   obtain ⟨v13,hv13,h⟩:=bindS h
   obtain ⟨v14,hv14,h⟩:=bindS h
   refine LH.loneT [(0,.lst 12 (List.map Gq0.lv p0)),(4,.arr 143 (List.length v13)),(5,.arr 147 (List.length v14)),(6,.I n1)] [(143,.arr 61 3 (List.map Gq4.lv v13)),(147,.arr 3 1 (List.map LV.I v14))] R ?_ ?_
   ·exact sMa R (sMl R (sMi R (sN (oIx (f:=Gq0.lv) te25 tk63 ts63 R R Gq0.ok hx12 R (sN (oFaS tf63_0 tk61 ts61 R R R (sN (oLdA R tk61 ta61 ts61 R R (sN (oBS (f:=Gq4.lv) (ys:=[x12.Stamp]) te111 tr61 ts61 R R R Gq4.ok (sN (oAp (f:=Gq4.lv) te111 tr61 ts61 R R (prN R) R hv13 (sMa R (sMi R (sN (oBS (f:=LV.I) (ys:=[n5]) te22 tr3 ts3 R R R okI (sN (oAp (f:=LV.I) te22 tr3 ts3 R R (prN R) R hv14 (sAa R (sAa R zS))))))))))))))))))))
   refine blockN (thenN (LH.loneT [(0,.lst 12 (List.map Gq0.lv p0)),(4,.arr 143 (List.length v13)),(5,.arr 147 (List.length v14)),(6,.I (i64 (n1+1)))] [(143,.arr 61 3 (List.map Gq4.lv v13)),(147,.arr 3 1 (List.map LV.I v14))] R (sMi R (sN (oAdd R R (sAi R zS)))) ?_))
   exact roundI ⟨(i64 (n1+1)),v13,v14,hrec1 ▸ h,R,R⟩ (Wk.eq R R R R)
  replace h:=iteF h hc4
  refine LH.exit (thenX (roundX (blockH (thenN (LH.wk ((Wk.trans (Wk.eq (el:=[(0,.lst 12 (List.map Gq0.lv p0)),(4,.arr 143 (List.length l2)),(5,.arr 147 (List.length l3))]) (ml:=[(143,.arr 61 3 (List.map Gq4.lv l2)),(147,.arr 3 1 (List.map LV.I l3))]) R R R R) (Wk.trans (Wk.frzL (f:=Gq4.lv) (el':=[(0,.lst 12 (List.map Gq0.lv p0)),(4,.lst 3 (List.map Gq4.lv l2)),(5,.arr 147 (List.length l3))]) 143 61 3 l2 R R (prN R) (fK R (fZ (fK R fN)))) (Wk.trans (Wk.frzL (f:=LV.I) (el':=[(0,.lst 12 (List.map Gq0.lv p0)),(4,.lst 3 (List.map Gq4.lv l2)),(5,.L l3)]) 147 3 1 l3 R R (prN R) (fK R (fK R (fZ fN)))) (Wk.eq (el:=[(0,.lst 12 (List.map Gq0.lv p0)),(4,.lst 3 (List.map Gq4.lv l2)),(5,.L l3)]) (ml:=[]) R R R R))))) ?_)))))
  obtain ⟨r15,hr15,h⟩:=bindS h
  refine LH.seqT [(0,.lst 12 (List.map Gq0.lv p0)),(9,.L r15.1),(10,.I r15.2)] [] R (sMl R (sMl R (sN (oCP (args:=[.lst 3 (List.map Gq4.lv l2),.L l3]) R isF63 R (sbR (sbR sbN)) (q212q hr15) R (sMt R (sN (oEx R R (sN (oEx R R (sAl R (sAi R zS))))))))))) (LH.seq (LH.seqT [(0,.lst 12 (List.map Gq0.lv p0)),(9,.L r15.1),(10,.I r15.2),(55,.bool (r15.2 != 0))] [] R (sMi R (sN (oNe R R zS))) (LH.cond (t:=(r15.2 != 0)) R (fun hc16=>?_) (fun hc16=>?_))))
  ·replace h:=iteT h hc16
   refine LH.seqT [(2,.nil),(3,.I r15.2)] [] R (sMi R (sAn R (sAi R zS))) (LH.ret (thenR ?_))
   obtain rfl:=oI h
   exact retE (aT Tryz.results34) (lrT R (lrT R (lr0 ⟨memN mN,R,prK R,(Sub.tup (sbL (sbR sbN)))⟩)))
  replace h:=iteF h hc16
  refine LH.skip (thenN (LH.seqT [(0,.lst 12 (List.map Gq0.lv p0)),(9,.L r15.1),(11,.nil)] [] R (sAn R zS) (LH.seq (LH.seqT [(0,.lst 12 (List.map Gq0.lv p0)),(9,.L r15.1),(11,.nil),(12,.I 0)] [] R (sAi R zS) (LH.block (LH.wk ((Wk.trans (Wk.eq (el:=[(0,.lst 12 (List.map Gq0.lv p0)),(9,.L r15.1),(11,.nil),(12,.I 0)]) (ml:=[]) R R R R) (Wk.trans (Wk.eq (el:=[(0,.lst 12 (List.map Gq0.lv p0)),(9,.L r15.1),(11,.nil),(12,.I 0)]) (ml:=[]) R R R R) (Wk.trans (Wk.ownL (el':=[(0,.lst 12 (List.map Gq0.lv p0)),(9,.L r15.1),(11,.arr 172 (List.length ([]:List Gq0))),(12,.I 0)]) 172 63 12 R R (wK (wK (wO (wK wN))))) (Wk.eq (el:=[(0,.lst 12 (List.map Gq0.lv p0)),(9,.L r15.1),(11,.arr 172 (List.length ([]:List Gq0))),(12,.I 0)]) (ml:=[(172,.arr 63 12 (List.map Gq0.lv ([]:List Gq0)))]) R R R R))))) (LH.loop (fun n e m=>∃ (n17:Int) (l18:List Gq0),q28q p0 r15 n n17 l18=some r∧e=Env.of [(0,.lst 12 (List.map Gq0.lv p0)),(9,.L r15.1),(11,.arr 172 (List.length l18)),(12,.I n17)]∧m=Mem.of [(172,.arr 63 12 (List.map Gq0.lv l18))]) F ⟨0,([]:List Gq0),h,R,R⟩ ?_)))))))
  clear h
  rintro n e m ⟨n17,l18,h,rfl,rfl⟩
  rcases n with _ | n
  · cases (show Option.none=some _ from h)
  obtain ⟨rec3,hrec3⟩:∃ f,f=q28q p0 r15 n:=⟨_,rfl⟩
  replace h:q61q p0 r15 rec3 n17 l18=some r:=hrec3 ▸ h
  unfold q61q at h
  refine LH.seq (LH.seqT [(0,.lst 12 (List.map Gq0.lv p0)),(9,.L r15.1),(11,.arr 172 (List.length l18)),(12,.I n17),(60,.bool (decide (n17<(r15.1.length:Int))))] [(172,.arr 63 12 (List.map Gq0.lv l18))] R (sMi R (sMl R (sN (oLnL (f:=LV.I) te22 R (sN (oLt R R zS)))))) (LH.cond (t:=(decide (n17<(r15.1.length:Int)))) R (fun hc19=>?_) (fun hc19=>?_)))
  ·replace h:=iteT h hc19
   refine LH.skip (thenN (LH.wk (Wk.eq (el:=[(0,.lst 12 (List.map Gq0.lv p0)),(9,.L r15.1),(11,.arr 172 (List.length l18)),(12,.I n17)]) (ml:=[(172,.arr 63 12 (List.map Gq0.lv l18))]) R R R R) (LH.seq (LH.block ?_))))
   obtain ⟨x20,hx20,h⟩:=bindS h
   obtain ⟨x21,hx21,h⟩:=bindS h
   obtain ⟨v22,hv22,h⟩:=bindS h
   refine LH.loneT [(0,.lst 12 (List.map Gq0.lv p0)),(9,.L r15.1),(11,.arr 172 (List.length v22)),(12,.I n17)] [(172,.arr 63 12 (List.map Gq0.lv v22))] R (sMa R (sMl R (sMl R (sMi R (sN (oIx (f:=LV.I) te22 tk3 ts3 R R okI hx20 R (sN (oLd R tk3 ta3 (sN (oIx (f:=Gq0.lv) te25 tk63 ts63 R R Gq0.ok hx21 R (sN (oLdA R tk63 ta63 ts63 R R (sN (oBS (f:=Gq0.lv) (ys:=[x21]) te25 tr63 ts63 R R R Gq0.ok (sN (oAp (f:=Gq0.lv) te25 tr63 ts63 R R (prN R) R hv22 (sAa R zS))))))))))))))))) (blockN (thenN (LH.loneT [(0,.lst 12 (List.map Gq0.lv p0)),(9,.L r15.1),(11,.arr 172 (List.length v22)),(12,.I (i64 (n17+1)))] [(172,.arr 63 12 (List.map Gq0.lv v22))] R (sMi R (sN (oAdd R R (sAi R zS)))) ?_)))
   exact roundI ⟨(i64 (n17+1)),v22,hrec3 ▸ h,R,R⟩ (Wk.eq R R R R)
  replace h:=iteF h hc19
  refine LH.exit (thenX (roundX (blockH (thenN (LH.wk ((Wk.trans (Wk.eq (el:=[(11,.arr 172 (List.length l18))]) (ml:=[(172,.arr 63 12 (List.map Gq0.lv l18))]) R R R R) (Wk.trans (Wk.frzL (f:=Gq0.lv) (el':=[(11,.lst 12 (List.map Gq0.lv l18))]) 172 63 12 l18 R R (prN R) (fZ fN)) (Wk.eq (el:=[(11,.lst 12 (List.map Gq0.lv l18))]) (ml:=[]) R R R R)))) (LH.seqT [(2,.lst 12 (List.map Gq0.lv l18)),(3,.I 0)] [] R (sMl R (sAl R (sAi R zS))) (LH.ret ?_)))))))
  obtain rfl:=oI h
  exact retE (aT Tryz.results34) (lrT R (lrT R (lr0 ⟨memN mN,R,prK R,(Sub.tup (sbR (sbR sbN)))⟩)))

theorem q213q {p0:GPart} {r:Bool} (h:q123q p0=some r):LCall Tryz.prog 84 [GPart.lv p0] (Mem.of []) (.bool r) (Mem.of []):=by
  unfold q123q at h
  refine bodyT Tryz.func84 R (nT Tryz.ntmps84 R) (LH.wk (Wk.eq (el:=[(0,GPart.lv p0)]) (ml:=[]) R R R R) (LH.seqT [(1,.sptr (GPart.lv p0).cells)] [] R (sB (oBxR R R R R (sAb R zS))) (LH.seq (LH.seqT [(1,.sptr (GPart.lv p0).cells),(30,.bool ((decide (p0.Max<1)) || ((decide (p0.Max > 40)) || ((decide (p0.Topic<0)) || ((decide (p0.Topic ≥ 16)) || ((decide (p0.Objective<0)) || (decide (p0.Objective ≥ 6))))))))] [] R ?_ ?_))))
  ·refine sN (oFaS tf86_1 tk3 ts3 R R R (sN (oLd R tk3 ta3 (sN (oLt R R (sMb R ?_))))))
   by_cases hb2:(decide (p0.Max<1))=true
   ·exact sF R R hb2 (sF R R hb2 (sF R R hb2 (sN (oPkT (cB hb2) (v:=(.bool _)) R (sMb R (sF R R R (sF R R R (sF R R R (sN (oPkT R (v:=(.bool _)) R (sMb R (sF R R R (sF R R R (sF R R R (sN (oPkT R (v:=(.bool _)) R (sMb R (sF R R R (sF R R R (sF R R R (sN (oPkT R (v:=(.bool _)) R (sMb R (sF R R R (sF R R R (sF R R R (sN (oPkT R (v:=(.bool _)) R (s0 (Wk.to (eC R (eC (cB (orT hb2)) eN)) mN R (prK R)))))))))))))))))))))))))))))))
   ·replace hb2:=bF hb2
    refine sT R (cB hb2) (oFaS tf86_1 tk3 ts3 R R R (sT R (cB hb2) (oLd R tk3 ta3 (sT R (cB hb2) (oGt R R (sN (oPkF (cB hb2) (v:=(.bool _)) R (sMb R ?_))))))))
    by_cases hb3:(decide (p0.Max > 40))=true
    ·exact sF R R hb3 (sF R R hb3 (sF R R hb3 (sN (oPkT (cB hb3) (v:=(.bool _)) R (sMb R (sF R R R (sF R R R (sF R R R (sN (oPkT R (v:=(.bool _)) R (sMb R (sF R R R (sF R R R (sF R R R (sN (oPkT R (v:=(.bool _)) R (sMb R (sF R R R (sF R R R (sF R R R (sN (oPkT R (v:=(.bool _)) R (s0 (Wk.to (eC R (eC (cB (Eq.trans (orT hb3) (orF hb2))) eN)) mN R (prK R)))))))))))))))))))))))))
    ·replace hb3:=bF hb3
     refine sT R (cB hb3) (oFaS tf86_2 tk3 ts3 R R R (sT R (cB hb3) (oLd R tk3 ta3 (sT R (cB hb3) (oLt R R (sN (oPkF (cB hb3) (v:=(.bool _)) R (sMb R ?_))))))))
     by_cases hb4:(decide (p0.Topic<0))=true
     ·exact sF R R hb4 (sF R R hb4 (sF R R hb4 (sN (oPkT (cB hb4) (v:=(.bool _)) R (sMb R (sF R R R (sF R R R (sF R R R (sN (oPkT R (v:=(.bool _)) R (sMb R (sF R R R (sF R R R (sF R R R (sN (oPkT R (v:=(.bool _)) R (s0 (Wk.to (eC R (eC (cB (Eq.trans (Eq.trans (orT hb4) (orF hb3)) (orF hb2))) eN)) mN R (prK R)))))))))))))))))))
     ·replace hb4:=bF hb4
      refine sT R (cB hb4) (oFaS tf86_2 tk3 ts3 R R R (sT R (cB hb4) (oLd R tk3 ta3 (sT R (cB hb4) (oGe R R (sN (oPkF (cB hb4) (v:=(.bool _)) R (sMb R ?_))))))))
      by_cases hb5:(decide (p0.Topic ≥ 16))=true
      ·exact sF R R hb5 (sF R R hb5 (sF R R hb5 (sN (oPkT (cB hb5) (v:=(.bool _)) R (sMb R (sF R R R (sF R R R (sF R R R (sN (oPkT R (v:=(.bool _)) R (s0 (Wk.to (eC R (eC (cB (Eq.trans (Eq.trans (Eq.trans (orT hb5) (orF hb4)) (orF hb3)) (orF hb2))) eN)) mN R (prK R)))))))))))))
      ·replace hb5:=bF hb5
       refine sT R (cB hb5) (oFaS tf86_3 tk3 ts3 R R R (sT R (cB hb5) (oLd R tk3 ta3 (sT R (cB hb5) (oLt R R (sN (oPkF (cB hb5) (v:=(.bool _)) R (sMb R ?_))))))))
       by_cases hb6:(decide (p0.Objective<0))=true
       ·exact sF R R hb6 (sF R R hb6 (sF R R hb6 (sN (oPkT (cB hb6) (v:=(.bool _)) R (s0 (Wk.to (eC R (eC (cB (Eq.trans (Eq.trans (Eq.trans (Eq.trans (orT hb6) (orF hb5)) (orF hb4)) (orF hb3)) (orF hb2))) eN)) mN R (prK R)))))))
       ·replace hb6:=bF hb6
        exact sT R (cB hb6) (oFaS tf86_3 tk3 ts3 R R R (sT R (cB hb6) (oLd R tk3 ta3 (sT R (cB hb6) (oGe R R (sN (oPkF (cB hb6) (v:=(.bool _)) R (s0 (Wk.to (eC R (eC (cB (Eq.trans (Eq.trans (Eq.trans (Eq.trans (orF hb6) (orF hb5)) (orF hb4)) (orF hb3)) (orF hb2))) eN)) mN R (prK R))))))))))
  refine LH.cond (t:=((decide (p0.Max<1)) || ((decide (p0.Max > 40)) || ((decide (p0.Topic<0)) || ((decide (p0.Topic ≥ 16)) || ((decide (p0.Objective<0)) || (decide (p0.Objective ≥ 6)))))))) R (fun hc7=>?_) (fun hc7=>?_)
  ·replace h:=iteT h hc7
   refine LH.seqT [(2,.bool false)] [] R (sAb R zS) (LH.ret (thenR ?_))
   obtain rfl:=oI h
   exact retE (aT Tryz.results84) (lrT R (lr0 ⟨memN mN,R,prK R,Sub.rfl⟩))
  replace h:=iteF h hc7
  refine LH.skip (thenN (LH.wk (Wk.eq (el:=[(1,.sptr (GPart.lv p0).cells)]) (ml:=[]) R R R R) (LH.seq (LH.seqT [(1,.sptr (GPart.lv p0).cells),(33,.bool (p0.Kind == 1))] [] R (sN (oFaS tf86_0 tk3 ts3 R R R (sN (oLd R tk3 ta3 (sN (oEq R R zS)))))) (LH.cond (t:=(p0.Kind == 1)) R (fun hc8=>?_) (fun hc8=>?_))))))
  ·replace h:=iteT h hc8
   refine LH.seqT [(2,.bool ((p0.Options == 0) && (p0.Key == 0)))] [] R ?_ ?_
   ·refine sN (oFaS tf86_4 tk3 ts3 R R R (sN (oLd R tk3 ta3 (sN (oEq R R (sMb R ?_))))))
    by_cases hb10:(p0.Options == 0)=true
    ·exact sT R (cB hb10) (oFaS tf86_5 tk3 ts3 R R R (sT R (cB hb10) (oLd R tk3 ta3 (sT R (cB hb10) (oEq R R (sN (oPkT (cB hb10) (v:=(.bool _)) R (sAb R (s0 (Wk.to (eC (cB (andT hb10)) eN) mN R (prK R)))))))))))
    ·replace hb10:=bF hb10
     exact sF R R hb10 (sF R R hb10 (sF R R hb10 (sN (oPkF (cB hb10) (v:=(.bool _)) R (sAb R (s0 (Wk.to (eC (cB (andF hb10)) eN) mN R (prK R))))))))
   refine LH.ret (thenR ?_)
   obtain rfl:=oI h
   exact retE (aT Tryz.results84) (lrT R (lr0 ⟨memN mN,R,prK R,Sub.rfl⟩))
  replace h:=iteF h hc8
  refine LH.skip (thenN (LH.seqT [(2,.bool ((p0.Kind == 2) && ((decide (p0.Options ≥ 2)) && ((decide (p0.Options≤5)) && ((decide (p0.Key ≥ 0)) && (decide (p0.Key<p0.Options)))))))] [] R ?_ ?_))
  ·refine sN (oFaS tf86_0 tk3 ts3 R R R (sN (oLd R tk3 ta3 (sN (oEq R R (sMb R ?_))))))
   by_cases hb12:(p0.Kind == 2)=true
   ·refine sT R (cB hb12) (oFaS tf86_4 tk3 ts3 R R R (sT R (cB hb12) (oLd R tk3 ta3 (sT R (cB hb12) (oGe R R (sN (oPkT (cB hb12) (v:=(.bool _)) R (sMb R ?_))))))))
    by_cases hb13:(decide (p0.Options ≥ 2))=true
    ·refine sT R (cB hb13) (oFaS tf86_4 tk3 ts3 R R R (sT R (cB hb13) (oLd R tk3 ta3 (sT R (cB hb13) (oLe R R (sN (oPkT (cB hb13) (v:=(.bool _)) R (sMb R ?_))))))))
     by_cases hb14:(decide (p0.Options≤5))=true
     ·refine sT R (cB hb14) (oFaS tf86_5 tk3 ts3 R R R (sT R (cB hb14) (oLd R tk3 ta3 (sT R (cB hb14) (oGe R R (sN (oPkT (cB hb14) (v:=(.bool _)) R (sMb R ?_))))))))
      by_cases hb15:(decide (p0.Key ≥ 0))=true
      ·exact sT R (cB hb15) (oFaS tf86_5 tk3 ts3 R R R (sT R (cB hb15) (oLd R tk3 ta3 (sT R (cB hb15) (oFaS tf86_4 tk3 ts3 R R R (sT R (cB hb15) (oLd R tk3 ta3 (sT R (cB hb15) (oLt R R (sN (oPkT (cB hb15) (v:=(.bool _)) R (sAb R (s0 (Wk.to (eC (cB (Eq.trans (Eq.trans (Eq.trans (andT hb15) (andT hb14)) (andT hb13)) (andT hb12))) eN) mN R (prK R)))))))))))))))
      ·replace hb15:=bF hb15
       exact sF R R hb15 (sF R R hb15 (sF R R hb15 (sF R R hb15 (sF R R hb15 (sN (oPkF (cB hb15) (v:=(.bool _)) R (sAb R (s0 (Wk.to (eC (cB (Eq.trans (Eq.trans (Eq.trans (andF hb15) (andT hb14)) (andT hb13)) (andT hb12))) eN) mN R (prK R))))))))))
     ·replace hb14:=bF hb14
      exact sF R R hb14 (sF R R hb14 (sF R R hb14 (sN (oPkF (cB hb14) (v:=(.bool _)) R (sMb R (sF R R R (sF R R R (sF R R R (sF R R R (sF R R R (sN (oPkF R (v:=(.bool _)) R (sAb R (s0 (Wk.to (eC (cB (Eq.trans (Eq.trans (andF hb14) (andT hb13)) (andT hb12))) eN) mN R (prK R))))))))))))))))
    ·replace hb13:=bF hb13
     exact sF R R hb13 (sF R R hb13 (sF R R hb13 (sN (oPkF (cB hb13) (v:=(.bool _)) R (sMb R (sF R R R (sF R R R (sF R R R (sN (oPkF R (v:=(.bool _)) R (sMb R (sF R R R (sF R R R (sF R R R (sF R R R (sF R R R (sN (oPkF R (v:=(.bool _)) R (sAb R (s0 (Wk.to (eC (cB (Eq.trans (andF hb13) (andT hb12))) eN) mN R (prK R))))))))))))))))))))))
   ·replace hb12:=bF hb12
    exact sF R R hb12 (sF R R hb12 (sF R R hb12 (sN (oPkF (cB hb12) (v:=(.bool _)) R (sMb R (sF R R R (sF R R R (sF R R R (sN (oPkF R (v:=(.bool _)) R (sMb R (sF R R R (sF R R R (sF R R R (sN (oPkF R (v:=(.bool _)) R (sMb R (sF R R R (sF R R R (sF R R R (sF R R R (sF R R R (sN (oPkF R (v:=(.bool _)) R (sAb R (s0 (Wk.to (eC (cB (andF hb12)) eN) mN R (prK R))))))))))))))))))))))))))))
  refine LH.ret ?_
  obtain rfl:=oI h
  exact retE (aT Tryz.results84) (lrT R (lr0 ⟨memN mN,R,prK R,Sub.rfl⟩))

set_option maxHeartbeats 4000000 in
theorem q183q {F:Nat} {p0:GItem} {r:Int} (h:q128q F p0=some r):LCall Tryz.prog 66 [GItem.lv p0] (Mem.of []) (.I r) (Mem.of []):=by
  unfold q128q at h
  refine bodyT Tryz.func66 R (nT Tryz.ntmps66 R) (LH.wk (Wk.eq (el:=[(0,GItem.lv p0)]) (ml:=[]) R R R R) (LH.seqT [(1,.sptr (GItem.lv p0).cells)] [] R (sB (oBxR R R R R (sAi R zS))) (LH.seq (LH.seqT [(1,.sptr (GItem.lv p0).cells),(23,.bool ((decide (p0.ID<0)) || ((decide (p0.ID > 9999)) || ((decide (p0.Version<1)) || (decide (p0.Version > 8))))))] [] R ?_ ?_))))
  ·refine sN (oFaS tf54_0 tk3 ts3 R R R (sN (oLd R tk3 ta3 (sN (oLt R R (sMb R ?_))))))
   by_cases hb2:(decide (p0.ID<0))=true
   ·exact sF R R hb2 (sF R R hb2 (sF R R hb2 (sN (oPkT (cB hb2) (v:=(.bool _)) R (sMb R (sF R R R (sF R R R (sF R R R (sN (oPkT R (v:=(.bool _)) R (sMb R (sF R R R (sF R R R (sF R R R (sN (oPkT R (v:=(.bool _)) R (s0 (Wk.to (eC R (eC (cB (orT hb2)) eN)) mN R (prK R)))))))))))))))))))
   ·replace hb2:=bF hb2
    refine sT R (cB hb2) (oFaS tf54_0 tk3 ts3 R R R (sT R (cB hb2) (oLd R tk3 ta3 (sT R (cB hb2) (oGt R R (sN (oPkF (cB hb2) (v:=(.bool _)) R (sMb R ?_))))))))
    by_cases hb3:(decide (p0.ID > 9999))=true
    ·exact sF R R hb3 (sF R R hb3 (sF R R hb3 (sN (oPkT (cB hb3) (v:=(.bool _)) R (sMb R (sF R R R (sF R R R (sF R R R (sN (oPkT R (v:=(.bool _)) R (s0 (Wk.to (eC R (eC (cB (Eq.trans (orT hb3) (orF hb2))) eN)) mN R (prK R)))))))))))))
    ·replace hb3:=bF hb3
     refine sT R (cB hb3) (oFaS tf54_1 tk3 ts3 R R R (sT R (cB hb3) (oLd R tk3 ta3 (sT R (cB hb3) (oLt R R (sN (oPkF (cB hb3) (v:=(.bool _)) R (sMb R ?_))))))))
     by_cases hb4:(decide (p0.Version<1))=true
     ·exact sF R R hb4 (sF R R hb4 (sF R R hb4 (sN (oPkT (cB hb4) (v:=(.bool _)) R (s0 (Wk.to (eC R (eC (cB (Eq.trans (Eq.trans (orT hb4) (orF hb3)) (orF hb2))) eN)) mN R (prK R)))))))
     ·replace hb4:=bF hb4
      exact sT R (cB hb4) (oFaS tf54_1 tk3 ts3 R R R (sT R (cB hb4) (oLd R tk3 ta3 (sT R (cB hb4) (oGt R R (sN (oPkF (cB hb4) (v:=(.bool _)) R (s0 (Wk.to (eC R (eC (cB (Eq.trans (Eq.trans (orF hb4) (orF hb3)) (orF hb2))) eN)) mN R (prK R))))))))))
  refine LH.cond (t:=((decide (p0.ID<0)) || ((decide (p0.ID > 9999)) || ((decide (p0.Version<1)) || (decide (p0.Version > 8)))))) R (fun hc5=>?_) (fun hc5=>?_)
  ·replace h:=iteT h hc5
   refine LH.seqT [(2,.I 2)] [] R (sAi R zS) (LH.ret (thenR ?_))
   obtain rfl:=oI h
   exact retE (aT Tryz.results66) (lrT R (lr0 ⟨memN mN,R,prK R,Sub.rfl⟩))
  replace h:=iteF h hc5
  refine LH.skip (thenN (LH.wk (Wk.eq (el:=[(1,.sptr (GItem.lv p0).cells)]) (ml:=[]) R R R R) (LH.seq (LH.seqT [(1,.sptr (GItem.lv p0).cells),(39,.bool ((decide ((p0.Stem.size:Int) > 40)) || ((decide ((p0.Parts.length:Int) > 6)) || (decide ((p0.Enemies.length:Int) > 8)))))] [] R ?_ ?_))))
  ·refine sN (oFaS tf54_2 tk9 ts9 R R R (sN (oLd R tk9 ta9 (sX ((ok_sLen tS9 R).ok) (sN (oGt R R (sMb R ?_)))))))
   by_cases hb7:(decide ((p0.Stem.size:Int) > 40))=true
   ·exact sF R R hb7 (sF R R hb7 (sF R R hb7 (sF R R hb7 (sN (oPkT (cB hb7) (v:=(.bool _)) R (sMb R (sF R R R (sF R R R (sF R R R (sF R R R (sN (oPkT R (v:=(.bool _)) R (s0 (Wk.to (eC R (eC (cB (orT hb7)) eN)) mN R (prK R)))))))))))))))
   ·replace hb7:=bF hb7
    refine sT R (cB hb7) (oFaS tf54_3 tk52 ts52 R R R (sT R (cB hb7) (oLd R tk52 ta52 (sT R (cB hb7) (oLnL (f:=GPart.lv) te52 R (sT R (cB hb7) (oGt R R (sN (oPkF (cB hb7) (v:=(.bool _)) R (sMb R ?_))))))))))
    by_cases hb8:(decide ((p0.Parts.length:Int) > 6))=true
    ·exact sF R R hb8 (sF R R hb8 (sF R R hb8 (sF R R hb8 (sN (oPkT (cB hb8) (v:=(.bool _)) R (s0 (Wk.to (eC R (eC (cB (Eq.trans (orT hb8) (orF hb7))) eN)) mN R (prK R))))))))
    ·replace hb8:=bF hb8
     exact sT R (cB hb8) (oFaS tf54_4 tk22 ts22 R R R (sT R (cB hb8) (oLd R tk22 ta22 (sT R (cB hb8) (oLnL (f:=LV.I) te22 R (sT R (cB hb8) (oGt R R (sN (oPkF (cB hb8) (v:=(.bool _)) R (s0 (Wk.to (eC R (eC (cB (Eq.trans (orF hb8) (orF hb7))) eN)) mN R (prK R))))))))))))
  refine LH.cond (t:=((decide ((p0.Stem.size:Int) > 40)) || ((decide ((p0.Parts.length:Int) > 6)) || (decide ((p0.Enemies.length:Int) > 8))))) R (fun hc9=>?_) (fun hc9=>?_)
  ·replace h:=iteT h hc9
   refine LH.seqT [(2,.I 3)] [] R (sAi R zS) (LH.ret (thenR ?_))
   obtain rfl:=oI h
   exact retE (aT Tryz.results66) (lrT R (lr0 ⟨memN mN,R,prK R,Sub.rfl⟩))
  replace h:=iteF h hc9
  refine LH.skip (thenN (LH.wk (Wk.eq (el:=[(1,.sptr (GItem.lv p0).cells)]) (ml:=[]) R R R R) (LH.seq (LH.seqT [(1,.sptr (GItem.lv p0).cells),(42,.bool (decide (p0.Stem=(ByteArray.mk #[]))))] [] R (sN (oFaS tf54_2 tk9 ts9 R R R (sN (oLd R tk9 ta9 (sX ((ok_sEq R R).ok) zS))))) (LH.cond (t:=(decide (p0.Stem=(ByteArray.mk #[])))) R (fun hc10=>?_) (fun hc10=>?_))))))
  ·replace h:=iteT h hc10
   refine LH.seqT [(2,.I 7)] [] R (sAi R zS) (LH.ret (thenR ?_))
   obtain rfl:=oI h
   exact retE (aT Tryz.results66) (lrT R (lr0 ⟨memN mN,R,prK R,Sub.rfl⟩))
  replace h:=iteF h hc10
  refine LH.skip (thenN (LH.wk (Wk.eq (el:=[(1,.sptr (GItem.lv p0).cells)]) (ml:=[]) R R R R) (LH.seq (LH.seqT [(1,.sptr (GItem.lv p0).cells),(3,.I 0)] [] R (sAi R zS) (LH.block (LH.loop (fun n e m=>∃ (n11:Int),q76q F p0 n n11=some r∧e=Env.of [(1,.sptr (GItem.lv p0).cells),(3,.I n11)]∧m=Mem.of []) F ⟨0,h,R,R⟩ ?_))))))
  clear h
  rintro n e m ⟨n11,h,rfl,rfl⟩
  rcases n with _ | n
  · cases (show Option.none=some _ from h)
  obtain ⟨rec1,hrec1⟩:∃ f,f=q76q F p0 n:=⟨_,rfl⟩
  replace h:q98q F p0 rec1 n11=some r:=hrec1 ▸ h
  unfold q98q at h
  refine LH.seq (LH.seqT [(1,.sptr (GItem.lv p0).cells),(3,.I n11),(47,.bool (decide (n11<(p0.Stem.size:Int))))] [] R (sMi R (sN (oFaS tf54_2 tk9 ts9 R R R (sN (oLd R tk9 ta9 (sX ((ok_sLen tS9 R).ok) (sN (oLt R R zS)))))))) (LH.cond (t:=(decide (n11<(p0.Stem.size:Int)))) R (fun hc12=>?_) (fun hc12=>?_)))
  ·replace h:=iteT h hc12
   refine LH.skip (thenN (LH.wk (Wk.eq (el:=[(1,.sptr (GItem.lv p0).cells),(3,.I n11)]) (ml:=[]) R R R R) (LH.seq (LH.block ?_))))
   obtain ⟨w14,hv,h⟩:=bindS h
   refine LH.seqT [(1,.sptr (GItem.lv p0).cells),(3,.I n11),(61,.bool w14)] [] R ?_ ?_
   ·refine sN (oFaS tf54_2 tk9 ts9 R R R (sN (oLd R tk9 ta9 (sMi R ?_))))
    obtain ⟨x15,hx15,hv⟩:=bindS hv
    refine sX ((ok_sIx tS9 R R hx15).ok) (sN (oLt R R (sMb R ?_)))
    by_cases hb16:(decide (x15<32))=true
    ·replace hv:=iteT hv hb16
     refine sF R R hb16 (sF R R hb16 (sF R R hb16 (sF R R hb16 (sF R R hb16 (sN (oPkT (cB hb16) (v:=(.bool _)) R ?_))))))
     obtain rfl:=oI hv
     exact zS
    ·replace hb16:=bF hb16
     replace hv:=iteF hv hb16
     refine sT R (cB hb16) (oFaS tf54_2 tk9 ts9 R R R (sT R (cB hb16) (oLd R tk9 ta9 (sT R (cB hb16) (oM (v:=(.int _ _)) R ?_)))))
     obtain ⟨x17,hx17,hv⟩:=bindS hv
     refine sXT R (cB hb16) ((ok_sIx tS9 R R hx17).ok) (sT R (cB hb16) (oGt R R (sN (oPkF (cB hb16) (v:=(.bool _)) R ?_))))
     obtain rfl:=oI hv
     exact zS
   clear hv
   refine LH.cond (t:=w14) R (fun hc18=>?_) (fun hc18=>?_)
   ·replace h:=iteT h hc18
    refine LH.seqT [(2,.I 7)] [] R (sAi R zS) (LH.ret (blockR (thenR (roundR (blockR (thenR ?_))))))
    obtain rfl:=oI h
    exact retE (aT Tryz.results66) (lrT R (lr0 ⟨memN mN,R,prK R,Sub.rfl⟩))
   replace h:=iteF h hc18
   refine LH.skip (blockN (thenN (LH.loneT [(1,.sptr (GItem.lv p0).cells),(3,.I (i64 (n11+1)))] [] R (sMi R (sN (oAdd R R (sAi R zS)))) ?_)))
   exact roundI ⟨(i64 (n11+1)),hrec1 ▸ h,R,R⟩ (Wk.eq R R R R)
  replace h:=iteF h hc12
  refine LH.exit (thenX (roundX (blockH (thenN (LH.wk (Wk.eq (el:=[(1,.sptr (GItem.lv p0).cells)]) (ml:=[]) R R R R) (LH.seq (LH.seqT [(1,.sptr (GItem.lv p0).cells),(65,.bool ((p0.Parts.length:Int) == 0))] [] R (sN (oFaS tf54_3 tk52 ts52 R R R (sN (oLd R tk52 ta52 (sN (oLnL (f:=GPart.lv) te52 R (sN (oEq R R zS)))))))) (LH.cond (t:=((p0.Parts.length:Int) == 0)) R (fun hc19=>?_) (fun hc19=>?_)))))))))
  ·replace h:=iteT h hc19
   refine LH.seqT [(2,.I 10)] [] R (sAi R zS) (LH.ret (thenR ?_))
   obtain rfl:=oI h
   exact retE (aT Tryz.results66) (lrT R (lr0 ⟨memN mN,R,prK R,Sub.rfl⟩))
  replace h:=iteF h hc19
  refine LH.skip (thenN (LH.wk (Wk.eq (el:=[(1,.sptr (GItem.lv p0).cells)]) (ml:=[]) R R R R) (LH.seq (LH.seqT [(1,.sptr (GItem.lv p0).cells),(4,.I 0)] [] R (sAi R zS) (LH.block (LH.loop (fun n e m=>∃ (n20:Int),q50q F p0 n n20=some r∧e=Env.of [(1,.sptr (GItem.lv p0).cells),(4,.I n20)]∧m=Mem.of []) F ⟨0,h,R,R⟩ ?_))))))
  clear h
  rintro n e m ⟨n20,h,rfl,rfl⟩
  rcases n with _ | n
  · cases (show Option.none=some _ from h)
  obtain ⟨rec2,hrec2⟩:∃ f,f=q50q F p0 n:=⟨_,rfl⟩
  replace h:q99q F p0 rec2 n20=some r:=hrec2 ▸ h
  unfold q99q at h
  refine LH.seq (LH.seqT [(1,.sptr (GItem.lv p0).cells),(4,.I n20),(70,.bool (decide (n20<(p0.Parts.length:Int))))] [] R (sMi R (sN (oFaS tf54_3 tk52 ts52 R R R (sN (oLd R tk52 ta52 (sN (oLnL (f:=GPart.lv) te52 R (sN (oLt R R zS))))))))) (LH.cond (t:=(decide (n20<(p0.Parts.length:Int)))) R (fun hc21=>?_) (fun hc21=>?_)))
  ·replace h:=iteT h hc21
   refine LH.skip (thenN (LH.wk (Wk.eq (el:=[(1,.sptr (GItem.lv p0).cells),(4,.I n20)]) (ml:=[]) R R R R) (LH.seq (LH.block ?_))))
   obtain ⟨x22,hx22,h⟩:=bindS h
   obtain ⟨r23,hr23,h⟩:=bindS h
   refine LH.seqT [(1,.sptr (GItem.lv p0).cells),(4,.I n20),(79,.bool (!r23))] [] R (sN (oFaS tf54_3 tk52 ts52 R R R (sN (oLd R tk52 ta52 (sMi R (sN (oIx (f:=GPart.lv) te52 tk86 ts86 R R GPart.ok hx22 R (sN (oLdA R tk86 ta86 ts86 R R (sN (oCP (args:=[GPart.lv x22]) R isF84 R (sbR sbN) (q213q hr23) R (sN (oNot R zS))))))))))))) (LH.cond (t:=(!r23)) R (fun hc24=>?_) (fun hc24=>?_))
   ·replace h:=iteT h hc24
    refine LH.seqT [(2,.I 1)] [] R (sAi R zS) (LH.ret (blockR (thenR (roundR (blockR (thenR ?_))))))
    obtain rfl:=oI h
    exact retE (aT Tryz.results66) (lrT R (lr0 ⟨memN mN,R,prK R,Sub.rfl⟩))
   replace h:=iteF h hc24
   refine LH.skip (blockN (thenN (LH.loneT [(1,.sptr (GItem.lv p0).cells),(4,.I (i64 (n20+1)))] [] R (sMi R (sN (oAdd R R (sAi R zS)))) ?_)))
   exact roundI ⟨(i64 (n20+1)),hrec2 ▸ h,R,R⟩ (Wk.eq R R R R)
  replace h:=iteF h hc21
  refine LH.exit (thenX (roundX (blockH (thenN (LH.wk (Wk.eq (el:=[(1,.sptr (GItem.lv p0).cells)]) (ml:=[]) R R R R) (LH.seq (LH.seqT [(1,.sptr (GItem.lv p0).cells),(5,.I 0)] [] R (sAi R zS) (LH.block (LH.loop (fun n e m=>∃ (n25:Int),q51q p0 n n25=some r∧e=Env.of [(1,.sptr (GItem.lv p0).cells),(5,.I n25)]∧m=Mem.of []) F ⟨0,h,R,R⟩ ?_)))))))))
  clear h
  rintro n e m ⟨n25,h,rfl,rfl⟩
  rcases n with _ | n
  · cases (show Option.none=some _ from h)
  obtain ⟨rec3,hrec3⟩:∃ f,f=q51q p0 n:=⟨_,rfl⟩
  replace h:q100q p0 rec3 n25=some r:=hrec3 ▸ h
  unfold q100q at h
  refine LH.seq (LH.seqT [(1,.sptr (GItem.lv p0).cells),(5,.I n25),(84,.bool (decide (n25<(p0.Enemies.length:Int))))] [] R (sMi R (sN (oFaS tf54_4 tk22 ts22 R R R (sN (oLd R tk22 ta22 (sN (oLnL (f:=LV.I) te22 R (sN (oLt R R zS))))))))) (LH.cond (t:=(decide (n25<(p0.Enemies.length:Int)))) R (fun hc26=>?_) (fun hc26=>?_)))
  ·replace h:=iteT h hc26
   refine LH.skip (thenN (LH.wk (Wk.eq (el:=[(1,.sptr (GItem.lv p0).cells),(5,.I n25)]) (ml:=[]) R R R R) (LH.seq (LH.block ?_))))
   obtain ⟨w28,hv,h⟩:=bindS h
   refine LH.seqJM mixed [] [0,0,0,0,0,0,0,0,0,0,0,0,0,0,0,0,0,0,0,0,0,0,0,0,0,0,0,0,0,0,0,0,0,0,0,0,0,0,0,0,0,0] [(1,.sptr (GItem.lv p0).cells),(5,.I n25),(128,.bool w28)] [] R R (by kernel_rfl) ?_ ?_
   ·refine mN0 (oFaS tf54_4 tk22 ts22 R R R ⟨R,mN0 (oLd R tk22 ta22 ⟨R,mMi R ?_⟩)⟩)
    obtain ⟨x29,hx29,hv⟩:=bindS hv
    refine mN0 (oIx (f:=LV.I) te22 tk3 ts3 R R okI hx29 R ⟨R,mN0 (oLd R tk3 ta3 ⟨R,mN0 (oLt R R ⟨R,mMb R ?_⟩)⟩)⟩)
    by_cases hb30:(decide (x29<0))=true
    ·replace hv:=iteT hv hb30
     refine mF R R hb30 (mF R R hb30 (mF R R hb30 (mF R R hb30 (mF R R hb30 (mF R R hb30 (mN0 (oPkT (cB hb30) (v:=(.bool _)) R ⟨R,mMb R (mF R R R (mF R R R (mF R R R (mF R R R (mF R R R (mF R R R (mF R R R (mF R R R (mN0 (oPkT R (v:=(.bool _)) R ⟨R,mMb R (mF R R R (mF R R R (mF R R R (mU R R (mU R R (mU R R (mU R R (mU R R (mU R R (mU R R (mU R R (mU R R (mU R R (mU R R (mU R R (mF R R R (mN0 (oPkT R (v:=(.bool _)) R ⟨R,?_⟩))))))))))))))))))⟩))))))))))⟩)))))))
     obtain rfl:=oI hv
     exact zM
    ·replace hb30:=bF hb30
     replace hv:=iteF hv hb30
     refine mT R (cB hb30) (mN0 (oFaS tf54_4 tk22 ts22 R R R ⟨R,mT R (cB hb30) (mN0 (oLd R tk22 ta22 ⟨R,mT R (cB hb30) (mMi R ?_)⟩))⟩))
     obtain ⟨x31,hx31,hv⟩:=bindS hv
     refine mT R (cB hb30) (mN0 (oIx (f:=LV.I) te22 tk3 ts3 R R okI hx31 R ⟨R,mT R (cB hb30) (mN0 (oLd R tk3 ta3 ⟨R,mT R (cB hb30) (mN0 (oGt R R ⟨R,mN0 (oPkF (cB hb30) (v:=(.bool _)) R ⟨R,mMb R ?_⟩)⟩))⟩))⟩))
     by_cases hb32:(decide (x31 > 9999))=true
     ·replace hv:=iteT hv hb32
      refine mF R R hb32 (mF R R hb32 (mF R R hb32 (mF R R hb32 (mF R R hb32 (mF R R hb32 (mF R R hb32 (mF R R hb32 (mN0 (oPkT (cB hb32) (v:=(.bool _)) R ⟨R,mMb R (mF R R R (mF R R R (mF R R R (mU R R (mU R R (mU R R (mU R R (mU R R (mU R R (mU R R (mU R R (mU R R (mU R R (mU R R (mU R R (mF R R R (mN0 (oPkT R (v:=(.bool _)) R ⟨R,?_⟩))))))))))))))))))⟩)))))))))
      obtain rfl:=oI hv
      exact zM
     ·replace hb32:=bF hb32
      replace hv:=iteF hv hb32
      refine mT R (cB hb32) (mN0 (oFaS tf54_4 tk22 ts22 R R R ⟨R,mT R (cB hb32) (mN0 (oLd R tk22 ta22 ⟨R,mT R (cB hb32) (mMi R ?_)⟩))⟩))
      obtain ⟨x33,hx33,hv⟩:=bindS hv
      refine mT R (cB hb32) (mN0 (oIx (f:=LV.I) te22 tk3 ts3 R R okI hx33 R ⟨R,mT R (cB hb32) (mN0 (oLd R tk3 ta3 ⟨R,mT R (cB hb32) (mN0 (oFaS tf54_0 tk3 ts3 R R R ⟨R,mT R (cB hb32) (mN0 (oLd R tk3 ta3 ⟨R,mT R (cB hb32) (mN0 (oEq R R ⟨R,mN0 (oPkF (cB hb32) (v:=(.bool _)) R ⟨R,mMb R ?_⟩)⟩))⟩))⟩))⟩))⟩))
      by_cases hb34:(x33 == p0.ID)=true
      ·replace hv:=iteT hv hb34
       refine mF R R hb34 (mF R R hb34 (mF R R hb34 (mU R R (mU R R (mU R R (mU R R (mU R R (mU R R (mU R R (mU R R (mU R R (mU R R (mU R R (mU R R (mF R R hb34 (mN0 (oPkT (cB hb34) (v:=(.bool _)) R ⟨R,?_⟩)))))))))))))))))
       obtain rfl:=oI hv
       exact zM
      ·replace hb34:=bF hb34
       replace hv:=iteF hv hb34
       refine mT R (cB hb34) (mMi R (mT R (cB hb34) (mN0 (oGt R R ⟨R,mT R (cB hb34) (mMb R ?_)⟩))))
       by_cases hb35:(decide (n25 > 0))=true
       ·replace hv:=iteT hv hb35
        refine mT R (cB hb35) (mN0 (oFaS tf54_4 tk22 ts22 R R R ⟨R,mT R (cB hb35) (mN0 (oLd R tk22 ta22 ⟨R,mT R (cB hb35) (mMi R (mT R (cB hb35) (mN0 (oSub R R ⟨R,?_⟩))))⟩))⟩))
        obtain ⟨x36,hx36,hv⟩:=bindS hv
        refine mT R (cB hb35) (mN0 (oIx (f:=LV.I) te22 tk3 ts3 R R okI hx36 R ⟨R,mT R (cB hb35) (mN0 (oLd R tk3 ta3 ⟨R,mT R (cB hb35) (mN0 (oFaS tf54_4 tk22 ts22 R R R ⟨R,mT R (cB hb35) (mN0 (oLd R tk22 ta22 ⟨R,mT R (cB hb35) (mMi R ?_)⟩))⟩))⟩))⟩))
        obtain ⟨x37,hx37,hv⟩:=bindS hv
        refine mT R (cB hb35) (mN0 (oIx (f:=LV.I) te22 tk3 ts3 R R okI hx37 R ⟨R,mT R (cB hb35) (mN0 (oLd R tk3 ta3 ⟨R,mT R (cB hb35) (mN0 (oGe R R ⟨R,mT R (cB hb34) (mN0 (oPkT (cB hb35) (v:=(.bool _)) R ⟨R,mN0 (oPkF (cB hb34) (v:=(.bool _)) R ⟨R,?_⟩)⟩))⟩))⟩))⟩))
        obtain rfl:=oI hv
        exact zM
       ·replace hb35:=bF hb35
        replace hv:=iteF hv hb35
        refine mF R R hb35 (mF R R hb35 (mF R R hb35 (mF R R hb35 (mF R R hb35 (mF R R hb35 (mF R R hb35 (mF R R hb35 (mF R R hb35 (mF R R hb35 (mF R R hb35 (mF R R hb35 (mT R (cB hb34) (mN0 (oPkF (cB hb35) (v:=(.bool _)) R ⟨R,mN0 (oPkF (cB hb34) (v:=(.bool _)) R ⟨R,?_⟩)⟩))))))))))))))
        obtain rfl:=oI hv
        exact zM
   clear hv
   refine LH.cond (t:=w28) R (fun hc38=>?_) (fun hc38=>?_)
   ·replace h:=iteT h hc38
    refine LH.seqT [(2,.I 9)] [] R (sAi R zS) (LH.ret (blockR (thenR (roundR (blockR (thenR ?_))))))
    obtain rfl:=oI h
    exact retE (aT Tryz.results66) (lrT R (lr0 ⟨memN mN,R,prK R,Sub.rfl⟩))
   replace h:=iteF h hc38
   refine LH.skip (blockN (thenN (LH.loneT [(1,.sptr (GItem.lv p0).cells),(5,.I (i64 (n25+1)))] [] R (sMi R (sN (oAdd R R (sAi R zS)))) ?_)))
   exact roundI ⟨(i64 (n25+1)),hrec3 ▸ h,R,R⟩ (Wk.eq R R R R)
  replace h:=iteF h hc26
  refine LH.exit (thenX (roundX (blockH (thenN (LH.seqT [(2,.I 0)] [] R (sAi R zS) (LH.ret ?_))))))
  obtain rfl:=oI h
  exact retE (aT Tryz.results66) (lrT R (lr0 ⟨memN mN,R,prK R,Sub.rfl⟩))

set_option maxHeartbeats 4000000 in
theorem q236q {F:Nat} {p0:GBank} {r:Bool} (h:q171q F p0=some r):LCall Tryz.prog 38 [.agg [.lst 5 (List.map Gq2.lv p0.Records)]] (Mem.of []) (.bool r) (Mem.of []):=by
  unfold q171q at h
  refine bodyT Tryz.func38 R (nT Tryz.ntmps38 R) (LH.wk (Wk.eq (el:=[(0,.agg [.lst 5 (List.map Gq2.lv p0.Records)])]) (ml:=[]) R R R R) (LH.seqT [(1,.sptr [.lst 5 (List.map Gq2.lv p0.Records)])] [] R (sB (oBxR R R R R (sAb R zS))) (LH.seq (LH.seqT [(1,.sptr [.lst 5 (List.map Gq2.lv p0.Records)]),(10,.bool (decide ((p0.Records.length:Int) > 40)))] [] R (sN (oFaS tf30_0 tk28 ts28 R R R (sN (oLd R tk28 ta28 (sN (oLnL (f:=Gq2.lv) te28 R (sN (oGt R R zS)))))))) (LH.cond (t:=(decide ((p0.Records.length:Int) > 40))) R (fun hc1=>?_) (fun hc1=>?_))))))
  ·replace h:=iteT h hc1
   refine LH.seqT [(2,.bool false)] [] R (sAb R zS) (LH.ret (thenR ?_))
   obtain rfl:=oI h
   exact retE (aT Tryz.results38) (lrT R (lr0 ⟨memN mN,R,prK R,Sub.rfl⟩))
  replace h:=iteF h hc1
  refine LH.skip (thenN (LH.wk (Wk.eq (el:=[(1,.sptr [.lst 5 (List.map Gq2.lv p0.Records)])]) (ml:=[]) R R R R) (LH.seq (LH.seqT [(1,.sptr [.lst 5 (List.map Gq2.lv p0.Records)]),(3,.I 0)] [] R (sAi R zS) (LH.block (LH.loop (fun n e m=>∃ (n2:Int),q9q F p0 n n2=some r∧e=Env.of [(1,.sptr [.lst 5 (List.map Gq2.lv p0.Records)]),(3,.I n2)]∧m=Mem.of []) F ⟨0,h,R,R⟩ ?_))))))
  clear h
  rintro n e m ⟨n2,h,rfl,rfl⟩
  rcases n with _ | n
  · cases (show Option.none=some _ from h)
  obtain ⟨rec1,hrec1⟩:∃ f,f=q9q F p0 n:=⟨_,rfl⟩
  replace h:q101q F p0 rec1 n2=some r:=hrec1 ▸ h
  unfold q101q at h
  refine LH.seq (LH.seqT [(1,.sptr [.lst 5 (List.map Gq2.lv p0.Records)]),(3,.I n2),(15,.bool (decide (n2<(p0.Records.length:Int))))] [] R (sMi R (sN (oFaS tf30_0 tk28 ts28 R R R (sN (oLd R tk28 ta28 (sN (oLnL (f:=Gq2.lv) te28 R (sN (oLt R R zS))))))))) (LH.cond (t:=(decide (n2<(p0.Records.length:Int)))) R (fun hc3=>?_) (fun hc3=>?_)))
  ·replace h:=iteT h hc3
   refine LH.skip (thenN (LH.wk (Wk.eq (el:=[(1,.sptr [.lst 5 (List.map Gq2.lv p0.Records)]),(3,.I n2)]) (ml:=[]) R R R R) (LH.seq (LH.block ?_))))
   obtain ⟨x4,hx4,h⟩:=bindS h
   refine LH.seqT [(1,.sptr [.lst 5 (List.map Gq2.lv p0.Records)]),(3,.I n2),(4,.sptr [.I x4.ID,.lst 5 (List.map GItem.lv x4.Versions),.lst 1 (List.map LV.bool x4.Approved),.lst 3 (List.map GUse.lv x4.Uses),.bool x4.Withdrawn])] [] R (sN (oFaS tf30_0 tk28 ts28 R R R (sN (oLd R tk28 ta28 (sMi R (sN (oIx (f:=Gq2.lv) te28 tk49 ts49 R R Gq2.ok hx4 R (sN (oLdA R tk49 ta49 ts49 R R (sN (oAl (id:=104) R tz49 R R (s_ (oSt R R R tk49 ts49 R R R (s0 ((Wk.trans (Wk.eq (el:=[(1,.sptr [.lst 5 (List.map Gq2.lv p0.Records)]),(3,.I n2),(4,.ptr 104 0)]) (ml:=[(104,.box [.I x4.ID,.lst 5 (List.map GItem.lv x4.Versions),.lst 1 (List.map LV.bool x4.Approved),.lst 3 (List.map GUse.lv x4.Uses),.bool x4.Withdrawn])]) R R R R) (Wk.trans (Wk.frzB 104 [.I x4.ID,.lst 5 (List.map GItem.lv x4.Versions),.lst 1 (List.map LV.bool x4.Approved),.lst 3 (List.map GUse.lv x4.Uses),.bool x4.Withdrawn] R R R (prN R)) (Wk.eq R R R R)))))))))))))))))) (LH.seq ?_)
   obtain ⟨w6,hv,h⟩:=bindS h
   refine LH.seqJM mixed [] [0,0,0,0,0,0,0,0,0,0,0,0,0,0,0,0,0,0,0,0,0,0,0,0,0,0,0,0,0,0,0,0,0,0,0,0,0,0,0,0,0] [(1,.sptr [.lst 5 (List.map Gq2.lv p0.Records)]),(3,.I n2),(4,.sptr [.I x4.ID,.lst 5 (List.map GItem.lv x4.Versions),.lst 1 (List.map LV.bool x4.Approved),.lst 3 (List.map GUse.lv x4.Uses),.bool x4.Withdrawn]),(63,.bool w6)] [] R R (by kernel_rfl) ?_ ?_
   ·refine mMi R (mN0 (oGt R R ⟨R,mMb R ?_⟩))
    by_cases hb7:(decide (n2 > 0))=true
    ·replace hv:=iteT hv hb7
     refine mT R (cB hb7) (mN0 (oFaS tf30_0 tk28 ts28 R R R ⟨R,mT R (cB hb7) (mN0 (oLd R tk28 ta28 ⟨R,mT R (cB hb7) (mMi R (mT R (cB hb7) (mN0 (oSub R R ⟨R,?_⟩))))⟩))⟩))
     obtain ⟨x8,hx8,hv⟩:=bindS hv
     refine mT R (cB hb7) (mN0 (oIx (f:=Gq2.lv) te28 tk49 ts49 R R Gq2.ok hx8 R ⟨R,mT R (cB hb7) (mN0 (oFaS tf49_0 tk3 ts3 R R R ⟨R,mT R (cB hb7) (mN0 (oLd R tk3 ta3 ⟨R,mT R (cB hb7) (mN0 (oFaS tf49_0 tk3 ts3 R R R ⟨R,mT R (cB hb7) (mN0 (oLd R tk3 ta3 ⟨R,mT R (cB hb7) (mN0 (oGe R R ⟨R,mN0 (oPkT (cB hb7) (v:=(.bool _)) R ⟨R,mMb R ?_⟩)⟩))⟩))⟩))⟩))⟩))⟩))
     by_cases hb9:(decide (x8.ID ≥ x4.ID))=true
     ·replace hv:=iteT hv hb9
      refine mF R R hb9 (mF R R hb9 (mF R R hb9 (mF R R hb9 (mN0 (oPkT (cB hb9) (v:=(.bool _)) R ⟨R,mMb R (mF R R R (mF R R R (mF R R R (mF R R R (mN0 (oPkT R (v:=(.bool _)) R ⟨R,mMb R (mF R R R (mF R R R (mF R R R (mF R R R (mF R R R (mF R R R (mF R R R (mN0 (oPkT R (v:=(.bool _)) R ⟨R,mMb R (mF R R R (mF R R R (mF R R R (mF R R R (mN0 (oPkT R (v:=(.bool _)) R ⟨R,?_⟩))))))⟩)))))))))⟩))))))⟩)))))
      obtain rfl:=oI hv
      exact zM
     ·replace hb9:=bF hb9
      replace hv:=iteF hv hb9
      refine mT R (cB hb9) (mN0 (oFaS tf49_1 tk45 ts45 R R R ⟨R,mT R (cB hb9) (mN0 (oLd R tk45 ta45 ⟨R,mT R (cB hb9) (mN0 (oLnL (f:=GItem.lv) te45 R ⟨R,mT R (cB hb9) (mN0 (oLt R R ⟨R,mN0 (oPkF (cB hb9) (v:=(.bool _)) R ⟨R,mMb R ?_⟩)⟩))⟩))⟩))⟩))
      by_cases hb10:(decide ((x4.Versions.length:Int)<1))=true
      ·replace hv:=iteT hv hb10
       refine mF R R hb10 (mF R R hb10 (mF R R hb10 (mF R R hb10 (mN0 (oPkT (cB hb10) (v:=(.bool _)) R ⟨R,mMb R (mF R R R (mF R R R (mF R R R (mF R R R (mF R R R (mF R R R (mF R R R (mN0 (oPkT R (v:=(.bool _)) R ⟨R,mMb R (mF R R R (mF R R R (mF R R R (mF R R R (mN0 (oPkT R (v:=(.bool _)) R ⟨R,?_⟩))))))⟩)))))))))⟩)))))
       obtain rfl:=oI hv
       exact zM
      ·replace hb10:=bF hb10
       replace hv:=iteF hv hb10
       refine mT R (cB hb10) (mN0 (oFaS tf49_1 tk45 ts45 R R R ⟨R,mT R (cB hb10) (mN0 (oLd R tk45 ta45 ⟨R,mT R (cB hb10) (mN0 (oLnL (f:=GItem.lv) te45 R ⟨R,mT R (cB hb10) (mN0 (oGt R R ⟨R,mN0 (oPkF (cB hb10) (v:=(.bool _)) R ⟨R,mMb R ?_⟩)⟩))⟩))⟩))⟩))
       by_cases hb11:(decide ((x4.Versions.length:Int) > 8))=true
       ·replace hv:=iteT hv hb11
        refine mF R R hb11 (mF R R hb11 (mF R R hb11 (mF R R hb11 (mF R R hb11 (mF R R hb11 (mF R R hb11 (mN0 (oPkT (cB hb11) (v:=(.bool _)) R ⟨R,mMb R (mF R R R (mF R R R (mF R R R (mF R R R (mN0 (oPkT R (v:=(.bool _)) R ⟨R,?_⟩))))))⟩))))))))
        obtain rfl:=oI hv
        exact zM
       ·replace hb11:=bF hb11
        replace hv:=iteF hv hb11
        refine mT R (cB hb11) (mN0 (oFaS tf49_2 tk46 ts46 R R R ⟨R,mT R (cB hb11) (mN0 (oLd R tk46 ta46 ⟨R,mT R (cB hb11) (mN0 (oLnL (f:=LV.bool) te46 R ⟨R,mT R (cB hb11) (mN0 (oFaS tf49_1 tk45 ts45 R R R ⟨R,mT R (cB hb11) (mN0 (oLd R tk45 ta45 ⟨R,mT R (cB hb11) (mN0 (oLnL (f:=GItem.lv) te45 R ⟨R,mT R (cB hb11) (mN0 (oNe R R ⟨R,mN0 (oPkF (cB hb11) (v:=(.bool _)) R ⟨R,mMb R ?_⟩)⟩))⟩))⟩))⟩))⟩))⟩))⟩))
        by_cases hb12:((x4.Approved.length:Int) != (x4.Versions.length:Int))=true
        ·replace hv:=iteT hv hb12
         refine mF R R hb12 (mF R R hb12 (mF R R hb12 (mF R R hb12 (mN0 (oPkT (cB hb12) (v:=(.bool _)) R ⟨R,?_⟩)))))
         obtain rfl:=oI hv
         exact zM
        ·replace hb12:=bF hb12
         replace hv:=iteF hv hb12
         refine mT R (cB hb12) (mN0 (oFaS tf49_3 tk47 ts47 R R R ⟨R,mT R (cB hb12) (mN0 (oLd R tk47 ta47 ⟨R,mT R (cB hb12) (mN0 (oLnL (f:=GUse.lv) te47 R ⟨R,mT R (cB hb12) (mN0 (oGt R R ⟨R,mN0 (oPkF (cB hb12) (v:=(.bool _)) R ⟨R,?_⟩)⟩))⟩))⟩))⟩))
         obtain rfl:=oI hv
         exact zM
    ·replace hb7:=bF hb7
     replace hv:=iteF hv hb7
     refine mF R R hb7 (mF R R hb7 (mF R R hb7 (mF R R hb7 (mF R R hb7 (mF R R hb7 (mF R R hb7 (mF R R hb7 (mF R R hb7 (mF R R hb7 (mN0 (oPkF (cB hb7) (v:=(.bool _)) R ⟨R,mMb R (mT R R (mN0 (oFaS tf49_1 tk45 ts45 R R R ⟨R,mT R R (mN0 (oLd R tk45 ta45 ⟨R,mT R R (mN0 (oLnL (f:=GItem.lv) te45 R ⟨R,mT R R (mN0 (oLt R R ⟨R,mN0 (oPkF R (v:=(.bool _)) R ⟨R,mMb R ?_⟩)⟩))⟩))⟩))⟩)))⟩)))))))))))
     by_cases hb13:(decide ((x4.Versions.length:Int)<1))=true
     ·replace hv:=iteT hv hb13
      refine mF R R hb13 (mF R R hb13 (mF R R hb13 (mF R R hb13 (mN0 (oPkT (cB hb13) (v:=(.bool _)) R ⟨R,mMb R (mF R R R (mF R R R (mF R R R (mF R R R (mF R R R (mF R R R (mF R R R (mN0 (oPkT R (v:=(.bool _)) R ⟨R,mMb R (mF R R R (mF R R R (mF R R R (mF R R R (mN0 (oPkT R (v:=(.bool _)) R ⟨R,?_⟩))))))⟩)))))))))⟩)))))
      obtain rfl:=oI hv
      exact zM
     ·replace hb13:=bF hb13
      replace hv:=iteF hv hb13
      refine mT R (cB hb13) (mN0 (oFaS tf49_1 tk45 ts45 R R R ⟨R,mT R (cB hb13) (mN0 (oLd R tk45 ta45 ⟨R,mT R (cB hb13) (mN0 (oLnL (f:=GItem.lv) te45 R ⟨R,mT R (cB hb13) (mN0 (oGt R R ⟨R,mN0 (oPkF (cB hb13) (v:=(.bool _)) R ⟨R,mMb R ?_⟩)⟩))⟩))⟩))⟩))
      by_cases hb14:(decide ((x4.Versions.length:Int) > 8))=true
      ·replace hv:=iteT hv hb14
       refine mF R R hb14 (mF R R hb14 (mF R R hb14 (mF R R hb14 (mF R R hb14 (mF R R hb14 (mF R R hb14 (mN0 (oPkT (cB hb14) (v:=(.bool _)) R ⟨R,mMb R (mF R R R (mF R R R (mF R R R (mF R R R (mN0 (oPkT R (v:=(.bool _)) R ⟨R,?_⟩))))))⟩))))))))
       obtain rfl:=oI hv
       exact zM
      ·replace hb14:=bF hb14
       replace hv:=iteF hv hb14
       refine mT R (cB hb14) (mN0 (oFaS tf49_2 tk46 ts46 R R R ⟨R,mT R (cB hb14) (mN0 (oLd R tk46 ta46 ⟨R,mT R (cB hb14) (mN0 (oLnL (f:=LV.bool) te46 R ⟨R,mT R (cB hb14) (mN0 (oFaS tf49_1 tk45 ts45 R R R ⟨R,mT R (cB hb14) (mN0 (oLd R tk45 ta45 ⟨R,mT R (cB hb14) (mN0 (oLnL (f:=GItem.lv) te45 R ⟨R,mT R (cB hb14) (mN0 (oNe R R ⟨R,mN0 (oPkF (cB hb14) (v:=(.bool _)) R ⟨R,mMb R ?_⟩)⟩))⟩))⟩))⟩))⟩))⟩))⟩))
       by_cases hb15:((x4.Approved.length:Int) != (x4.Versions.length:Int))=true
       ·replace hv:=iteT hv hb15
        refine mF R R hb15 (mF R R hb15 (mF R R hb15 (mF R R hb15 (mN0 (oPkT (cB hb15) (v:=(.bool _)) R ⟨R,?_⟩)))))
        obtain rfl:=oI hv
        exact zM
       ·replace hb15:=bF hb15
        replace hv:=iteF hv hb15
        refine mT R (cB hb15) (mN0 (oFaS tf49_3 tk47 ts47 R R R ⟨R,mT R (cB hb15) (mN0 (oLd R tk47 ta47 ⟨R,mT R (cB hb15) (mN0 (oLnL (f:=GUse.lv) te47 R ⟨R,mT R (cB hb15) (mN0 (oGt R R ⟨R,mN0 (oPkF (cB hb15) (v:=(.bool _)) R ⟨R,?_⟩)⟩))⟩))⟩))⟩))
        obtain rfl:=oI hv
        exact zM
   clear hv
   refine LH.cond (t:=w6) R (fun hc16=>?_) (fun hc16=>?_)
   ·replace h:=iteT h hc16
    refine LH.seqT [(2,.bool false)] [] R (sAb R zS) (LH.ret (thenR (blockR (thenR (roundR (blockR (thenR ?_)))))))
    obtain rfl:=oI h
    exact retE (aT Tryz.results38) (lrT R (lr0 ⟨memN mN,R,prK R,Sub.rfl⟩))
   replace h:=iteF h hc16
   refine LH.skip (thenN (LH.wk (Wk.eq (el:=[(1,.sptr [.lst 5 (List.map Gq2.lv p0.Records)]),(3,.I n2),(4,.sptr [.I x4.ID,.lst 5 (List.map GItem.lv x4.Versions),.lst 1 (List.map LV.bool x4.Approved),.lst 3 (List.map GUse.lv x4.Uses),.bool x4.Withdrawn])]) (ml:=[]) R R R R) (LH.seq (LH.seqT [(1,.sptr [.lst 5 (List.map Gq2.lv p0.Records)]),(3,.I n2),(4,.sptr [.I x4.ID,.lst 5 (List.map GItem.lv x4.Versions),.lst 1 (List.map LV.bool x4.Approved),.lst 3 (List.map GUse.lv x4.Uses),.bool x4.Withdrawn]),(5,.I 0)] [] R (sAi R zS) (LH.block (LH.loop (fun n e m=>∃ (n17:Int),q52q rec1 F n2 x4 n n17=some r∧e=Env.of [(1,.sptr [.lst 5 (List.map Gq2.lv p0.Records)]),(3,.I n2),(4,.sptr [.I x4.ID,.lst 5 (List.map GItem.lv x4.Versions),.lst 1 (List.map LV.bool x4.Approved),.lst 3 (List.map GUse.lv x4.Uses),.bool x4.Withdrawn]),(5,.I n17)]∧m=Mem.of []) F ⟨0,h,R,R⟩ ?_))))))
   clear h
   rintro n e m ⟨n17,h,rfl,rfl⟩
   rcases n with _ | n
   · cases (show Option.none=some _ from h)
   obtain ⟨rec2,hrec2⟩:∃ f,f=q52q rec1 F n2 x4 n:=⟨_,rfl⟩
   replace h:q102q rec1 F n2 x4 rec2 n17=some r:=hrec2 ▸ h
   unfold q102q at h
   refine LH.seq (LH.seqT [(1,.sptr [.lst 5 (List.map Gq2.lv p0.Records)]),(3,.I n2),(4,.sptr [.I x4.ID,.lst 5 (List.map GItem.lv x4.Versions),.lst 1 (List.map LV.bool x4.Approved),.lst 3 (List.map GUse.lv x4.Uses),.bool x4.Withdrawn]),(5,.I n17),(68,.bool (decide (n17<(x4.Versions.length:Int))))] [] R (sMi R (sN (oFaS tf49_1 tk45 ts45 R R R (sN (oLd R tk45 ta45 (sN (oLnL (f:=GItem.lv) te45 R (sN (oLt R R zS))))))))) (LH.cond (t:=(decide (n17<(x4.Versions.length:Int)))) R (fun hc18=>?_) (fun hc18=>?_)))
   ·replace h:=iteT h hc18
    refine LH.skip (thenN (LH.wk (Wk.eq (el:=[(1,.sptr [.lst 5 (List.map Gq2.lv p0.Records)]),(3,.I n2),(4,.sptr [.I x4.ID,.lst 5 (List.map GItem.lv x4.Versions),.lst 1 (List.map LV.bool x4.Approved),.lst 3 (List.map GUse.lv x4.Uses),.bool x4.Withdrawn]),(5,.I n17)]) (ml:=[]) R R R R) (LH.seq (LH.block ?_))))
    obtain ⟨w20,hv,h⟩:=bindS h
    refine LH.seqJM mixed [] [0,0,0,0,0,0,0,0,0,0,0,0,0,0,0,0,0,0,0,0,0,0,0,0,0,0,0,0,0] [(1,.sptr [.lst 5 (List.map Gq2.lv p0.Records)]),(3,.I n2),(4,.sptr [.I x4.ID,.lst 5 (List.map GItem.lv x4.Versions),.lst 1 (List.map LV.bool x4.Approved),.lst 3 (List.map GUse.lv x4.Uses),.bool x4.Withdrawn]),(5,.I n17),(99,.bool w20)] [] R R (by kernel_rfl) ?_ ?_
    ·refine mN0 (oFaS tf49_1 tk45 ts45 R R R ⟨R,mN0 (oLd R tk45 ta45 ⟨R,mMi R ?_⟩)⟩)
     obtain ⟨x21,hx21,hv⟩:=bindS hv
     refine mN0 (oIx (f:=GItem.lv) te45 tk54 ts54 R R GItem.ok hx21 R ⟨R,mN0 (oLdA R tk54 ta54 ts54 R R ⟨R,?_⟩)⟩)
     obtain ⟨r22,hr22,hv⟩:=bindS hv
     refine mN0 (oCP (args:=[GItem.lv x21]) R isF66 R (sbR sbN) (q183q hr22) R ⟨R,mN0 (oNe R R ⟨R,mMb R ?_⟩)⟩)
     by_cases hb23:(r22 != 0)=true
     ·replace hv:=iteT hv hb23
      refine mF R R hb23 (mF R R hb23 (mF R R hb23 (mF R R hb23 (mF R R hb23 (mF R R hb23 (mF R R hb23 (mF R R hb23 (mF R R hb23 (mN0 (oPkT (cB hb23) (v:=(.bool _)) R ⟨R,mMb R (mF R R R (mF R R R (mF R R R (mF R R R (mF R R R (mF R R R (mF R R R (mF R R R (mF R R R (mN0 (oPkT R (v:=(.bool _)) R ⟨R,?_⟩)))))))))))⟩))))))))))
      obtain rfl:=oI hv
      exact zM
     ·replace hb23:=bF hb23
      replace hv:=iteF hv hb23
      refine mT R (cB hb23) (mN0 (oFaS tf49_1 tk45 ts45 R R R ⟨R,mT R (cB hb23) (mN0 (oLd R tk45 ta45 ⟨R,mT R (cB hb23) (mMi R ?_)⟩))⟩))
      obtain ⟨x24,hx24,hv⟩:=bindS hv
      refine mT R (cB hb23) (mN0 (oIx (f:=GItem.lv) te45 tk54 ts54 R R GItem.ok hx24 R ⟨R,mT R (cB hb23) (mN0 (oFaS tf54_0 tk3 ts3 R R R ⟨R,mT R (cB hb23) (mN0 (oLd R tk3 ta3 ⟨R,mT R (cB hb23) (mN0 (oFaS tf49_0 tk3 ts3 R R R ⟨R,mT R (cB hb23) (mN0 (oLd R tk3 ta3 ⟨R,mT R (cB hb23) (mN0 (oNe R R ⟨R,mN0 (oPkF (cB hb23) (v:=(.bool _)) R ⟨R,mMb R ?_⟩)⟩))⟩))⟩))⟩))⟩))⟩))
      by_cases hb25:(x24.ID != x4.ID)=true
      ·replace hv:=iteT hv hb25
       refine mF R R hb25 (mF R R hb25 (mF R R hb25 (mF R R hb25 (mF R R hb25 (mF R R hb25 (mF R R hb25 (mF R R hb25 (mF R R hb25 (mN0 (oPkT (cB hb25) (v:=(.bool _)) R ⟨R,?_⟩))))))))))
       obtain rfl:=oI hv
       exact zM
      ·replace hb25:=bF hb25
       replace hv:=iteF hv hb25
       refine mT R (cB hb25) (mN0 (oFaS tf49_1 tk45 ts45 R R R ⟨R,mT R (cB hb25) (mN0 (oLd R tk45 ta45 ⟨R,mT R (cB hb25) (mMi R ?_)⟩))⟩))
       obtain ⟨x26,hx26,hv⟩:=bindS hv
       refine mT R (cB hb25) (mN0 (oIx (f:=GItem.lv) te45 tk54 ts54 R R GItem.ok hx26 R ⟨R,mT R (cB hb25) (mN0 (oFaS tf54_1 tk3 ts3 R R R ⟨R,mT R (cB hb25) (mN0 (oLd R tk3 ta3 ⟨R,mT R (cB hb25) (mMi R (mT R (cB hb25) (mN0 (oAdd R R ⟨R,mT R (cB hb25) (mN0 (oNe R R ⟨R,mN0 (oPkF (cB hb25) (v:=(.bool _)) R ⟨R,?_⟩)⟩))⟩))))⟩))⟩))⟩))
       obtain rfl:=oI hv
       exact zM
    clear hv
    refine LH.cond (t:=w20) R (fun hc27=>?_) (fun hc27=>?_)
    ·replace h:=iteT h hc27
     refine LH.seqT [(2,.bool false)] [] R (sAb R zS) (LH.ret (blockR (thenR (roundR (blockR (thenR (blockR (thenR (roundR (blockR (thenR ?_)))))))))))
     obtain rfl:=oI h
     exact retE (aT Tryz.results38) (lrT R (lr0 ⟨memN mN,R,prK R,Sub.rfl⟩))
    replace h:=iteF h hc27
    refine LH.skip (blockN (thenN (LH.loneT [(1,.sptr [.lst 5 (List.map Gq2.lv p0.Records)]),(3,.I n2),(4,.sptr [.I x4.ID,.lst 5 (List.map GItem.lv x4.Versions),.lst 1 (List.map LV.bool x4.Approved),.lst 3 (List.map GUse.lv x4.Uses),.bool x4.Withdrawn]),(5,.I (i64 (n17+1)))] [] R (sMi R (sN (oAdd R R (sAi R zS)))) ?_)))
    exact roundI ⟨(i64 (n17+1)),hrec2 ▸ h,R,R⟩ (Wk.eq R R R R)
   replace h:=iteF h hc18
   refine LH.exit (thenX (roundX (blockH (thenN (LH.seqT [(1,.sptr [.lst 5 (List.map Gq2.lv p0.Records)]),(3,.I n2),(4,.sptr [.I x4.ID,.lst 5 (List.map GItem.lv x4.Versions),.lst 1 (List.map LV.bool x4.Approved),.lst 3 (List.map GUse.lv x4.Uses),.bool x4.Withdrawn]),(6,.I 0)] [] R (sAi R zS) (LH.block (LH.loop (fun n e m=>∃ (n28:Int),q53q rec1 n2 x4 n n28=some r∧e=Env.of [(1,.sptr [.lst 5 (List.map Gq2.lv p0.Records)]),(3,.I n2),(4,.sptr [.I x4.ID,.lst 5 (List.map GItem.lv x4.Versions),.lst 1 (List.map LV.bool x4.Approved),.lst 3 (List.map GUse.lv x4.Uses),.bool x4.Withdrawn]),(6,.I n28)]∧m=Mem.of []) F ⟨0,h,R,R⟩ ?_)))))))
   clear h
   rintro n e m ⟨n28,h,rfl,rfl⟩
   rcases n with _ | n
   · cases (show Option.none=some _ from h)
   obtain ⟨rec3,hrec3⟩:∃ f,f=q53q rec1 n2 x4 n:=⟨_,rfl⟩
   replace h:q103q rec1 n2 x4 rec3 n28=some r:=hrec3 ▸ h
   unfold q103q at h
   refine LH.seq (LH.seqT [(1,.sptr [.lst 5 (List.map Gq2.lv p0.Records)]),(3,.I n2),(4,.sptr [.I x4.ID,.lst 5 (List.map GItem.lv x4.Versions),.lst 1 (List.map LV.bool x4.Approved),.lst 3 (List.map GUse.lv x4.Uses),.bool x4.Withdrawn]),(6,.I n28),(104,.bool (decide (n28<(x4.Uses.length:Int))))] [] R (sMi R (sN (oFaS tf49_3 tk47 ts47 R R R (sN (oLd R tk47 ta47 (sN (oLnL (f:=GUse.lv) te47 R (sN (oLt R R zS))))))))) (LH.cond (t:=(decide (n28<(x4.Uses.length:Int)))) R (fun hc29=>?_) (fun hc29=>?_)))
   ·replace h:=iteT h hc29
    refine LH.skip (thenN (LH.wk (Wk.eq (el:=[(1,.sptr [.lst 5 (List.map Gq2.lv p0.Records)]),(3,.I n2),(4,.sptr [.I x4.ID,.lst 5 (List.map GItem.lv x4.Versions),.lst 1 (List.map LV.bool x4.Approved),.lst 3 (List.map GUse.lv x4.Uses),.bool x4.Withdrawn]),(6,.I n28)]) (ml:=[]) R R R R) (LH.seq (LH.block ?_))))
    obtain ⟨w31,hv,h⟩:=bindS h
    refine LH.seqJM mixed [] [0,0,0,0,0,0,0,0,0,0,0,0,0,0,0,0,0,0,0] [(1,.sptr [.lst 5 (List.map Gq2.lv p0.Records)]),(3,.I n2),(4,.sptr [.I x4.ID,.lst 5 (List.map GItem.lv x4.Versions),.lst 1 (List.map LV.bool x4.Approved),.lst 3 (List.map GUse.lv x4.Uses),.bool x4.Withdrawn]),(6,.I n28),(125,.bool w31)] [] R R (by kernel_rfl) ?_ ?_
    ·refine mN0 (oFaS tf49_3 tk47 ts47 R R R ⟨R,mN0 (oLd R tk47 ta47 ⟨R,mMi R ?_⟩)⟩)
     obtain ⟨x32,hx32,hv⟩:=bindS hv
     refine mN0 (oIx (f:=GUse.lv) te47 tk88 ts88 R R GUse.ok hx32 R ⟨R,mN0 (oFaS tf88_0 tk3 ts3 R R R ⟨R,mN0 (oLd R tk3 ta3 ⟨R,mN0 (oLt R R ⟨R,mMb R ?_⟩)⟩)⟩)⟩)
     by_cases hb33:(decide (x32.Version<1))=true
     ·replace hv:=iteT hv hb33
      refine mF R R hb33 (mF R R hb33 (mF R R hb33 (mF R R hb33 (mF R R hb33 (mF R R hb33 (mF R R hb33 (mF R R hb33 (mF R R hb33 (mF R R hb33 (mN0 (oPkT (cB hb33) (v:=(.bool _)) R ⟨R,?_⟩)))))))))))
      obtain rfl:=oI hv
      exact zM
     ·replace hb33:=bF hb33
      replace hv:=iteF hv hb33
      refine mT R (cB hb33) (mN0 (oFaS tf49_3 tk47 ts47 R R R ⟨R,mT R (cB hb33) (mN0 (oLd R tk47 ta47 ⟨R,mT R (cB hb33) (mMi R ?_)⟩))⟩))
      obtain ⟨x34,hx34,hv⟩:=bindS hv
      refine mT R (cB hb33) (mN0 (oIx (f:=GUse.lv) te47 tk88 ts88 R R GUse.ok hx34 R ⟨R,mT R (cB hb33) (mN0 (oFaS tf88_0 tk3 ts3 R R R ⟨R,mT R (cB hb33) (mN0 (oLd R tk3 ta3 ⟨R,mT R (cB hb33) (mN0 (oFaS tf49_1 tk45 ts45 R R R ⟨R,mT R (cB hb33) (mN0 (oLd R tk45 ta45 ⟨R,mT R (cB hb33) (mN0 (oLnL (f:=GItem.lv) te45 R ⟨R,mT R (cB hb33) (mN0 (oGt R R ⟨R,mN0 (oPkF (cB hb33) (v:=(.bool _)) R ⟨R,?_⟩)⟩))⟩))⟩))⟩))⟩))⟩))⟩))
      obtain rfl:=oI hv
      exact zM
    clear hv
    refine LH.cond (t:=w31) R (fun hc35=>?_) (fun hc35=>?_)
    ·replace h:=iteT h hc35
     refine LH.seqT [(2,.bool false)] [] R (sAb R zS) (LH.ret (blockR (thenR (roundR (blockR (blockR (thenR (roundR (blockR (thenR ?_))))))))))
     obtain rfl:=oI h
     exact retE (aT Tryz.results38) (lrT R (lr0 ⟨memN mN,R,prK R,Sub.rfl⟩))
    replace h:=iteF h hc35
    refine LH.skip (blockN (thenN (LH.loneT [(1,.sptr [.lst 5 (List.map Gq2.lv p0.Records)]),(3,.I n2),(4,.sptr [.I x4.ID,.lst 5 (List.map GItem.lv x4.Versions),.lst 1 (List.map LV.bool x4.Approved),.lst 3 (List.map GUse.lv x4.Uses),.bool x4.Withdrawn]),(6,.I (i64 (n28+1)))] [] R (sMi R (sN (oAdd R R (sAi R zS)))) ?_)))
    exact roundI ⟨(i64 (n28+1)),hrec3 ▸ h,R,R⟩ (Wk.eq R R R R)
   replace h:=iteF h hc29
   refine LH.exit (thenX (roundX (blockH (blockN (thenN (LH.loneT [(1,.sptr [.lst 5 (List.map Gq2.lv p0.Records)]),(3,.I (i64 (n2+1)))] [] R (sMi R (sN (oAdd R R (sAi R zS)))) ?_))))))
   exact roundI ⟨(i64 (n2+1)),hrec1 ▸ h,R,R⟩ (Wk.eq R R R R)
  replace h:=iteF h hc3
  refine LH.exit (thenX (roundX (blockH (thenN (LH.seqT [(2,.bool true)] [] R (sAb R zS) (LH.ret ?_))))))
  obtain rfl:=oI h
  exact retE (aT Tryz.results38) (lrT R (lr0 ⟨memN mN,R,prK R,Sub.rfl⟩))

end Go.Proofs.YtmollikhdbaikaaGreat
