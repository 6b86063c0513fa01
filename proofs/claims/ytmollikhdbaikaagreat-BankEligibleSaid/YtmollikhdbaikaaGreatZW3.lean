import Derived.Test.YtmollikhdbaikaaGreatZW2
set_option linter.unusedVariables false
set_option linter.unusedSimpArgs false
set_option maxRecDepth 100000
set_option maxHeartbeats 1000000
namespace Go.Proofs.YtmollikhdbaikaaGreat
open Go.L Go.Sh
set_option maxHeartbeats 4000000 in
theorem PO {F:Nat} {p0:List ax} {p1:Int} {r:aM × List b7 × Int} (h:kU F p0 p1=some r):aP Tryz.prog 10 [.ak 12 (p0.map ax.lv),.I p1] (Mem.of []) (.de [.agg [.ak 5 (r.1.aa.map aq.lv)],.ak 3 (r.2.1.map b7.lv),.I r.2.2]) (Mem.of []):=by
  unfold kU at h
  refine bu Tryz.func10 R (nT Tryz.ntmps10 R) (LH.wk (aX [(0,.ak 12 (p0.map ax.lv)),(1,.I p1)] []) (LH.aj [(0,.ak 12 (p0.map ax.lv)),(1,.I p1),(4,.ptr 104 0)] [(104,.box [.nil])] R (sN (kS (id:=104) R fF R R (kh R (bo R zS)))) ?_))
  obtain ⟨r1,ec,h⟩:=al h
  refine LH.aj [(1,.I p1),(4,.ptr 104 0),(7,.ak 12 (r1.1.map ax.lv)),(8,.I r1.2)] [(104,.box [.nil])] R (eZ R (sN (dU (args:=[.ak 12 (p0.map ax.lv)]) R N4 R (aK bt) (Pl ec) R (yH R (sN (iO R R (sN (iO R R (qb R (bo R zS)))))))))) (LH.seq (LH.aj [(1,.I p1),(4,.ptr 104 0),(7,.ak 12 (r1.1.map ax.lv)),(8,.I r1.2),(23,.bool (r1.2 != 0))] [(104,.box [.nil])] R (bl R (sN (kg R R zS))) (LH.cond (t:=(r1.2 != 0)) R (fun fJ=>?_) (fun fJ=>?_))))
  ·replace h:=aB h fJ
   refine LH.aj [(4,.ag [.nil]),(5,.nil),(6,.I r1.2)] [] R (sN (gB (vs:=[]) lk fF R gA (bl R (s_ (cV R R R bA bB R R R (kh R (bo R (s0 ((Wk.trans (aX [(4,.ptr 104 0),(5,.nil),(6,.I r1.2)] [(104,.box [.nil])]) (Wk.trans (Wk.bk 104 [.nil] R R R (bO R)) (Wk.eq R R R R)))))))))))) (LH.ret (aZ ?_))
   obtain rfl:=oI h
   exact aS (aT Tryz.results10) (df R bA cD bB R R (bR R (bR R (bP ⟨aR mN,R,a8 R,(Sub.de (rq (Sub.agg (yI bt)) (yI (aK bt))))⟩))))
  replace h:=aA h fJ
  refine LH.skip (av (LH.aj [(1,.I p1),(4,.ptr 104 0),(7,.ak 12 (r1.1.map ax.lv)),(9,.ptr 811 0)] [(104,.box [.nil]),(811,.box [.arr 812 (List.length ([]:List aq))]),(812,dn (List.map aq.lv ([]:List aq)))] R (sX (Lk 711 R fF R R) (s0 ((Wk.trans (aX [(1,.I p1),(4,.ptr 104 0),(7,.ak 12 (r1.1.map ax.lv)),(9,.ptr 811 0)] [(104,.box [.nil]),(811,.box [.nil])]) (Wk.trans (aX [(1,.I p1),(4,.ptr 104 0),(7,.ak 12 (r1.1.map ax.lv)),(9,.ptr 811 0)] [(104,.box [.nil]),(811,.box [.nil])]) (Wk.trans (Wk.Ly 812 49 5 [(1,54,5),(2,4,1),(3,88,3)] 811 0 R R R R R (bO R)) (Wk.eq R R R R))))))) (LH.aj [(1,.I p1),(4,.ptr 104 0),(7,.ak 12 (r1.1.map ax.lv)),(9,.ptr 811 0),(10,.nil)] [(104,.box [.nil]),(811,.box [.arr 812 (List.length ([]:List aq))]),(812,dn (List.map aq.lv ([]:List aq)))] R (kh R zS) (LH.aj [(1,.I p1),(4,.ptr 104 0),(7,.ak 12 (r1.1.map ax.lv)),(9,.ptr 811 0),(10,.nil),(11,.mp 10301)] [(104,.box [.nil]),(811,.box [.arr 812 (List.length ([]:List aq))]),(812,dn (List.map aq.lv ([]:List aq))),(10301,.map 3 78 (dR LV.I bH bn))] R (sN (fa (args:=[]) (ml:=[]) (dg:=[(10301,.map 3 78 (dR LV.I bH bn))]) R N5 R bt (Ps (F:=F) (r:=bn) R) mN (O0 R cw) R (sN (oA (v:=(.mp _)) R zS)))) (LH.seq (LH.aj [(1,.I p1),(4,.ptr 104 0),(9,.ptr 811 0),(10,.nil),(11,.mp 10301),(27,.ak 12 (r1.1.map ax.lv)),(28,.I (r1.1.length:Int)),(29,.I 0)] [(104,.box [.nil]),(811,.box [.arr 812 (List.length ([]:List aq))]),(812,dn (List.map aq.lv ([]:List aq))),(10301,.map 3 78 (dR LV.I bH bn))] R (eZ R (sN (bX (f:=ax.lv) gn R (bl R zS)))) (LH.block (LH.wk ((Wk.trans (aX [(1,.I p1),(4,.ptr 104 0),(9,.ptr 811 0),(10,.nil),(11,.mp 10301),(27,.ak 12 (r1.1.map ax.lv)),(28,.I (r1.1.length:Int)),(29,.I 0)] [(104,.box [.nil]),(811,.box [.arr 812 (List.length ([]:List aq))]),(812,dn (List.map aq.lv ([]:List aq))),(10301,.map 3 78 (dR LV.I bH bn))]) (Wk.trans (aX [(1,.I p1),(4,.ptr 104 0),(9,.ptr 811 0),(10,.nil),(11,.mp 10301),(27,.ak 12 (r1.1.map ax.lv)),(28,.I (r1.1.length:Int)),(29,.I 0)] [(104,.box [.nil]),(811,.box [.arr 812 (List.length ([]:List aq))]),(812,dn (List.map aq.lv ([]:List aq))),(10301,.map 3 78 (dR LV.I bH bn))]) (Wk.trans (Wk.rl (fk:=[(1,.I p1),(4,.ptr 104 0),(9,.ptr 811 0),(10,.arr 162 (List.length ([]:List b7))),(11,.mp 10301),(27,.ak 12 (r1.1.map ax.lv)),(28,.I (r1.1.length:Int)),(29,.I 0)]) 162 84 3 R R (wK (wK (wK (wO (wK (wK (wK (wK wN))))))))) (aX [(1,.I p1),(4,.ptr 104 0),(9,.ptr 811 0),(10,.arr 162 (List.length ([]:List b7))),(11,.mp 10301),(27,.ak 12 (r1.1.map ax.lv)),(28,.I (r1.1.length:Int)),(29,.I 0)] [(104,.box [.nil]),(162,.arr 84 3 (List.map b7.lv ([]:List b7))),(811,.box [.arr 812 (List.length ([]:List aq))]),(812,dn (List.map aq.lv ([]:List aq))),(10301,.map 3 78 (dR LV.I bH bn))]))))) (LH.loop (fun n e m=>∃ (n3:Int) (l4:List b7) (l5:List aq),vV F p1 r1 n n3 l4 l5=some r∧e=Env.of [(1,.I p1),(4,.ptr 104 0),(9,.ptr 811 0),(10,.arr 162 l4.length),(11,.mp 10301),(27,.ak 12 (r1.1.map ax.lv)),(28,.I (r1.1.length:Int)),(29,.I n3)]∧m=Mem.of [(104,.box [.nil]),(162,.arr 84 3 (l4.map b7.lv)),(811,.box [.arr 812 l5.length]),(812,dn (l5.map aq.lv)),(10301,.map 3 78 (dR LV.I bH bn))]) F ⟨0,([]:List b7),([]:List aq),h,R,R⟩ ?_)))))))))
  clear h
  rintro n e m ⟨n3,l4,l5,h,rfl,rfl⟩
  rcases n with _ | n
  · cases (show Option.none=some _ from h)
  obtain ⟨aH,ba⟩:∃ f,f=vV F p1 r1 n:=⟨_,rfl⟩
  replace h:xT F p1 r1 aH n3 l4 l5=some r:=ba ▸ h
  unfold xT at h
  refine LH.aj [(1,.I p1),(4,.ptr 104 0),(9,.ptr 811 0),(10,.arr 162 l4.length),(11,.mp 10301),(27,.ak 12 (r1.1.map ax.lv)),(28,.I (r1.1.length:Int)),(29,.I n3),(30,.bool (decide (n3<(r1.1.length:Int))))] [(104,.box [.nil]),(162,.arr 84 3 (l4.map b7.lv)),(811,.box [.arr 812 l5.length]),(812,dn (l5.map aq.lv)),(10301,.map 3 78 (dR LV.I bH bn))] R (sN (fi R R zS)) (LH.seq (LH.cond (t:=(decide (n3<(r1.1.length:Int)))) R (fun gb=>?_) (fun gb=>?_)))
  ·replace h:=aB h gb
   refine LH.skip (av (LH.wk (aX [(1,.I p1),(4,.ptr 104 0),(9,.ptr 811 0),(10,.arr 162 l4.length),(11,.mp 10301),(27,.ak 12 (r1.1.map ax.lv)),(28,.I (r1.1.length:Int)),(29,.I n3)] [(104,.box [.nil]),(162,.arr 84 3 (l4.map b7.lv)),(811,.box [.arr 812 l5.length]),(812,dn (l5.map aq.lv)),(10301,.map 3 78 (dR LV.I bH bn))]) (LH.seq (LH.block ?_))))
   obtain ⟨x7,DQ,h⟩:=al h
   refine LH.aj [(1,.I p1),(4,.ptr 104 0),(9,.ptr 811 0),(10,.arr 162 l4.length),(11,.mp 10301),(13,.ag (ax.lv x7).cells),(27,.ak 12 (r1.1.map ax.lv)),(28,.I (r1.1.length:Int)),(29,.I n3)] [(104,.box [.nil]),(162,.arr 84 3 (l4.map b7.lv)),(811,.box [.arr 812 l5.length]),(812,dn (l5.map aq.lv)),(10301,.map 3 78 (dR LV.I bH bn))] R (sN (eW (f:=ax.lv) gn fx ew R R ax.ok DQ R (sN (bh R fx me ew R R (sN (kS (id:=113) R y7 R R (s_ (cV R R R fx ew R R R (s0 ((Wk.trans (aX [(1,.I p1),(4,.ptr 104 0),(9,.ptr 811 0),(10,.arr 162 l4.length),(11,.mp 10301),(13,.ptr 113 0),(27,.ak 12 (r1.1.map ax.lv)),(28,.I (r1.1.length:Int)),(29,.I n3)] [(104,.box [.nil]),(113,.box (ax.lv x7).cells),(162,.arr 84 3 (l4.map b7.lv)),(811,.box [.arr 812 l5.length]),(812,dn (l5.map aq.lv)),(10301,.map 3 78 (dR LV.I bH bn))]) (Wk.trans (Wk.bk 113 (ax.lv x7).cells R R R (bO R)) (Wk.eq R R R R))))))))))))) (LH.seq (LH.aj [(1,.I p1),(4,.ptr 104 0),(9,.ptr 811 0),(10,.arr 162 l4.length),(11,.mp 10301),(13,.ag (ax.lv x7).cells),(27,.ak 12 (r1.1.map ax.lv)),(28,.I (r1.1.length:Int)),(29,.I n3),(37,.bool (decide (x7.ar.Time > p1)))] [(104,.box [.nil]),(162,.arr 84 3 (l4.map b7.lv)),(811,.box [.arr 812 l5.length]),(812,dn (l5.map aq.lv)),(10301,.map 3 78 (dR LV.I bH bn))] R (sN (aw db b6 bW R R R (sN (aw e7 aE bb R R R (sN (bf R aE bN (bl R (sN (iw R R zS))))))))) (LH.cond (t:=(decide (x7.ar.Time > p1))) R (fun ly=>?_) (fun ly=>?_))))
   ·replace h:=aB h ly
    refine LH.exit (cv (Ek R (cv (bY (bM (av (LH.wk ((Wk.trans (aX [(4,.ptr 104 0),(9,.ptr 811 0),(10,.arr 162 l4.length)] [(104,.box [.nil]),(162,.arr 84 3 (l4.map b7.lv)),(811,.box [.arr 812 l5.length]),(812,dn (l5.map aq.lv))]) (Wk.trans (Wk.kL (f:=b7.lv) (fk:=[(4,.ptr 104 0),(9,.ptr 811 0),(10,.ak 3 (l4.map b7.lv))]) 162 84 3 l4 R R (bO R) (fK R (fK R (fZ fN)))) (aX [(4,.ptr 104 0),(9,.ptr 811 0),(10,.ak 3 (l4.map b7.lv))] [(104,.box [.nil]),(811,.box [.arr 812 l5.length]),(812,dn (l5.map aq.lv))])))) (LH.aj [(4,.ag [.ak 5 (l5.map aq.lv)]),(5,.ak 3 (l4.map b7.lv)),(6,.I 0)] [] R (cS.wk (aX [(4,.ptr 104 0),(9,.ptr 811 0),(10,.ak 3 (l4.map b7.lv))] [(104,.box [.nil]),(811,.box [.arr 812 l5.length]),(812,dn (l5.map aq.lv))]) (cS.wk (Wk.trans (Wk.trans (Wk.GW (f:=aq.lv) 812 49 5 [(1,54,5),(2,4,1),(3,88,3)] l5 R aq.ok) (aX [(4,.ptr 104 0),(9,.ptr 811 0),(10,.ak 3 (l4.map b7.lv))] [(104,.box [.nil]),(811,.box [.arr 812 l5.length]),(812,.arr 49 5 (l5.map aq.lv))])) (Wk.trans (Wk.gO (f:=aq.lv) 812 49 5 l5 811 R R R (k5 kZ) R R (bO R)) (aX [(4,.ptr 104 0),(9,.ptr 811 0),(10,.ak 3 (l4.map b7.lv))] [(104,.box [.nil]),(811,.box [.ak 5 (l5.map aq.lv)])]))) (sN (uO R R R bA cD bB R R (eZ R (s_ (cV R R R bA bB R R R (qb R (bo R (s0 ((Wk.trans (aX [(4,.ptr 104 0),(5,.ak 3 (l4.map b7.lv)),(6,.I 0)] [(104,.box [.ak 5 (l5.map aq.lv)])]) (Wk.trans (Wk.bk 104 [.ak 5 (l5.map aq.lv)] R R R (bO R)) (Wk.eq R R R R)))))))))))))) (LH.ret ?_)))))))))
    obtain rfl:=oI h
    exact aS (aT Tryz.results10) (df R bA cD bB R R (bR R (bR R (bP ⟨aR mN,R,a8 R,(Sub.de (aK (aK (aK bt))))⟩))))
   replace h:=aA h ly
   refine LH.skip (av (LH.aj [(1,.I p1),(4,.ptr 104 0),(9,.ptr 811 0),(10,.arr 162 l4.length),(11,.mp 10301),(13,.ag (ax.lv x7).cells),(14,.I 2),(27,.ak 12 (r1.1.map ax.lv)),(28,.I (r1.1.length:Int)),(29,.I n3)] [(104,.box [.nil]),(162,.arr 84 3 (l4.map b7.lv)),(811,.box [.arr 812 l5.length]),(812,dn (l5.map aq.lv)),(10301,.map 3 78 (dR LV.I bH bn))] R (bo R zS) (LH.seq ?_)))
   by_cases Mc:(x7.Kind == 1)=true
   ·replace h:=aB h Mc
    refine LH.aj [(1,.I p1),(4,.ptr 104 0),(9,.ptr 811 0),(10,.arr 162 l4.length),(11,.mp 10301),(13,.ag (ax.lv x7).cells),(14,.I 2),(15,.fn 57 []),(16,.bool true),(27,.ak 12 (r1.1.map ax.lv)),(28,.I (r1.1.length:Int)),(29,.I n3)] [(104,.box [.nil]),(162,.arr 84 3 (l4.map b7.lv)),(811,.box [.arr 812 l5.length]),(812,dn (l5.map aq.lv)),(10301,.map 3 78 (dR LV.I bH bn))] R (sN (oM (v:=(.mp _)) R (sN (aw e8 aE bb R R R (sN (bf R aE bN (sX ((j3 (f:=LV.I) (g:=bH) (xs:=bn) (key:=1) (z:=0) (o:=some 1) qj p6 CP R R (congrArg LV.I (eq_of_beq Mc)) A8 R).ok) (yH R (sN (iO R R (sN (iO R R (sN (oA (v:=(.fn _ _)) R (cm R zS))))))))))))))) (LH.aj [(1,.I p1),(4,.ptr 104 0),(9,.ptr 811 0),(10,.arr 162 l4.length),(11,.mp 10301),(13,.ag (ax.lv x7).cells),(14,.I 2),(15,.fn 57 []),(27,.ak 12 (r1.1.map ax.lv)),(28,.I (r1.1.length:Int)),(29,.I n3),(45,.bool true)] [(104,.box [.nil]),(162,.arr 84 3 (l4.map b7.lv)),(811,.box [.arr 812 l5.length]),(812,dn (l5.map aq.lv)),(10301,.map 3 78 (dR LV.I bH bn))] R (bI R zS) (LH.cond (t:=true) R (fun gU=>?_) (fun gU=>?_)))
    ·obtain ⟨cJ,lz,h⟩:=al h
     refine LH.aQ [(1,.I p1),(4,.ptr 104 0),(9,.ptr 811 0),(10,.arr 162 l4.length),(11,.mp 10301),(13,.ag (ax.lv x7).cells),(14,.I cJ.1),(27,.ak 12 (r1.1.map ax.lv)),(28,.I (r1.1.length:Int)),(29,.I n3)] [(104,.box [.nil]),(162,.arr 84 3 (l4.map b7.lv)),(811,.box [.arr 812 cJ.2.aa.length]),(812,dn (cJ.2.aa.map aq.lv)),(10301,.map 3 78 (dR LV.I bH bn))] R (sN (oM (v:=(.fn _ _)) R (sN (bh R fx me ew R R (sN (fa (args:=[.ptr 811 0,ax.lv x7]) (ml:=[(811,.box [.arr 812 l5.length]),(812,dn (l5.map aq.lv))]) (dg:=[(811,.box [.arr 812 cJ.2.aa.length]),(812,dn (cJ.2.aa.map aq.lv))]) R Ol R (aK (aK bt)) (PH lz) ⟨R,R,trivial⟩ (b8 R (b8 R cw)) R (bo R zS))))))) (av (LH.aj [(1,.I p1),(4,.ptr 104 0),(9,.ptr 811 0),(10,.arr 162 l4.length),(11,.mp 10301),(13,.ag (ax.lv x7).cells),(14,.I cJ.1),(27,.ak 12 (r1.1.map ax.lv)),(28,.I (r1.1.length:Int)),(29,.I n3),(50,.bool (cJ.1 != 0))] [(104,.box [.nil]),(162,.arr 84 3 (l4.map b7.lv)),(811,.box [.arr 812 cJ.2.aa.length]),(812,dn (cJ.2.aa.map aq.lv)),(10301,.map 3 78 (dR LV.I bH bn))] R (bl R (sN (kg R R zS))) (LH.cond (t:=(cJ.1 != 0)) R (fun gD=>?_) (fun gD=>?_))))
     ·replace h:=aB h gD
      obtain ⟨rL,Ff,h⟩:=al h
      refine LH.aQ [(1,.I p1),(4,.ptr 104 0),(9,.ptr 811 0),(10,.arr 162 rL.length),(11,.mp 10301),(27,.ak 12 (r1.1.map ax.lv)),(28,.I (r1.1.length:Int)),(29,.I n3)] [(104,.box [.nil]),(162,.arr 84 3 (rL.map b7.lv)),(811,.box [.arr 812 cJ.2.aa.length]),(812,dn (cJ.2.aa.map aq.lv)),(10301,.map 3 78 (dR LV.I bH bn))] R (j5 R (sN (aw db b6 bW R R R (sN (aw ek aE bb R R R (sN (bf R aE bN (sN (aw db b6 bW R R R (sN (aw dz aE bb R R R (sN (bf R aE bN (sN (gB (vs:=[(0,.I x7.ar.Source),(1,.I x7.ar.Seq)]) y5 y8 R (lf mJ bb aE R R R (lf mK bb aE R R R gA)) (bl R (sN (gB (vs:=[(0,.agg [.I x7.ar.Source,.I x7.ar.Seq]),(1,.I cJ.1)]) y6 y9 R (lf mL y4 yZ R R R (lf mO y3 yY R R R gA)) (sN (jI (f:=b7.lv) (ys:=[(b7.mk (rO.mk x7.ar.Source x7.ar.Seq) cJ.1)]) mH nG nH R R R b7.ok (sN (my (f:=b7.lv) mH nG nH R R (bO R) R Ff (nE R zS))))))))))))))))))))))) (aY (av (LH.aQ [(1,.I p1),(4,.ptr 104 0),(9,.ptr 811 0),(10,.arr 162 rL.length),(11,.mp 10301),(27,.ak 12 (r1.1.map ax.lv)),(28,.I (r1.1.length:Int)),(29,.I (i64 (n3+1)))] [(104,.box [.nil]),(162,.arr 84 3 (rL.map b7.lv)),(811,.box [.arr 812 cJ.2.aa.length]),(812,dn (cJ.2.aa.map aq.lv)),(10301,.map 3 78 (dR LV.I bH bn))] R (sN (cr R R (bl R zS))) ?_)))
      exact bg ⟨(i64 (n3+1)),rL,cJ.2.aa,ba ▸ h,R,R⟩ (Wk.eq R R R R)
     replace h:=aA h gD
     refine LH.skip (aY (av (LH.aQ [(1,.I p1),(4,.ptr 104 0),(9,.ptr 811 0),(10,.arr 162 l4.length),(11,.mp 10301),(27,.ak 12 (r1.1.map ax.lv)),(28,.I (r1.1.length:Int)),(29,.I (i64 (n3+1)))] [(104,.box [.nil]),(162,.arr 84 3 (l4.map b7.lv)),(811,.box [.arr 812 cJ.2.aa.length]),(812,dn (cJ.2.aa.map aq.lv)),(10301,.map 3 78 (dR LV.I bH bn))] R (sN (cr R R (bl R zS))) ?_)))
     exact bg ⟨(i64 (n3+1)),l4,cJ.2.aa,ba ▸ h,R,R⟩ (Wk.eq R R R R)
    ·cases gU
   replace Mc:=bF Mc
   replace h:=aA h Mc
   by_cases CC:(x7.Kind == 2)=true
   ·replace h:=aB h CC
    refine LH.aj [(1,.I p1),(4,.ptr 104 0),(9,.ptr 811 0),(10,.arr 162 l4.length),(11,.mp 10301),(13,.ag (ax.lv x7).cells),(14,.I 2),(15,.fn 58 []),(16,.bool true),(27,.ak 12 (r1.1.map ax.lv)),(28,.I (r1.1.length:Int)),(29,.I n3)] [(104,.box [.nil]),(162,.arr 84 3 (l4.map b7.lv)),(811,.box [.arr 812 l5.length]),(812,dn (l5.map aq.lv)),(10301,.map 3 78 (dR LV.I bH bn))] R (sN (oM (v:=(.mp _)) R (sN (aw e8 aE bb R R R (sN (bf R aE bN (sX ((j3 (f:=LV.I) (g:=bH) (xs:=bn) (key:=2) (z:=0) (o:=some 2) qj p6 CP R R (congrArg LV.I (eq_of_beq CC)) A8 R).ok) (yH R (sN (iO R R (sN (iO R R (sN (oA (v:=(.fn _ _)) R (cm R zS))))))))))))))) (LH.aj [(1,.I p1),(4,.ptr 104 0),(9,.ptr 811 0),(10,.arr 162 l4.length),(11,.mp 10301),(13,.ag (ax.lv x7).cells),(14,.I 2),(15,.fn 58 []),(27,.ak 12 (r1.1.map ax.lv)),(28,.I (r1.1.length:Int)),(29,.I n3),(45,.bool true)] [(104,.box [.nil]),(162,.arr 84 3 (l4.map b7.lv)),(811,.box [.arr 812 l5.length]),(812,dn (l5.map aq.lv)),(10301,.map 3 78 (dR LV.I bH bn))] R (bI R zS) (LH.cond (t:=true) R (fun ja=>?_) (fun ja=>?_)))
    ·obtain ⟨kq,KB,h⟩:=al h
     refine LH.aQ [(1,.I p1),(4,.ptr 104 0),(9,.ptr 811 0),(10,.arr 162 l4.length),(11,.mp 10301),(13,.ag (ax.lv x7).cells),(14,.I kq.1),(27,.ak 12 (r1.1.map ax.lv)),(28,.I (r1.1.length:Int)),(29,.I n3)] [(104,.box [.nil]),(162,.arr 84 3 (l4.map b7.lv)),(811,.box [.arr 812 kq.2.aa.length]),(812,dn (kq.2.aa.map aq.lv)),(10301,.map 3 78 (dR LV.I bH bn))] R (sN (oM (v:=(.fn _ _)) R (sN (bh R fx me ew R R (sN (fa (args:=[.ptr 811 0,ax.lv x7]) (ml:=[(811,.box [.arr 812 l5.length]),(812,dn (l5.map aq.lv))]) (dg:=[(811,.box [.arr 812 kq.2.aa.length]),(812,dn (kq.2.aa.map aq.lv))]) R Om R (aK (aK bt)) (PD KB) ⟨R,R,trivial⟩ (b8 R (b8 R cw)) R (bo R zS))))))) (av (LH.aj [(1,.I p1),(4,.ptr 104 0),(9,.ptr 811 0),(10,.arr 162 l4.length),(11,.mp 10301),(13,.ag (ax.lv x7).cells),(14,.I kq.1),(27,.ak 12 (r1.1.map ax.lv)),(28,.I (r1.1.length:Int)),(29,.I n3),(50,.bool (kq.1 != 0))] [(104,.box [.nil]),(162,.arr 84 3 (l4.map b7.lv)),(811,.box [.arr 812 kq.2.aa.length]),(812,dn (kq.2.aa.map aq.lv)),(10301,.map 3 78 (dR LV.I bH bn))] R (bl R (sN (kg R R zS))) (LH.cond (t:=(kq.1 != 0)) R (fun lr=>?_) (fun lr=>?_))))
     ·replace h:=aB h lr
      obtain ⟨pP,Fg,h⟩:=al h
      refine LH.aQ [(1,.I p1),(4,.ptr 104 0),(9,.ptr 811 0),(10,.arr 162 pP.length),(11,.mp 10301),(27,.ak 12 (r1.1.map ax.lv)),(28,.I (r1.1.length:Int)),(29,.I n3)] [(104,.box [.nil]),(162,.arr 84 3 (pP.map b7.lv)),(811,.box [.arr 812 kq.2.aa.length]),(812,dn (kq.2.aa.map aq.lv)),(10301,.map 3 78 (dR LV.I bH bn))] R (j5 R (sN (aw db b6 bW R R R (sN (aw ek aE bb R R R (sN (bf R aE bN (sN (aw db b6 bW R R R (sN (aw dz aE bb R R R (sN (bf R aE bN (sN (gB (vs:=[(0,.I x7.ar.Source),(1,.I x7.ar.Seq)]) y5 y8 R (lf mJ bb aE R R R (lf mK bb aE R R R gA)) (bl R (sN (gB (vs:=[(0,.agg [.I x7.ar.Source,.I x7.ar.Seq]),(1,.I kq.1)]) y6 y9 R (lf mL y4 yZ R R R (lf mO y3 yY R R R gA)) (sN (jI (f:=b7.lv) (ys:=[(b7.mk (rO.mk x7.ar.Source x7.ar.Seq) kq.1)]) mH nG nH R R R b7.ok (sN (my (f:=b7.lv) mH nG nH R R (bO R) R Fg (nE R zS))))))))))))))))))))))) (aY (av (LH.aQ [(1,.I p1),(4,.ptr 104 0),(9,.ptr 811 0),(10,.arr 162 pP.length),(11,.mp 10301),(27,.ak 12 (r1.1.map ax.lv)),(28,.I (r1.1.length:Int)),(29,.I (i64 (n3+1)))] [(104,.box [.nil]),(162,.arr 84 3 (pP.map b7.lv)),(811,.box [.arr 812 kq.2.aa.length]),(812,dn (kq.2.aa.map aq.lv)),(10301,.map 3 78 (dR LV.I bH bn))] R (sN (cr R R (bl R zS))) ?_)))
      exact bg ⟨(i64 (n3+1)),pP,kq.2.aa,ba ▸ h,R,R⟩ (Wk.eq R R R R)
     replace h:=aA h lr
     refine LH.skip (aY (av (LH.aQ [(1,.I p1),(4,.ptr 104 0),(9,.ptr 811 0),(10,.arr 162 l4.length),(11,.mp 10301),(27,.ak 12 (r1.1.map ax.lv)),(28,.I (r1.1.length:Int)),(29,.I (i64 (n3+1)))] [(104,.box [.nil]),(162,.arr 84 3 (l4.map b7.lv)),(811,.box [.arr 812 kq.2.aa.length]),(812,dn (kq.2.aa.map aq.lv)),(10301,.map 3 78 (dR LV.I bH bn))] R (sN (cr R R (bl R zS))) ?_)))
     exact bg ⟨(i64 (n3+1)),l4,kq.2.aa,ba ▸ h,R,R⟩ (Wk.eq R R R R)
    ·cases ja
   replace CC:=bF CC
   replace h:=aA h CC
   by_cases CD:(x7.Kind == 3)=true
   ·replace h:=aB h CD
    refine LH.aj [(1,.I p1),(4,.ptr 104 0),(9,.ptr 811 0),(10,.arr 162 l4.length),(11,.mp 10301),(13,.ag (ax.lv x7).cells),(14,.I 2),(15,.fn 59 []),(16,.bool true),(27,.ak 12 (r1.1.map ax.lv)),(28,.I (r1.1.length:Int)),(29,.I n3)] [(104,.box [.nil]),(162,.arr 84 3 (l4.map b7.lv)),(811,.box [.arr 812 l5.length]),(812,dn (l5.map aq.lv)),(10301,.map 3 78 (dR LV.I bH bn))] R (sN (oM (v:=(.mp _)) R (sN (aw e8 aE bb R R R (sN (bf R aE bN (sX ((j3 (f:=LV.I) (g:=bH) (xs:=bn) (key:=3) (z:=0) (o:=some 3) qj p6 CP R R (congrArg LV.I (eq_of_beq CD)) A8 R).ok) (yH R (sN (iO R R (sN (iO R R (sN (oA (v:=(.fn _ _)) R (cm R zS))))))))))))))) (LH.aj [(1,.I p1),(4,.ptr 104 0),(9,.ptr 811 0),(10,.arr 162 l4.length),(11,.mp 10301),(13,.ag (ax.lv x7).cells),(14,.I 2),(15,.fn 59 []),(27,.ak 12 (r1.1.map ax.lv)),(28,.I (r1.1.length:Int)),(29,.I n3),(45,.bool true)] [(104,.box [.nil]),(162,.arr 84 3 (l4.map b7.lv)),(811,.box [.arr 812 l5.length]),(812,dn (l5.map aq.lv)),(10301,.map 3 78 (dR LV.I bH bn))] R (bI R zS) (LH.cond (t:=true) R (fun jb=>?_) (fun jb=>?_)))
    ·obtain ⟨gS,Ak,h⟩:=al h
     refine LH.aQ [(1,.I p1),(4,.ptr 104 0),(9,.ptr 811 0),(10,.arr 162 l4.length),(11,.mp 10301),(13,.ag (ax.lv x7).cells),(14,.I gS.1),(27,.ak 12 (r1.1.map ax.lv)),(28,.I (r1.1.length:Int)),(29,.I n3)] [(104,.box [.nil]),(162,.arr 84 3 (l4.map b7.lv)),(811,.box [.arr 812 gS.2.aa.length]),(812,dn (gS.2.aa.map aq.lv)),(10301,.map 3 78 (dR LV.I bH bn))] R (sN (oM (v:=(.fn _ _)) R (sN (bh R fx me ew R R (sN (fa (args:=[.ptr 811 0,ax.lv x7]) (ml:=[(811,.box [.arr 812 l5.length]),(812,dn (l5.map aq.lv))]) (dg:=[(811,.box [.arr 812 gS.2.aa.length]),(812,dn (gS.2.aa.map aq.lv))]) R On R (aK (aK bt)) (Px Ak) ⟨R,R,trivial⟩ (b8 R (b8 R cw)) R (bo R zS))))))) (av (LH.aj [(1,.I p1),(4,.ptr 104 0),(9,.ptr 811 0),(10,.arr 162 l4.length),(11,.mp 10301),(13,.ag (ax.lv x7).cells),(14,.I gS.1),(27,.ak 12 (r1.1.map ax.lv)),(28,.I (r1.1.length:Int)),(29,.I n3),(50,.bool (gS.1 != 0))] [(104,.box [.nil]),(162,.arr 84 3 (l4.map b7.lv)),(811,.box [.arr 812 gS.2.aa.length]),(812,dn (gS.2.aa.map aq.lv)),(10301,.map 3 78 (dR LV.I bH bn))] R (bl R (sN (kg R R zS))) (LH.cond (t:=(gS.1 != 0)) R (fun lu=>?_) (fun lu=>?_))))
     ·replace h:=aB h lu
      obtain ⟨v23,An,h⟩:=al h
      refine LH.aQ [(1,.I p1),(4,.ptr 104 0),(9,.ptr 811 0),(10,.arr 162 v23.length),(11,.mp 10301),(27,.ak 12 (r1.1.map ax.lv)),(28,.I (r1.1.length:Int)),(29,.I n3)] [(104,.box [.nil]),(162,.arr 84 3 (v23.map b7.lv)),(811,.box [.arr 812 gS.2.aa.length]),(812,dn (gS.2.aa.map aq.lv)),(10301,.map 3 78 (dR LV.I bH bn))] R (j5 R (sN (aw db b6 bW R R R (sN (aw ek aE bb R R R (sN (bf R aE bN (sN (aw db b6 bW R R R (sN (aw dz aE bb R R R (sN (bf R aE bN (sN (gB (vs:=[(0,.I x7.ar.Source),(1,.I x7.ar.Seq)]) y5 y8 R (lf mJ bb aE R R R (lf mK bb aE R R R gA)) (bl R (sN (gB (vs:=[(0,.agg [.I x7.ar.Source,.I x7.ar.Seq]),(1,.I gS.1)]) y6 y9 R (lf mL y4 yZ R R R (lf mO y3 yY R R R gA)) (sN (jI (f:=b7.lv) (ys:=[(b7.mk (rO.mk x7.ar.Source x7.ar.Seq) gS.1)]) mH nG nH R R R b7.ok (sN (my (f:=b7.lv) mH nG nH R R (bO R) R An (nE R zS))))))))))))))))))))))) (aY (av (LH.aQ [(1,.I p1),(4,.ptr 104 0),(9,.ptr 811 0),(10,.arr 162 v23.length),(11,.mp 10301),(27,.ak 12 (r1.1.map ax.lv)),(28,.I (r1.1.length:Int)),(29,.I (i64 (n3+1)))] [(104,.box [.nil]),(162,.arr 84 3 (v23.map b7.lv)),(811,.box [.arr 812 gS.2.aa.length]),(812,dn (gS.2.aa.map aq.lv)),(10301,.map 3 78 (dR LV.I bH bn))] R (sN (cr R R (bl R zS))) ?_)))
      exact bg ⟨(i64 (n3+1)),v23,gS.2.aa,ba ▸ h,R,R⟩ (Wk.eq R R R R)
     replace h:=aA h lu
     refine LH.skip (aY (av (LH.aQ [(1,.I p1),(4,.ptr 104 0),(9,.ptr 811 0),(10,.arr 162 l4.length),(11,.mp 10301),(27,.ak 12 (r1.1.map ax.lv)),(28,.I (r1.1.length:Int)),(29,.I (i64 (n3+1)))] [(104,.box [.nil]),(162,.arr 84 3 (l4.map b7.lv)),(811,.box [.arr 812 gS.2.aa.length]),(812,dn (gS.2.aa.map aq.lv)),(10301,.map 3 78 (dR LV.I bH bn))] R (sN (cr R R (bl R zS))) ?_)))
     exact bg ⟨(i64 (n3+1)),l4,gS.2.aa,ba ▸ h,R,R⟩ (Wk.eq R R R R)
    ·cases jb
   replace CD:=bF CD
   replace h:=aA h CD
   by_cases CE:(x7.Kind == 4)=true
   ·replace h:=aB h CE
    refine LH.aj [(1,.I p1),(4,.ptr 104 0),(9,.ptr 811 0),(10,.arr 162 l4.length),(11,.mp 10301),(13,.ag (ax.lv x7).cells),(14,.I 2),(15,.fn 60 []),(16,.bool true),(27,.ak 12 (r1.1.map ax.lv)),(28,.I (r1.1.length:Int)),(29,.I n3)] [(104,.box [.nil]),(162,.arr 84 3 (l4.map b7.lv)),(811,.box [.arr 812 l5.length]),(812,dn (l5.map aq.lv)),(10301,.map 3 78 (dR LV.I bH bn))] R (sN (oM (v:=(.mp _)) R (sN (aw e8 aE bb R R R (sN (bf R aE bN (sX ((j3 (f:=LV.I) (g:=bH) (xs:=bn) (key:=4) (z:=0) (o:=some 4) qj p6 CP R R (congrArg LV.I (eq_of_beq CE)) A8 R).ok) (yH R (sN (iO R R (sN (iO R R (sN (oA (v:=(.fn _ _)) R (cm R zS))))))))))))))) (LH.aj [(1,.I p1),(4,.ptr 104 0),(9,.ptr 811 0),(10,.arr 162 l4.length),(11,.mp 10301),(13,.ag (ax.lv x7).cells),(14,.I 2),(15,.fn 60 []),(27,.ak 12 (r1.1.map ax.lv)),(28,.I (r1.1.length:Int)),(29,.I n3),(45,.bool true)] [(104,.box [.nil]),(162,.arr 84 3 (l4.map b7.lv)),(811,.box [.arr 812 l5.length]),(812,dn (l5.map aq.lv)),(10301,.map 3 78 (dR LV.I bH bn))] R (bI R zS) (LH.cond (t:=true) R (fun Cs=>?_) (fun Cs=>?_)))
    ·obtain ⟨pH,KG,h⟩:=al h
     refine LH.aQ [(1,.I p1),(4,.ptr 104 0),(9,.ptr 811 0),(10,.arr 162 l4.length),(11,.mp 10301),(13,.ag (ax.lv x7).cells),(14,.I pH.1),(27,.ak 12 (r1.1.map ax.lv)),(28,.I (r1.1.length:Int)),(29,.I n3)] [(104,.box [.nil]),(162,.arr 84 3 (l4.map b7.lv)),(811,.box [.arr 812 pH.2.aa.length]),(812,dn (pH.2.aa.map aq.lv)),(10301,.map 3 78 (dR LV.I bH bn))] R (sN (oM (v:=(.fn _ _)) R (sN (bh R fx me ew R R (sN (fa (args:=[.ptr 811 0,ax.lv x7]) (ml:=[(811,.box [.arr 812 l5.length]),(812,dn (l5.map aq.lv))]) (dg:=[(811,.box [.arr 812 pH.2.aa.length]),(812,dn (pH.2.aa.map aq.lv))]) R Oo R (aK (aK bt)) (PS KG) ⟨R,R,trivial⟩ (b8 R (b8 R cw)) R (bo R zS))))))) (av (LH.aj [(1,.I p1),(4,.ptr 104 0),(9,.ptr 811 0),(10,.arr 162 l4.length),(11,.mp 10301),(13,.ag (ax.lv x7).cells),(14,.I pH.1),(27,.ak 12 (r1.1.map ax.lv)),(28,.I (r1.1.length:Int)),(29,.I n3),(50,.bool (pH.1 != 0))] [(104,.box [.nil]),(162,.arr 84 3 (l4.map b7.lv)),(811,.box [.arr 812 pH.2.aa.length]),(812,dn (pH.2.aa.map aq.lv)),(10301,.map 3 78 (dR LV.I bH bn))] R (bl R (sN (kg R R zS))) (LH.cond (t:=(pH.1 != 0)) R (fun zW=>?_) (fun zW=>?_))))
     ·replace h:=aB h zW
      obtain ⟨v28,Sy,h⟩:=al h
      refine LH.aQ [(1,.I p1),(4,.ptr 104 0),(9,.ptr 811 0),(10,.arr 162 v28.length),(11,.mp 10301),(27,.ak 12 (r1.1.map ax.lv)),(28,.I (r1.1.length:Int)),(29,.I n3)] [(104,.box [.nil]),(162,.arr 84 3 (v28.map b7.lv)),(811,.box [.arr 812 pH.2.aa.length]),(812,dn (pH.2.aa.map aq.lv)),(10301,.map 3 78 (dR LV.I bH bn))] R (j5 R (sN (aw db b6 bW R R R (sN (aw ek aE bb R R R (sN (bf R aE bN (sN (aw db b6 bW R R R (sN (aw dz aE bb R R R (sN (bf R aE bN (sN (gB (vs:=[(0,.I x7.ar.Source),(1,.I x7.ar.Seq)]) y5 y8 R (lf mJ bb aE R R R (lf mK bb aE R R R gA)) (bl R (sN (gB (vs:=[(0,.agg [.I x7.ar.Source,.I x7.ar.Seq]),(1,.I pH.1)]) y6 y9 R (lf mL y4 yZ R R R (lf mO y3 yY R R R gA)) (sN (jI (f:=b7.lv) (ys:=[(b7.mk (rO.mk x7.ar.Source x7.ar.Seq) pH.1)]) mH nG nH R R R b7.ok (sN (my (f:=b7.lv) mH nG nH R R (bO R) R Sy (nE R zS))))))))))))))))))))))) (aY (av (LH.aQ [(1,.I p1),(4,.ptr 104 0),(9,.ptr 811 0),(10,.arr 162 v28.length),(11,.mp 10301),(27,.ak 12 (r1.1.map ax.lv)),(28,.I (r1.1.length:Int)),(29,.I (i64 (n3+1)))] [(104,.box [.nil]),(162,.arr 84 3 (v28.map b7.lv)),(811,.box [.arr 812 pH.2.aa.length]),(812,dn (pH.2.aa.map aq.lv)),(10301,.map 3 78 (dR LV.I bH bn))] R (sN (cr R R (bl R zS))) ?_)))
      exact bg ⟨(i64 (n3+1)),v28,pH.2.aa,ba ▸ h,R,R⟩ (Wk.eq R R R R)
     replace h:=aA h zW
     refine LH.skip (aY (av (LH.aQ [(1,.I p1),(4,.ptr 104 0),(9,.ptr 811 0),(10,.arr 162 l4.length),(11,.mp 10301),(27,.ak 12 (r1.1.map ax.lv)),(28,.I (r1.1.length:Int)),(29,.I (i64 (n3+1)))] [(104,.box [.nil]),(162,.arr 84 3 (l4.map b7.lv)),(811,.box [.arr 812 pH.2.aa.length]),(812,dn (pH.2.aa.map aq.lv)),(10301,.map 3 78 (dR LV.I bH bn))] R (sN (cr R R (bl R zS))) ?_)))
     exact bg ⟨(i64 (n3+1)),l4,pH.2.aa,ba ▸ h,R,R⟩ (Wk.eq R R R R)
    ·cases Cs
   replace CE:=bF CE
   replace h:=aA h CE
   by_cases CF:(x7.Kind == 5)=true
   ·replace h:=aB h CF
    refine LH.aj [(1,.I p1),(4,.ptr 104 0),(9,.ptr 811 0),(10,.arr 162 l4.length),(11,.mp 10301),(13,.ag (ax.lv x7).cells),(14,.I 2),(15,.fn 81 [.ag [.bool true]]),(16,.bool true),(27,.ak 12 (r1.1.map ax.lv)),(28,.I (r1.1.length:Int)),(29,.I n3)] [(104,.box [.nil]),(162,.arr 84 3 (l4.map b7.lv)),(811,.box [.arr 812 l5.length]),(812,dn (l5.map aq.lv)),(10301,.map 3 78 (dR LV.I bH bn))] R (sN (oM (v:=(.mp _)) R (sN (aw e8 aE bb R R R (sN (bf R aE bN (sX ((j3 (f:=LV.I) (g:=bH) (xs:=bn) (key:=5) (z:=0) (o:=some 5) qj p6 CP R R (congrArg LV.I (eq_of_beq CF)) A8 R).ok) (yH R (sN (iO R R (sN (iO R R (sN (oA (v:=(.fn _ _)) R (cm R zS))))))))))))))) (LH.aj [(1,.I p1),(4,.ptr 104 0),(9,.ptr 811 0),(10,.arr 162 l4.length),(11,.mp 10301),(13,.ag (ax.lv x7).cells),(14,.I 2),(15,.fn 81 [.ag [.bool true]]),(27,.ak 12 (r1.1.map ax.lv)),(28,.I (r1.1.length:Int)),(29,.I n3),(45,.bool true)] [(104,.box [.nil]),(162,.arr 84 3 (l4.map b7.lv)),(811,.box [.arr 812 l5.length]),(812,dn (l5.map aq.lv)),(10301,.map 3 78 (dR LV.I bH bn))] R (bI R zS) (LH.cond (t:=true) R (fun pf=>?_) (fun pf=>?_)))
    ·obtain ⟨da,E5,h⟩:=al h
     refine LH.aQ [(1,.I p1),(4,.ptr 104 0),(9,.ptr 811 0),(10,.arr 162 l4.length),(11,.mp 10301),(13,.ag (ax.lv x7).cells),(14,.I da.1),(27,.ak 12 (r1.1.map ax.lv)),(28,.I (r1.1.length:Int)),(29,.I n3)] [(104,.box [.nil]),(162,.arr 84 3 (l4.map b7.lv)),(811,.box [.arr 812 da.2.aa.length]),(812,dn (da.2.aa.map aq.lv)),(10301,.map 3 78 (dR LV.I bH bn))] R (sN (oM (v:=(.fn _ _)) R (sN (bh R fx me ew R R (sN (fa (args:=[.ptr 811 0,ax.lv x7,.ag [.bool true]]) (ml:=[(811,.box [.arr 812 l5.length]),(812,dn (l5.map aq.lv))]) (dg:=[(811,.box [.arr 812 da.2.aa.length]),(812,dn (da.2.aa.map aq.lv))]) R I9 R (aK (aK (aK bt))) (Jm E5) ⟨R,R,trivial⟩ (b8 R (b8 R cw)) R (bo R zS))))))) (av (LH.aj [(1,.I p1),(4,.ptr 104 0),(9,.ptr 811 0),(10,.arr 162 l4.length),(11,.mp 10301),(13,.ag (ax.lv x7).cells),(14,.I da.1),(27,.ak 12 (r1.1.map ax.lv)),(28,.I (r1.1.length:Int)),(29,.I n3),(50,.bool (da.1 != 0))] [(104,.box [.nil]),(162,.arr 84 3 (l4.map b7.lv)),(811,.box [.arr 812 da.2.aa.length]),(812,dn (da.2.aa.map aq.lv)),(10301,.map 3 78 (dR LV.I bH bn))] R (bl R (sN (kg R R zS))) (LH.cond (t:=(da.1 != 0)) R (fun zY=>?_) (fun zY=>?_))))
     ·replace h:=aB h zY
      obtain ⟨v33,SA,h⟩:=al h
      refine LH.aQ [(1,.I p1),(4,.ptr 104 0),(9,.ptr 811 0),(10,.arr 162 v33.length),(11,.mp 10301),(27,.ak 12 (r1.1.map ax.lv)),(28,.I (r1.1.length:Int)),(29,.I n3)] [(104,.box [.nil]),(162,.arr 84 3 (v33.map b7.lv)),(811,.box [.arr 812 da.2.aa.length]),(812,dn (da.2.aa.map aq.lv)),(10301,.map 3 78 (dR LV.I bH bn))] R (j5 R (sN (aw db b6 bW R R R (sN (aw ek aE bb R R R (sN (bf R aE bN (sN (aw db b6 bW R R R (sN (aw dz aE bb R R R (sN (bf R aE bN (sN (gB (vs:=[(0,.I x7.ar.Source),(1,.I x7.ar.Seq)]) y5 y8 R (lf mJ bb aE R R R (lf mK bb aE R R R gA)) (bl R (sN (gB (vs:=[(0,.agg [.I x7.ar.Source,.I x7.ar.Seq]),(1,.I da.1)]) y6 y9 R (lf mL y4 yZ R R R (lf mO y3 yY R R R gA)) (sN (jI (f:=b7.lv) (ys:=[(b7.mk (rO.mk x7.ar.Source x7.ar.Seq) da.1)]) mH nG nH R R R b7.ok (sN (my (f:=b7.lv) mH nG nH R R (bO R) R SA (nE R zS))))))))))))))))))))))) (aY (av (LH.aQ [(1,.I p1),(4,.ptr 104 0),(9,.ptr 811 0),(10,.arr 162 v33.length),(11,.mp 10301),(27,.ak 12 (r1.1.map ax.lv)),(28,.I (r1.1.length:Int)),(29,.I (i64 (n3+1)))] [(104,.box [.nil]),(162,.arr 84 3 (v33.map b7.lv)),(811,.box [.arr 812 da.2.aa.length]),(812,dn (da.2.aa.map aq.lv)),(10301,.map 3 78 (dR LV.I bH bn))] R (sN (cr R R (bl R zS))) ?_)))
      exact bg ⟨(i64 (n3+1)),v33,da.2.aa,ba ▸ h,R,R⟩ (Wk.eq R R R R)
     replace h:=aA h zY
     refine LH.skip (aY (av (LH.aQ [(1,.I p1),(4,.ptr 104 0),(9,.ptr 811 0),(10,.arr 162 l4.length),(11,.mp 10301),(27,.ak 12 (r1.1.map ax.lv)),(28,.I (r1.1.length:Int)),(29,.I (i64 (n3+1)))] [(104,.box [.nil]),(162,.arr 84 3 (l4.map b7.lv)),(811,.box [.arr 812 da.2.aa.length]),(812,dn (da.2.aa.map aq.lv)),(10301,.map 3 78 (dR LV.I bH bn))] R (sN (cr R R (bl R zS))) ?_)))
     exact bg ⟨(i64 (n3+1)),l4,da.2.aa,ba ▸ h,R,R⟩ (Wk.eq R R R R)
    ·cases pf
   replace CF:=bF CF
   replace h:=aA h CF
   by_cases CG:(x7.Kind == 6)=true
   ·replace h:=aB h CG
    refine LH.aj [(1,.I p1),(4,.ptr 104 0),(9,.ptr 811 0),(10,.arr 162 l4.length),(11,.mp 10301),(13,.ag (ax.lv x7).cells),(14,.I 2),(15,.fn 81 [.ag [.bool false]]),(16,.bool true),(27,.ak 12 (r1.1.map ax.lv)),(28,.I (r1.1.length:Int)),(29,.I n3)] [(104,.box [.nil]),(162,.arr 84 3 (l4.map b7.lv)),(811,.box [.arr 812 l5.length]),(812,dn (l5.map aq.lv)),(10301,.map 3 78 (dR LV.I bH bn))] R (sN (oM (v:=(.mp _)) R (sN (aw e8 aE bb R R R (sN (bf R aE bN (sX ((j3 (f:=LV.I) (g:=bH) (xs:=bn) (key:=6) (z:=0) (o:=some 6) qj p6 CP R R (congrArg LV.I (eq_of_beq CG)) A8 R).ok) (yH R (sN (iO R R (sN (iO R R (sN (oA (v:=(.fn _ _)) R (cm R zS))))))))))))))) (LH.aj [(1,.I p1),(4,.ptr 104 0),(9,.ptr 811 0),(10,.arr 162 l4.length),(11,.mp 10301),(13,.ag (ax.lv x7).cells),(14,.I 2),(15,.fn 81 [.ag [.bool false]]),(27,.ak 12 (r1.1.map ax.lv)),(28,.I (r1.1.length:Int)),(29,.I n3),(45,.bool true)] [(104,.box [.nil]),(162,.arr 84 3 (l4.map b7.lv)),(811,.box [.arr 812 l5.length]),(812,dn (l5.map aq.lv)),(10301,.map 3 78 (dR LV.I bH bn))] R (bI R zS) (LH.cond (t:=true) R (fun Ct=>?_) (fun Ct=>?_)))
    ·obtain ⟨rn,R6,h⟩:=al h
     refine LH.aQ [(1,.I p1),(4,.ptr 104 0),(9,.ptr 811 0),(10,.arr 162 l4.length),(11,.mp 10301),(13,.ag (ax.lv x7).cells),(14,.I rn.1),(27,.ak 12 (r1.1.map ax.lv)),(28,.I (r1.1.length:Int)),(29,.I n3)] [(104,.box [.nil]),(162,.arr 84 3 (l4.map b7.lv)),(811,.box [.arr 812 rn.2.aa.length]),(812,dn (rn.2.aa.map aq.lv)),(10301,.map 3 78 (dR LV.I bH bn))] R (sN (oM (v:=(.fn _ _)) R (sN (bh R fx me ew R R (sN (fa (args:=[.ptr 811 0,ax.lv x7,.ag [.bool false]]) (ml:=[(811,.box [.arr 812 l5.length]),(812,dn (l5.map aq.lv))]) (dg:=[(811,.box [.arr 812 rn.2.aa.length]),(812,dn (rn.2.aa.map aq.lv))]) R I9 R (aK (aK (aK bt))) (Jm R6) ⟨R,R,trivial⟩ (b8 R (b8 R cw)) R (bo R zS))))))) (av (LH.aj [(1,.I p1),(4,.ptr 104 0),(9,.ptr 811 0),(10,.arr 162 l4.length),(11,.mp 10301),(13,.ag (ax.lv x7).cells),(14,.I rn.1),(27,.ak 12 (r1.1.map ax.lv)),(28,.I (r1.1.length:Int)),(29,.I n3),(50,.bool (rn.1 != 0))] [(104,.box [.nil]),(162,.arr 84 3 (l4.map b7.lv)),(811,.box [.arr 812 rn.2.aa.length]),(812,dn (rn.2.aa.map aq.lv)),(10301,.map 3 78 (dR LV.I bH bn))] R (bl R (sN (kg R R zS))) (LH.cond (t:=(rn.1 != 0)) R (fun J3=>?_) (fun J3=>?_))))
     ·replace h:=aB h J3
      obtain ⟨LR,SC,h⟩:=al h
      refine LH.aQ [(1,.I p1),(4,.ptr 104 0),(9,.ptr 811 0),(10,.arr 162 LR.length),(11,.mp 10301),(27,.ak 12 (r1.1.map ax.lv)),(28,.I (r1.1.length:Int)),(29,.I n3)] [(104,.box [.nil]),(162,.arr 84 3 (LR.map b7.lv)),(811,.box [.arr 812 rn.2.aa.length]),(812,dn (rn.2.aa.map aq.lv)),(10301,.map 3 78 (dR LV.I bH bn))] R (j5 R (sN (aw db b6 bW R R R (sN (aw ek aE bb R R R (sN (bf R aE bN (sN (aw db b6 bW R R R (sN (aw dz aE bb R R R (sN (bf R aE bN (sN (gB (vs:=[(0,.I x7.ar.Source),(1,.I x7.ar.Seq)]) y5 y8 R (lf mJ bb aE R R R (lf mK bb aE R R R gA)) (bl R (sN (gB (vs:=[(0,.agg [.I x7.ar.Source,.I x7.ar.Seq]),(1,.I rn.1)]) y6 y9 R (lf mL y4 yZ R R R (lf mO y3 yY R R R gA)) (sN (jI (f:=b7.lv) (ys:=[(b7.mk (rO.mk x7.ar.Source x7.ar.Seq) rn.1)]) mH nG nH R R R b7.ok (sN (my (f:=b7.lv) mH nG nH R R (bO R) R SC (nE R zS))))))))))))))))))))))) (aY (av (LH.aQ [(1,.I p1),(4,.ptr 104 0),(9,.ptr 811 0),(10,.arr 162 LR.length),(11,.mp 10301),(27,.ak 12 (r1.1.map ax.lv)),(28,.I (r1.1.length:Int)),(29,.I (i64 (n3+1)))] [(104,.box [.nil]),(162,.arr 84 3 (LR.map b7.lv)),(811,.box [.arr 812 rn.2.aa.length]),(812,dn (rn.2.aa.map aq.lv)),(10301,.map 3 78 (dR LV.I bH bn))] R (sN (cr R R (bl R zS))) ?_)))
      exact bg ⟨(i64 (n3+1)),LR,rn.2.aa,ba ▸ h,R,R⟩ (Wk.eq R R R R)
     replace h:=aA h J3
     refine LH.skip (aY (av (LH.aQ [(1,.I p1),(4,.ptr 104 0),(9,.ptr 811 0),(10,.arr 162 l4.length),(11,.mp 10301),(27,.ak 12 (r1.1.map ax.lv)),(28,.I (r1.1.length:Int)),(29,.I (i64 (n3+1)))] [(104,.box [.nil]),(162,.arr 84 3 (l4.map b7.lv)),(811,.box [.arr 812 rn.2.aa.length]),(812,dn (rn.2.aa.map aq.lv)),(10301,.map 3 78 (dR LV.I bH bn))] R (sN (cr R R (bl R zS))) ?_)))
     exact bg ⟨(i64 (n3+1)),l4,rn.2.aa,ba ▸ h,R,R⟩ (Wk.eq R R R R)
    ·cases Ct
   replace CG:=bF CG
   replace h:=aA h CG
   refine LH.aj [(1,.I p1),(4,.ptr 104 0),(9,.ptr 811 0),(10,.arr 162 l4.length),(11,.mp 10301),(13,.ag (ax.lv x7).cells),(14,.I 2),(15,.lZ),(16,.bool false),(27,.ak 12 (r1.1.map ax.lv)),(28,.I (r1.1.length:Int)),(29,.I n3)] [(104,.box [.nil]),(162,.arr 84 3 (l4.map b7.lv)),(811,.box [.arr 812 l5.length]),(812,dn (l5.map aq.lv)),(10301,.map 3 78 (dR LV.I bH bn))] R (sN (oM (v:=(.mp _)) R (sN (aw e8 aE bb R R R (sN (bf R aE bN (sX ((j3 (f:=LV.I) (g:=bH) (xs:=bn) (key:=x7.Kind) (z:=0) (o:=none) qj p6 CP R R R A8 (Ml Mc (Ml CC (Ml CD (Ml CE (Ml CF (Ml CG R))))))).ok) (yH R (sN (iO R R (sN (iO R R (sN (oA (v:=.lZ) R (cm R zS))))))))))))))) (LH.aj [(1,.I p1),(4,.ptr 104 0),(9,.ptr 811 0),(10,.arr 162 l4.length),(11,.mp 10301),(13,.ag (ax.lv x7).cells),(14,.I 2),(15,.lZ),(27,.ak 12 (r1.1.map ax.lv)),(28,.I (r1.1.length:Int)),(29,.I n3),(45,.bool false)] [(104,.box [.nil]),(162,.arr 84 3 (l4.map b7.lv)),(811,.box [.arr 812 l5.length]),(812,dn (l5.map aq.lv)),(10301,.map 3 78 (dR LV.I bH bn))] R (bI R zS) (LH.cond (t:=false) R (fun Cu=>?_) (fun Cu=>?_)))
   ·cases Cu
   refine LH.skip (av (LH.aj [(1,.I p1),(4,.ptr 104 0),(9,.ptr 811 0),(10,.arr 162 l4.length),(11,.mp 10301),(13,.ag (ax.lv x7).cells),(14,.I 2),(27,.ak 12 (r1.1.map ax.lv)),(28,.I (r1.1.length:Int)),(29,.I n3),(50,.bool (2 != 0))] [(104,.box [.nil]),(162,.arr 84 3 (l4.map b7.lv)),(811,.box [.arr 812 l5.length]),(812,dn (l5.map aq.lv)),(10301,.map 3 78 (dR LV.I bH bn))] R (bl R (sN (kg R R zS))) (LH.cond (t:=(2 != 0)) R (fun z1=>?_) (fun z1=>?_))))
   ·replace h:=aB h z1
    obtain ⟨v41,KW,h⟩:=al h
    refine LH.aQ [(1,.I p1),(4,.ptr 104 0),(9,.ptr 811 0),(10,.arr 162 v41.length),(11,.mp 10301),(27,.ak 12 (r1.1.map ax.lv)),(28,.I (r1.1.length:Int)),(29,.I n3)] [(104,.box [.nil]),(162,.arr 84 3 (v41.map b7.lv)),(811,.box [.arr 812 l5.length]),(812,dn (l5.map aq.lv)),(10301,.map 3 78 (dR LV.I bH bn))] R (j5 R (sN (aw db b6 bW R R R (sN (aw ek aE bb R R R (sN (bf R aE bN (sN (aw db b6 bW R R R (sN (aw dz aE bb R R R (sN (bf R aE bN (sN (gB (vs:=[(0,.I x7.ar.Source),(1,.I x7.ar.Seq)]) y5 y8 R (lf mJ bb aE R R R (lf mK bb aE R R R gA)) (bl R (sN (gB (vs:=[(0,.agg [.I x7.ar.Source,.I x7.ar.Seq]),(1,.I 2)]) y6 y9 R (lf mL y4 yZ R R R (lf mO y3 yY R R R gA)) (sN (jI (f:=b7.lv) (ys:=[(b7.mk (rO.mk x7.ar.Source x7.ar.Seq) 2)]) mH nG nH R R R b7.ok (sN (my (f:=b7.lv) mH nG nH R R (bO R) R KW (nE R zS))))))))))))))))))))))) (aY (av (LH.aQ [(1,.I p1),(4,.ptr 104 0),(9,.ptr 811 0),(10,.arr 162 v41.length),(11,.mp 10301),(27,.ak 12 (r1.1.map ax.lv)),(28,.I (r1.1.length:Int)),(29,.I (i64 (n3+1)))] [(104,.box [.nil]),(162,.arr 84 3 (v41.map b7.lv)),(811,.box [.arr 812 l5.length]),(812,dn (l5.map aq.lv)),(10301,.map 3 78 (dR LV.I bH bn))] R (sN (cr R R (bl R zS))) ?_)))
    exact bg ⟨(i64 (n3+1)),v41,l5,ba ▸ h,R,R⟩ (Wk.eq R R R R)
   replace h:=aA h z1
   refine LH.skip (aY (av (LH.aQ [(1,.I p1),(4,.ptr 104 0),(9,.ptr 811 0),(10,.arr 162 l4.length),(11,.mp 10301),(27,.ak 12 (r1.1.map ax.lv)),(28,.I (r1.1.length:Int)),(29,.I (i64 (n3+1)))] [(104,.box [.nil]),(162,.arr 84 3 (l4.map b7.lv)),(811,.box [.arr 812 l5.length]),(812,dn (l5.map aq.lv)),(10301,.map 3 78 (dR LV.I bH bn))] R (sN (cr R R (bl R zS))) ?_)))
   exact bg ⟨(i64 (n3+1)),l4,l5,ba ▸ h,R,R⟩ (Wk.eq R R R R)
  replace h:=aA h gb
  refine LH.exit (cv (bY (bM (av (LH.wk ((Wk.trans (aX [(4,.ptr 104 0),(9,.ptr 811 0),(10,.arr 162 l4.length)] [(104,.box [.nil]),(162,.arr 84 3 (l4.map b7.lv)),(811,.box [.arr 812 l5.length]),(812,dn (l5.map aq.lv))]) (Wk.trans (Wk.kL (f:=b7.lv) (fk:=[(4,.ptr 104 0),(9,.ptr 811 0),(10,.ak 3 (l4.map b7.lv))]) 162 84 3 l4 R R (bO R) (fK R (fK R (fZ fN)))) (aX [(4,.ptr 104 0),(9,.ptr 811 0),(10,.ak 3 (l4.map b7.lv))] [(104,.box [.nil]),(811,.box [.arr 812 l5.length]),(812,dn (l5.map aq.lv))])))) (LH.aj [(4,.ag [.ak 5 (l5.map aq.lv)]),(5,.ak 3 (l4.map b7.lv)),(6,.I 0)] [] R (cS.wk (aX [(4,.ptr 104 0),(9,.ptr 811 0),(10,.ak 3 (l4.map b7.lv))] [(104,.box [.nil]),(811,.box [.arr 812 l5.length]),(812,dn (l5.map aq.lv))]) (cS.wk (Wk.trans (Wk.trans (Wk.GW (f:=aq.lv) 812 49 5 [(1,54,5),(2,4,1),(3,88,3)] l5 R aq.ok) (aX [(4,.ptr 104 0),(9,.ptr 811 0),(10,.ak 3 (l4.map b7.lv))] [(104,.box [.nil]),(811,.box [.arr 812 l5.length]),(812,.arr 49 5 (l5.map aq.lv))])) (Wk.trans (Wk.gO (f:=aq.lv) 812 49 5 l5 811 R R R (k5 kZ) R R (bO R)) (aX [(4,.ptr 104 0),(9,.ptr 811 0),(10,.ak 3 (l4.map b7.lv))] [(104,.box [.nil]),(811,.box [.ak 5 (l5.map aq.lv)])]))) (sN (uO R R R bA cD bB R R (eZ R (s_ (cV R R R bA bB R R R (qb R (bo R (s0 ((Wk.trans (aX [(4,.ptr 104 0),(5,.ak 3 (l4.map b7.lv)),(6,.I 0)] [(104,.box [.ak 5 (l5.map aq.lv)])]) (Wk.trans (Wk.bk 104 [.ak 5 (l5.map aq.lv)] R R R (bO R)) (Wk.eq R R R R)))))))))))))) (LH.ret ?_)))))))
  obtain rfl:=oI h
  exact aS (aT Tryz.results10) (df R bA cD bB R R (bR R (bR R (bP ⟨aR mN,R,a8 R,(Sub.de (aK (aK (aK bt))))⟩))))
theorem Pp {F:Nat} {p0:ai} {p1:ai} {r:List Int} (h:BX F p0 p1=some r):aP Tryz.prog 42 [ai.lv p0,ai.lv p1] (Mem.of []) (.L r) (Mem.of []):=by
  unfold BX at h
  refine bu Tryz.func42 R (nT Tryz.ntmps42 R) (LH.wk (aX [(0,ai.lv p0),(1,ai.lv p1)] []) (LH.aj [(2,.ag (ai.lv p0).cells),(3,.ag (ai.lv p1).cells)] [] R (sB (dp R R R R (sB (dp R R R R (kh R zS))))) (LH.aj [(2,.ag (ai.lv p0).cells),(3,.ag (ai.lv p1).cells),(5,.nil)] [] R (kh R zS) (LH.seq (LH.aj [(2,.ag (ai.lv p0).cells),(3,.ag (ai.lv p1).cells),(5,.nil),(6,.I 0)] [] R (bo R zS) (LH.block (LH.wk ((Wk.trans (aX [(2,.ag (ai.lv p0).cells),(3,.ag (ai.lv p1).cells),(5,.nil),(6,.I 0)] []) (Wk.trans (aX [(2,.ag (ai.lv p0).cells),(3,.ag (ai.lv p1).cells),(5,.nil),(6,.I 0)] []) (Wk.trans (Wk.rl (fk:=[(2,.ag (ai.lv p0).cells),(3,.ag (ai.lv p1).cells),(5,.arr 146 (List.length ([]:List Int))),(6,.I 0)]) 146 3 1 R R (wK (wK (wO (wK wN))))) (aX [(2,.ag (ai.lv p0).cells),(3,.ag (ai.lv p1).cells),(5,.arr 146 (List.length ([]:List Int))),(6,.I 0)] [(146,.arr 3 1 (List.map LV.I ([]:List Int)))]))))) (LH.loop (fun n e m=>∃ (n1:Int) (l2:List Int),AK p0 p1 n n1 l2=some r∧e=Env.of [(2,.ag (ai.lv p0).cells),(3,.ag (ai.lv p1).cells),(5,.arr 146 l2.length),(6,.I n1)]∧m=Mem.of [(146,.arr 3 1 (l2.map LV.I))]) F ⟨0,([]:List Int),h,R,R⟩ ?_))))))))
  clear h
  rintro n e m ⟨n1,l2,h,rfl,rfl⟩
  rcases n with _ | n
  · cases (show Option.none=some _ from h)
  obtain ⟨aH,ba⟩:∃ f,f=AK p0 p1 n:=⟨_,rfl⟩
  replace h:Gp p0 p1 aH n1 l2=some r:=ba ▸ h
  unfold Gp at h
  refine LH.seq (LH.aj [(2,.ag (ai.lv p0).cells),(3,.ag (ai.lv p1).cells),(5,.arr 146 l2.length),(6,.I n1),(15,.bool (decide (n1<(max (p0.aI.length:Int) (p1.aI.length:Int)))))] [(146,.arr 3 1 (l2.map LV.I))] R (bl R (sN (aw cX cY fy R R R (sN (bf R cY iL (sN (bX (f:=ao.lv) gj R (sN (aw cX cY fy R R R (sN (bf R cY iL (sN (bX (f:=ao.lv) gj R (sX ((FQ R R).ok) (sN (fi R R zS)))))))))))))))) (LH.cond (t:=(decide (n1<(max (p0.aI.length:Int) (p1.aI.length:Int))))) R (fun iC=>?_) (fun iC=>?_)))
  ·replace h:=aB h iC
   refine LH.skip (av (LH.wk (aX [(2,.ag (ai.lv p0).cells),(3,.ag (ai.lv p1).cells),(5,.arr 146 l2.length),(6,.I n1)] [(146,.arr 3 1 (l2.map LV.I))]) (LH.seq (LH.block ?_))))
   obtain ⟨w5,hv,h⟩:=al h
   refine LH.c7 mixed [] [0,0,0,0,0,0,0,0,0,0,0,0,0,0,0,0,0,0,0,0,0,0,0,0,0] [(2,.ag (ai.lv p0).cells),(3,.ag (ai.lv p1).cells),(5,.arr 146 l2.length),(6,.I n1),(42,.bool w5)] [(146,.arr 3 1 (l2.map LV.I))] R R (by kernel_rfl) ?_ ?_
   ·refine eV R (aF (aw cX cY fy R R R ⟨R,aF (bf R cY iL ⟨R,aF (bX (f:=ao.lv) gj R ⟨R,aF (pD R R ⟨R,iF R ?_⟩)⟩)⟩)⟩))
    by_cases b3:(decide (n1 ≥ (p0.aI.length:Int)))=true
    ·replace hv:=aB hv b3
     refine mF R R b3 (mF R R b3 (mF R R b3 (mF R R b3 (mF R R b3 (aF (aW (cB b3) (v:=(.bool _)) R ⟨R,iF R (mF R R R (mF R R R (mF R R R (mF R R R (mF R R R (mF R R R (mF R R R (mF R R R (mF R R R (mF R R R (mF R R R (aF (aW R (v:=(.bool _)) R ⟨R,?_⟩)))))))))))))⟩))))))
     obtain rfl:=oI hv
     exact zM
    ·replace b3:=bF b3
     replace hv:=aA hv b3
     refine mT R (cB b3) (eV R (mT R (cB b3) (aF (aw cX cY fy R R R ⟨R,mT R (cB b3) (aF (bf R cY iL ⟨R,mT R (cB b3) (aF (bX (f:=ao.lv) gj R ⟨R,mT R (cB b3) (aF (pD R R ⟨R,aF (aV (cB b3) (v:=(.bool _)) R ⟨R,iF R ?_⟩)⟩))⟩))⟩))⟩))))
     by_cases bT:(decide (n1 ≥ (p1.aI.length:Int)))=true
     ·replace hv:=aB hv bT
      refine mF R R bT (mF R R bT (mF R R bT (mF R R bT (mF R R bT (mF R R bT (mF R R bT (mF R R bT (mF R R bT (mF R R bT (mF R R bT (aF (aW (cB bT) (v:=(.bool _)) R ⟨R,?_⟩))))))))))))
      obtain rfl:=oI hv
      exact zM
     ·replace bT:=bF bT
      replace hv:=aA hv bT
      refine mT R (cB bT) (aF (aw cX cY fy R R R ⟨R,mT R (cB bT) (aF (bf R cY iL ⟨R,mT R (cB bT) (eV R ?_)⟩))⟩))
      obtain ⟨x8,ud,hv⟩:=al hv
      refine mT R (cB bT) (aF (eW (f:=ao.lv) gj ee dB R R ao.ok ud R ⟨R,mT R (cB bT) (aF (bh R ee iM dB R R ⟨R,mT R (cB bT) (aF (aw cX cY fy R R R ⟨R,mT R (cB bT) (aF (bf R cY iL ⟨R,mT R (cB bT) (eV R ?_)⟩))⟩))⟩))⟩))
      obtain ⟨x9,zl,hv⟩:=al hv
      refine mT R (cB bT) (aF (eW (f:=ao.lv) gj ee dB R R ao.ok zl R ⟨R,mT R (cB bT) (aF (bh R ee iM dB R R ⟨R,mT R (cB bT) (aF (FM R R (Mt x8 x9) ⟨R,aF (aV (cB bT) (v:=(.bool _)) R ⟨R,?_⟩)⟩))⟩))⟩))
      obtain rfl:=oI hv
      exact zM
   clear hv
   refine LH.cond (t:=w5) R (fun gU=>?_) (fun gU=>?_)
   ·replace h:=aB h gU
    obtain ⟨v11,KT,h⟩:=al h
    refine LH.aQ [(2,.ag (ai.lv p0).cells),(3,.ag (ai.lv p1).cells),(5,.arr 146 v11.length),(6,.I n1)] [(146,.arr 3 1 (v11.map LV.I))] R (j5 R (bl R (sN (jI (f:=LV.I) (ys:=[n1]) cz qN bb R R R lO (sN (my (f:=LV.I) cz qN bb R R (bO R) R KT (nE R zS))))))) (aY (av (LH.aQ [(2,.ag (ai.lv p0).cells),(3,.ag (ai.lv p1).cells),(5,.arr 146 v11.length),(6,.I (i64 (n1+1)))] [(146,.arr 3 1 (v11.map LV.I))] R (bl R (sN (cr R R (bo R zS)))) ?_)))
    exact bg ⟨(i64 (n1+1)),v11,ba ▸ h,R,R⟩ (Wk.eq R R R R)
   replace h:=aA h gU
   refine LH.skip (aY (av (LH.aQ [(2,.ag (ai.lv p0).cells),(3,.ag (ai.lv p1).cells),(5,.arr 146 l2.length),(6,.I (i64 (n1+1)))] [(146,.arr 3 1 (l2.map LV.I))] R (bl R (sN (cr R R (bo R zS)))) ?_)))
   exact bg ⟨(i64 (n1+1)),l2,ba ▸ h,R,R⟩ (Wk.eq R R R R)
  replace h:=aA h iC
  refine LH.exit (cv (bY (bM (av (LH.wk ((Wk.trans (aX [(5,.arr 146 l2.length)] [(146,.arr 3 1 (l2.map LV.I))]) (Wk.trans (Wk.kL (f:=LV.I) (fk:=[(5,.L l2)]) 146 3 1 l2 R R (bO R) (fZ fN)) (aX [(5,.L l2)] [])))) (LH.aj [(4,.L l2)] [] R (eZ R (qb R zS)) (LH.ret ?_)))))))
  obtain rfl:=oI h
  exact aS (aT Tryz.results42) (bR R (bP ⟨aR mN,R,a8 R,Sub.rfl⟩))
theorem PK {F:Nat} {p0:List Int} {p1:List Int} {r:Bool} (h:u3 F p0 p1=some r):aP Tryz.prog 43 [.L p0,.L p1] (Mem.of []) (.bool r) (Mem.of []):=by
  unfold u3 at h
  refine bu Tryz.func43 R (nT Tryz.ntmps43 R) (LH.wk (aX [(0,.L p0),(1,.L p1)] []) (LH.aj [(0,.L p0),(1,.L p1)] [] R (cm R zS) (LH.seq (LH.aj [(0,.L p0),(1,.L p1),(10,.bool ((p0.length:Int) != (p1.length:Int)))] [] R (eZ R (sN (bX (f:=LV.I) cz R (eZ R (sN (bX (f:=LV.I) cz R (sN (kg R R zS)))))))) (LH.cond (t:=((p0.length:Int) != (p1.length:Int))) R (fun jw=>?_) (fun jw=>?_))))))
  ·replace h:=aB h jw
   refine LH.aj [(4,.bool false)] [] R (cm R zS) (LH.ret (aZ ?_))
   obtain rfl:=oI h
   exact aS (aT Tryz.results43) (bR R (bP ⟨aR mN,R,a8 R,Sub.rfl⟩))
  replace h:=aA h jw
  refine LH.skip (av (LH.wk (aX [(0,.L p0),(1,.L p1)] []) (LH.seq (LH.aj [(0,.L p0),(1,.L p1),(5,.I 0)] [] R (bo R zS) (LH.block (LH.loop (fun n e m=>∃ (n2:Int),uX p0 p1 n n2=some r∧e=Env.of [(0,.L p0),(1,.L p1),(5,.I n2)]∧m=Mem.of []) F ⟨0,h,R,R⟩ ?_))))))
  clear h
  rintro n e m ⟨n2,h,rfl,rfl⟩
  rcases n with _ | n
  · cases (show Option.none=some _ from h)
  obtain ⟨aH,ba⟩:∃ f,f=uX p0 p1 n:=⟨_,rfl⟩
  replace h:BT p0 p1 aH n2=some r:=ba ▸ h
  unfold BT at h
  refine LH.seq (LH.aj [(0,.L p0),(1,.L p1),(5,.I n2),(14,.bool (decide (n2<(p0.length:Int))))] [] R (bl R (eZ R (sN (bX (f:=LV.I) cz R (sN (fi R R zS)))))) (LH.cond (t:=(decide (n2<(p0.length:Int)))) R (fun iC=>?_) (fun iC=>?_)))
  ·replace h:=aB h iC
   refine LH.skip (av (LH.wk (aX [(0,.L p0),(1,.L p1),(5,.I n2)] []) (LH.seq (LH.block ?_))))
   obtain ⟨x4,CM,h⟩:=al h
   obtain ⟨x5,oy,h⟩:=al h
   refine LH.c7 mixed [] [0,0,0,0,0,0,0,0,0] [(0,.L p0),(1,.L p1),(5,.I n2),(25,.bool (x4 != x5))] [] R R (by kernel_rfl) (pO R (eV R (aF (eW (f:=LV.I) cz aE bb R R lO CM R ⟨R,aF (bf R aE bN ⟨R,pO R (eV R (aF (eW (f:=LV.I) cz aE bb R R lO oy R ⟨R,aF (bf R aE bN ⟨R,aF (kg R R ⟨R,zM⟩)⟩)⟩)))⟩)⟩)))) (LH.cond (t:=(x4 != x5)) R (fun gb=>?_) (fun gb=>?_))
   ·replace h:=aB h gb
    refine LH.aj [(4,.bool false)] [] R (cm R zS) (LH.ret (bL (aZ (dY (bL (aZ ?_))))))
    obtain rfl:=oI h
    exact aS (aT Tryz.results43) (bR R (bP ⟨aR mN,R,a8 R,Sub.rfl⟩))
   replace h:=aA h gb
   refine LH.skip (aY (av (LH.aQ [(0,.L p0),(1,.L p1),(5,.I (i64 (n2+1)))] [] R (bl R (sN (cr R R (bo R zS)))) ?_)))
   exact bg ⟨(i64 (n2+1)),ba ▸ h,R,R⟩ (Wk.eq R R R R)
  replace h:=aA h iC
  refine LH.exit (cv (bY (bM (av (LH.aj [(4,.bool true)] [] R (cm R zS) (LH.ret ?_))))))
  obtain rfl:=oI h
  exact aS (aT Tryz.results43) (bR R (bP ⟨aR mN,R,a8 R,Sub.rfl⟩))
theorem PL {F:Nat} {p0:ai} {p1:ai} {r:Bool} (h:yp F p0 p1=some r):aP Tryz.prog 24 [ai.lv p0,ai.lv p1] (Mem.of []) (.bool r) (Mem.of []):=by
  unfold yp at h
  refine bu Tryz.func24 R (nT Tryz.ntmps24 R) (LH.wk (aX [(0,ai.lv p0),(1,ai.lv p1)] []) (LH.aj [(2,.ag (ai.lv p0).cells),(3,.ag (ai.lv p1).cells)] [] R (sB (dp R R R R (sB (dp R R R R (cm R zS))))) ?_))
  obtain ⟨w2,hv,h⟩:=al h
  refine LH.aj [(4,.bool w2)] [] R ?_ ?_
  ·refine sN (aw e6 aE bb R R R (sN (bf R aE bN (sN (aw e6 aE bb R R R (sN (bf R aE bN (sN (gm R R (bI R ?_))))))))))
   by_cases bZ:(p0.ID == p1.ID)=true
   ·replace hv:=aB hv bZ
    refine sT R (cB bZ) (aw fE aE bb R R R (sT R (cB bZ) (bf R aE bN (sT R (cB bZ) (aw fE aE bb R R R (sT R (cB bZ) (bf R aE bN (sT R (cB bZ) (gm R R (sN (aW (cB bZ) (v:=(.bool _)) R (bI R ?_))))))))))))
    by_cases bJ:(p0.Version == p1.Version)=true
    ·replace hv:=aB hv bJ
     refine sT R (cB bJ) (aw gJ oY wH R R R (sT R (cB bJ) (bf R oY DA (sT R (cB bJ) (aw gJ oY wH R R R (sT R (cB bJ) (bf R oY DA (LI R (cB bJ) ((vR R R).ok) (sN (aW (cB bJ) (v:=(.bool _)) R (bI R ?_)))))))))))
     by_cases bK:(decide (p0.bD=p1.bD))=true
     ·replace hv:=aB hv bK
      refine sT R (cB bK) (aw cX cY fy R R R (sT R (cB bK) (bf R cY iL (sT R (cB bK) (bX (f:=ao.lv) gj R (sT R (cB bK) (aw cX cY fy R R R (sT R (cB bK) (bf R cY iL (sT R (cB bK) (bX (f:=ao.lv) gj R (sT R (cB bK) (gm R R (sN (aW (cB bK) (v:=(.bool _)) R (bI R ?_))))))))))))))))
      by_cases b3:((p0.aI.length:Int) == (p1.aI.length:Int))=true
      ·replace hv:=aB hv b3
       refine sT R (cB b3) (bh R cG fo ct R R (sT R (cB b3) (bh R cG fo ct R R ?_)))
       obtain ⟨r7,Al,hv⟩:=al hv
       refine sT R (cB b3) (dU (args:=[ai.lv p0,ai.lv p1]) R N9 R (aK (aK bt)) (Pp Al) R (sT R (cB b3) (bX (f:=LV.I) cz R (sT R (cB b3) (gm R R (sN (aW (cB b3) (v:=(.bool _)) R (bI R ?_))))))))
       by_cases c6:((r7.length:Int) == 0)=true
       ·replace hv:=aB hv c6
        refine sT R (cB c6) (aw fp eI jh R R R (sT R (cB c6) (bf R eI l9 (sT R (cB c6) (aw fp eI jh R R R (sT R (cB c6) (bf R eI l9 ?_)))))))
        obtain ⟨r9,CK,hv⟩:=al hv
        refine sT R (cB c6) (dU (args:=[.L p0.aD,.L p1.aD]) R Oa R (aK (aK bt)) (PK CK) R (sN (aW (cB c6) (v:=(.bool _)) R (cm R ?_))))
        obtain rfl:=oI hv
        exact zS
       ·replace c6:=bF c6
        replace hv:=aA hv c6
        refine sF R R c6 (sF R R c6 (sF R R c6 (sF R R c6 (sF R R c6 (sN (aV (cB c6) (v:=(.bool _)) R (cm R ?_)))))))
        obtain rfl:=oI hv
        exact zS
      ·replace b3:=bF b3
       replace hv:=aA hv b3
       refine sF R R b3 (sF R R b3 (sF R R b3 (sF R R b3 (sF R R b3 (sN (aV (cB b3) (v:=(.bool _)) R (bI R (sF R R R (sF R R R (sF R R R (sF R R R (sF R R R (sN (aV R (v:=(.bool _)) R (cm R ?_)))))))))))))))
       obtain rfl:=oI hv
       exact zS
     ·replace bK:=bF bK
      replace hv:=aA hv bK
      refine sF R R bK (sF R R bK (sF R R bK (sF R R bK (sF R R bK (sF R R bK (sF R R bK (sN (aV (cB bK) (v:=(.bool _)) R (bI R (sF R R R (sF R R R (sF R R R (sF R R R (sF R R R (sN (aV R (v:=(.bool _)) R (bI R (sF R R R (sF R R R (sF R R R (sF R R R (sF R R R (sN (aV R (v:=(.bool _)) R (cm R ?_)))))))))))))))))))))))))
      obtain rfl:=oI hv
      exact zS
    ·replace bJ:=bF bJ
     replace hv:=aA hv bJ
     refine sF R R bJ (sF R R bJ (sF R R bJ (sF R R bJ (sF R R bJ (sN (aV (cB bJ) (v:=(.bool _)) R (bI R (sF R R R (sF R R R (sF R R R (sF R R R (sF R R R (sF R R R (sF R R R (sN (aV R (v:=(.bool _)) R (bI R (sF R R R (sF R R R (sF R R R (sF R R R (sF R R R (sN (aV R (v:=(.bool _)) R (bI R (sF R R R (sF R R R (sF R R R (sF R R R (sF R R R (sN (aV R (v:=(.bool _)) R (cm R ?_)))))))))))))))))))))))))))))))))
     obtain rfl:=oI hv
     exact zS
   ·replace bZ:=bF bZ
    replace hv:=aA hv bZ
    refine sF R R bZ (sF R R bZ (sF R R bZ (sF R R bZ (sF R R bZ (sN (aV (cB bZ) (v:=(.bool _)) R (bI R (sF R R R (sF R R R (sF R R R (sF R R R (sF R R R (sN (aV R (v:=(.bool _)) R (bI R (sF R R R (sF R R R (sF R R R (sF R R R (sF R R R (sF R R R (sF R R R (sN (aV R (v:=(.bool _)) R (bI R (sF R R R (sF R R R (sF R R R (sF R R R (sF R R R (sN (aV R (v:=(.bool _)) R (bI R (sF R R R (sF R R R (sF R R R (sF R R R (sF R R R (sN (aV R (v:=(.bool _)) R (cm R ?_)))))))))))))))))))))))))))))))))))))))))
    obtain rfl:=oI hv
    exact zS
  clear hv
  refine LH.ret ?_
  obtain rfl:=oI h
  exact aS (aT Tryz.results24) (bR R (bP ⟨aR mN,R,a8 R,Sub.rfl⟩))
theorem PM {F:Nat} {p0:ax} {p1:ax} {r:Bool} (h:yr F p0 p1=some r):aP Tryz.prog 62 [ax.lv p0,ax.lv p1] (Mem.of []) (.bool r) (Mem.of []):=by
  unfold yr at h
  refine bu Tryz.func62 R (nT Tryz.ntmps62 R) (LH.wk (aX [(0,ax.lv p0),(1,ax.lv p1)] []) (LH.aj [(2,.ag (ax.lv p0).cells),(3,.ag (ax.lv p1).cells)] [] R (sB (dp R R R R (sB (dp R R R R (cm R zS))))) ?_))
  obtain ⟨w2,hv,h⟩:=al h
  refine LH.aj [(4,.bool w2)] [] R ?_ ?_
  ·refine sN (aw db b6 bW R R R (sN (bh R b6 fX bW R R (sN (aw db b6 bW R R R (sN (bh R b6 fX bW R R (sN (CU R R (Eh p0.ar p1.ar) (bI R ?_))))))))))
   by_cases bZ:(decide (p0.ar=p1.ar))=true
   ·replace hv:=aB hv bZ
    refine sT R (cB bZ) (aw e8 aE bb R R R (sT R (cB bZ) (bf R aE bN (sT R (cB bZ) (aw e8 aE bb R R R (sT R (cB bZ) (bf R aE bN (sT R (cB bZ) (gm R R (sN (aW (cB bZ) (v:=(.bool _)) R (bI R ?_))))))))))))
    by_cases bJ:(p0.Kind == p1.Kind)=true
    ·replace hv:=aB hv bJ
     refine sT R (cB bJ) (aw eT fg eJ R R R (sT R (cB bJ) (bh R fg qf eJ R R (sT R (cB bJ) (aw eT fg eJ R R R (sT R (cB bJ) (bh R fg qf eJ R R (sT R (cB bJ) (CU R R (Eg p0.Ref p1.Ref) (sN (aW (cB bJ) (v:=(.bool _)) R (bI R ?_))))))))))))
     by_cases bK:(decide (p0.Ref=p1.Ref))=true
     ·replace hv:=aB hv bK
      refine sT R (cB bK) (aw kR aE bb R R R (sT R (cB bK) (bf R aE bN (sT R (cB bK) (aw kR aE bb R R R (sT R (cB bK) (bf R aE bN (sT R (cB bK) (gm R R (sN (aW (cB bK) (v:=(.bool _)) R (bI R ?_))))))))))))
      by_cases b3:(p0.Form == p1.Form)=true
      ·replace hv:=aB hv b3
       refine sT R (cB b3) (aw e9 cG ct R R R (sT R (cB b3) (bh R cG fo ct R R (sT R (cB b3) (aw e9 cG ct R R R (sT R (cB b3) (bh R cG fo ct R R ?_)))))))
       obtain ⟨r7,Al,hv⟩:=al hv
       refine sT R (cB b3) (dU (args:=[ai.lv p0.Item,ai.lv p1.Item]) R N0 R (aK (aK bt)) (PL Al) R (sN (aW (cB b3) (v:=(.bool _)) R (cm R ?_))))
       obtain rfl:=oI hv
       exact zS
      ·replace b3:=bF b3
       replace hv:=aA hv b3
       refine sF R R b3 (sF R R b3 (sF R R b3 (sF R R b3 (sF R R b3 (sN (aV (cB b3) (v:=(.bool _)) R (cm R ?_)))))))
       obtain rfl:=oI hv
       exact zS
     ·replace bK:=bF bK
      replace hv:=aA hv bK
      refine sF R R bK (sF R R bK (sF R R bK (sF R R bK (sF R R bK (sN (aV (cB bK) (v:=(.bool _)) R (bI R (sF R R R (sF R R R (sF R R R (sF R R R (sF R R R (sN (aV R (v:=(.bool _)) R (cm R ?_)))))))))))))))
      obtain rfl:=oI hv
      exact zS
    ·replace bJ:=bF bJ
     replace hv:=aA hv bJ
     refine sF R R bJ (sF R R bJ (sF R R bJ (sF R R bJ (sF R R bJ (sN (aV (cB bJ) (v:=(.bool _)) R (bI R (sF R R R (sF R R R (sF R R R (sF R R R (sF R R R (sN (aV R (v:=(.bool _)) R (bI R (sF R R R (sF R R R (sF R R R (sF R R R (sF R R R (sN (aV R (v:=(.bool _)) R (cm R ?_)))))))))))))))))))))))
     obtain rfl:=oI hv
     exact zS
   ·replace bZ:=bF bZ
    replace hv:=aA hv bZ
    refine sF R R bZ (sF R R bZ (sF R R bZ (sF R R bZ (sF R R bZ (sN (aV (cB bZ) (v:=(.bool _)) R (bI R (sF R R R (sF R R R (sF R R R (sF R R R (sF R R R (sN (aV R (v:=(.bool _)) R (bI R (sF R R R (sF R R R (sF R R R (sF R R R (sF R R R (sN (aV R (v:=(.bool _)) R (bI R (sF R R R (sF R R R (sF R R R (sF R R R (sF R R R (sN (aV R (v:=(.bool _)) R (cm R ?_)))))))))))))))))))))))))))))))
    obtain rfl:=oI hv
    exact zS
  clear hv
  refine LH.ret ?_
  obtain rfl:=oI h
  exact aS (aT Tryz.results62) (bR R (bP ⟨aR mN,R,a8 R,Sub.rfl⟩))
theorem Ju {p0:aL} {r:Bool} (h:yj p0=some r):aP Tryz.prog 100 [.agg [.I p0.Time,.I p0.Source,.I p0.Seq]] (Mem.of []) (.bool r) (Mem.of []):=by
  unfold yj at h
  refine bu Tryz.func100 R (nT Tryz.ntmps100 R) (LH.wk (aX [(0,.agg [.I p0.Time,.I p0.Source,.I p0.Seq])] []) (LH.aj [(1,.ag [.I p0.Time,.I p0.Source,.I p0.Seq])] [] R (sB (dp R R R R (cm R zS))) (LH.aj [(2,.bool ((decide (p0.Time ≥ 0)) && ((decide (p0.Time≤1000000)) && ((decide (p0.Source ≥ 0)) && ((decide (p0.Source≤99)) && ((decide (p0.Seq ≥ 0)) && (decide (p0.Seq≤9999))))))))] [] R ?_ ?_)))
  ·refine sN (aw e7 aE bb R R R (sN (bf R aE bN (sN (pD R R (bI R ?_))))))
   by_cases cL:(decide (p0.Time ≥ 0))=true
   ·refine sT R (cB cL) (aw e7 aE bb R R R (sT R (cB cL) (bf R aE bN (sT R (cB cL) (FJ R R (sN (aW (cB cL) (v:=(.bool _)) R (bI R ?_))))))))
    by_cases bZ:(decide (p0.Time≤1000000))=true
    ·refine sT R (cB bZ) (aw ek aE bb R R R (sT R (cB bZ) (bf R aE bN (sT R (cB bZ) (pD R R (sN (aW (cB bZ) (v:=(.bool _)) R (bI R ?_))))))))
     by_cases bJ:(decide (p0.Source ≥ 0))=true
     ·refine sT R (cB bJ) (aw ek aE bb R R R (sT R (cB bJ) (bf R aE bN (sT R (cB bJ) (FJ R R (sN (aW (cB bJ) (v:=(.bool _)) R (bI R ?_))))))))
      by_cases bK:(decide (p0.Source≤99))=true
      ·refine sT R (cB bK) (aw dz aE bb R R R (sT R (cB bK) (bf R aE bN (sT R (cB bK) (pD R R (sN (aW (cB bK) (v:=(.bool _)) R (bI R ?_))))))))
       by_cases b3:(decide (p0.Seq ≥ 0))=true
       ·exact sT R (cB b3) (aw dz aE bb R R R (sT R (cB b3) (bf R aE bN (sT R (cB b3) (FJ R R (sN (aW (cB b3) (v:=(.bool _)) R (cm R (s0 (Wk.to (eC (cB (Eq.trans (Eq.trans (Eq.trans (Eq.trans (dv b3) (dv bK)) (dv bJ)) (dv bZ)) (dv cL))) eN) mN R (a8 R)))))))))))
       ·replace b3:=bF b3
        exact sF R R b3 (sF R R b3 (sF R R b3 (sN (aV (cB b3) (v:=(.bool _)) R (cm R (s0 (Wk.to (eC (cB (Eq.trans (Eq.trans (Eq.trans (Eq.trans (jA b3) (dv bK)) (dv bJ)) (dv bZ)) (dv cL))) eN) mN R (a8 R))))))))
      ·replace bK:=bF bK
       exact sF R R bK (sF R R bK (sF R R bK (sN (aV (cB bK) (v:=(.bool _)) R (bI R (sF R R R (sF R R R (sF R R R (sN (aV R (v:=(.bool _)) R (cm R (s0 (Wk.to (eC (cB (Eq.trans (Eq.trans (Eq.trans (jA bK) (dv bJ)) (dv bZ)) (dv cL))) eN) mN R (a8 R))))))))))))))
     ·replace bJ:=bF bJ
      exact sF R R bJ (sF R R bJ (sF R R bJ (sN (aV (cB bJ) (v:=(.bool _)) R (bI R (sF R R R (sF R R R (sF R R R (sN (aV R (v:=(.bool _)) R (bI R (sF R R R (sF R R R (sF R R R (sN (aV R (v:=(.bool _)) R (cm R (s0 (Wk.to (eC (cB (Eq.trans (Eq.trans (jA bJ) (dv bZ)) (dv cL))) eN) mN R (a8 R))))))))))))))))))))
    ·replace bZ:=bF bZ
     exact sF R R bZ (sF R R bZ (sF R R bZ (sN (aV (cB bZ) (v:=(.bool _)) R (bI R (sF R R R (sF R R R (sF R R R (sN (aV R (v:=(.bool _)) R (bI R (sF R R R (sF R R R (sF R R R (sN (aV R (v:=(.bool _)) R (bI R (sF R R R (sF R R R (sF R R R (sN (aV R (v:=(.bool _)) R (cm R (s0 (Wk.to (eC (cB (Eq.trans (jA bZ) (dv cL))) eN) mN R (a8 R))))))))))))))))))))))))))
   ·replace cL:=bF cL
    exact sF R R cL (sF R R cL (sF R R cL (sN (aV (cB cL) (v:=(.bool _)) R (bI R (sF R R R (sF R R R (sF R R R (sN (aV R (v:=(.bool _)) R (bI R (sF R R R (sF R R R (sF R R R (sN (aV R (v:=(.bool _)) R (bI R (sF R R R (sF R R R (sF R R R (sN (aV R (v:=(.bool _)) R (bI R (sF R R R (sF R R R (sF R R R (sN (aV R (v:=(.bool _)) R (cm R (s0 (Wk.to (eC (cB (jA cL)) eN) mN R (a8 R))))))))))))))))))))))))))))))))
  refine LH.ret ?_
  obtain rfl:=oI h
  exact aS (aT Tryz.results100) (bR R (bP ⟨aR mN,R,a8 R,Sub.rfl⟩))
theorem Po {p0:aL} {p1:aL} {p2:Int} {p3:Int} {r:Bool} (h:BV p0 p1 p2 p3=some r):aP Tryz.prog 101 [.agg [.I p0.Time,.I p0.Source,.I p0.Seq],.agg [.I p1.Time,.I p1.Source,.I p1.Seq],.I p2,.I p3] (Mem.of []) (.bool r) (Mem.of []):=by
  unfold BV at h
  refine bu Tryz.func101 R (nT Tryz.ntmps101 R) (LH.wk (aX [(0,.agg [.I p0.Time,.I p0.Source,.I p0.Seq]),(1,.agg [.I p1.Time,.I p1.Source,.I p1.Seq]),(2,.I p2),(3,.I p3)] []) (LH.aj [(2,.I p2),(3,.I p3),(4,.ag [.I p0.Time,.I p0.Source,.I p0.Seq]),(5,.ag [.I p1.Time,.I p1.Source,.I p1.Seq])] [] R (sB (dp R R R R (sB (dp R R R R (cm R zS))))) (LH.aj [(8,.bool ((p0.Source == p1.Source) && ((p0.Seq == p1.Seq) && ((p0.Time != p1.Time) || (p2 != p3)))))] [] R ?_ ?_)))
  ·refine sN (aw ek aE bb R R R (sN (bf R aE bN (sN (aw ek aE bb R R R (sN (bf R aE bN (sN (gm R R (bI R ?_))))))))))
   by_cases cL:(p0.Source == p1.Source)=true
   ·refine sT R (cB cL) (aw dz aE bb R R R (sT R (cB cL) (bf R aE bN (sT R (cB cL) (aw dz aE bb R R R (sT R (cB cL) (bf R aE bN (sT R (cB cL) (gm R R (sN (aW (cB cL) (v:=(.bool _)) R (bI R ?_))))))))))))
    by_cases bZ:(p0.Seq == p1.Seq)=true
    ·refine sT R (cB bZ) (aw e7 aE bb R R R (sT R (cB bZ) (bf R aE bN (sT R (cB bZ) (aw e7 aE bb R R R (sT R (cB bZ) (bf R aE bN (sT R (cB bZ) (kg R R (sT R (cB bZ) (oM (v:=(.bool _)) R ?_)))))))))))
     by_cases bJ:(p0.Time != p1.Time)=true
     ·exact sF R R bJ (sF R R bJ (sF R R bJ (sT R (cB bZ) (aW (cB bJ) (v:=(.bool _)) R (sN (aW (cB bZ) (v:=(.bool _)) R (cm R (s0 (Wk.to (eC (cB (Eq.trans (Eq.trans (p7 bJ) (dv bZ)) (dv cL))) eN) mN R (a8 R))))))))))
     ·replace bJ:=bF bJ
      exact sT R (cB bJ) (oM (v:=(.int _ _)) R (sT R (cB bJ) (oM (v:=(.int _ _)) R (sT R (cB bJ) (kg R R (sT R (cB bZ) (aV (cB bJ) (v:=(.bool _)) R (sN (aW (cB bZ) (v:=(.bool _)) R (cm R (s0 (Wk.to (eC (cB (Eq.trans (Eq.trans (iJ bJ) (dv bZ)) (dv cL))) eN) mN R (a8 R)))))))))))))
    ·replace bZ:=bF bZ
     exact sF R R bZ (sF R R bZ (sF R R bZ (sF R R bZ (sF R R bZ (sF R R bZ (sU R R (sU R R (sU R R (sF R R bZ (sN (aV (cB bZ) (v:=(.bool _)) R (cm R (s0 (Wk.to (eC (cB (Eq.trans (jA bZ) (dv cL))) eN) mN R (a8 R)))))))))))))))
   ·replace cL:=bF cL
    exact sF R R cL (sF R R cL (sF R R cL (sF R R cL (sF R R cL (sN (aV (cB cL) (v:=(.bool _)) R (bI R (sF R R R (sF R R R (sF R R R (sF R R R (sF R R R (sF R R R (sU R R (sU R R (sU R R (sF R R R (sN (aV R (v:=(.bool _)) R (cm R (s0 (Wk.to (eC (cB (jA cL)) eN) mN R (a8 R)))))))))))))))))))))))
  refine LH.ret ?_
  obtain rfl:=oI h
  exact aS (aT Tryz.results101) (bR R (bP ⟨aR mN,R,a8 R,Sub.rfl⟩))
theorem Pz {F:Nat} {p0:List aL} {p1:List Int} {p2:Int} {r:Bool} (h:yf F p0 p1 p2=some r):aP Tryz.prog 82 [.ak 3 (p0.map aL.lv),.L p1,.I p2] (Mem.of []) (.bool r) (Mem.of []):=by
  unfold yf at h
  refine bu Tryz.func82 R (nT Tryz.ntmps82 R) (LH.wk (aX [(0,.ak 3 (p0.map aL.lv)),(1,.L p1),(2,.I p2)] []) (LH.aj [(0,.ak 3 (p0.map aL.lv)),(1,.L p1),(2,.I p2)] [] R (cm R zS) (LH.seq ?_)))
  obtain ⟨x1,Mh,h⟩:=al h
  obtain ⟨r2,fz,h⟩:=al h
  refine LH.aj [(0,.ak 3 (p0.map aL.lv)),(1,.L p1),(2,.I p2),(13,.bool (!r2))] [] R (eZ R (bl R (sN (eW (f:=aL.lv) eU b6 bW R R aL.ok Mh R (sN (bh R b6 fX bW R R (sN (dU (args:=[.agg [.I x1.Time,.I x1.Source,.I x1.Seq]]) R Fp R (aK bt) (Ju fz) R (sN (kp R zS)))))))))) (LH.cond (t:=(!r2)) R (fun iC=>?_) (fun iC=>?_))
  ·replace h:=aB h iC
   refine LH.aj [(6,.bool false)] [] R (cm R zS) (LH.ret (aZ ?_))
   obtain rfl:=oI h
   exact aS (aT Tryz.results82) (bR R (bP ⟨aR mN,R,a8 R,Sub.rfl⟩))
  replace h:=aA h iC
  refine LH.skip (av (LH.wk (aX [(0,.ak 3 (p0.map aL.lv)),(1,.L p1),(2,.I p2)] []) (LH.seq (LH.aj [(0,.ak 3 (p0.map aL.lv)),(1,.L p1),(2,.I p2),(7,.I 0)] [] R (bo R zS) (LH.block (LH.loop (fun n e m=>∃ (n4:Int),Dh p0 p1 p2 n n4=some r∧e=Env.of [(0,.ak 3 (p0.map aL.lv)),(1,.L p1),(2,.I p2),(7,.I n4)]∧m=Mem.of []) F ⟨0,h,R,R⟩ ?_))))))
  clear h
  rintro n e m ⟨n4,h,rfl,rfl⟩
  rcases n with _ | n
  · cases (show Option.none=some _ from h)
  obtain ⟨aH,ba⟩:∃ f,f=Dh p0 p1 p2 n:=⟨_,rfl⟩
  replace h:Dd p0 p1 p2 aH n4=some r:=ba ▸ h
  unfold Dd at h
  refine LH.seq (LH.aj [(0,.ak 3 (p0.map aL.lv)),(1,.L p1),(2,.I p2),(7,.I n4),(17,.bool (decide (n4<(p0.length:Int))))] [] R (bl R (eZ R (sN (bX (f:=aL.lv) eU R (sN (fi R R zS)))))) (LH.cond (t:=(decide (n4<(p0.length:Int)))) R (fun ky=>?_) (fun ky=>?_)))
  ·replace h:=aB h ky
   refine LH.skip (av (LH.wk (aX [(0,.ak 3 (p0.map aL.lv)),(1,.L p1),(2,.I p2),(7,.I n4)] []) (LH.seq (LH.block ?_))))
   obtain ⟨w7,hv,h⟩:=al h
   refine LH.c7 mixed [] [0,0,0,0,0,0,0,0,0,0,0,0,0,0,0,0,0,0,0,0,0,0,0,0,0,0,0,0,0,0,0,0,0,0,0,0,0,0,0,0] [(0,.ak 3 (p0.map aL.lv)),(1,.L p1),(2,.I p2),(7,.I n4),(59,.bool w7)] [] R R (by kernel_rfl) ?_ ?_
   ·refine pO R (eV R ?_)
    obtain ⟨x8,ud,hv⟩:=al hv
    refine aF (eW (f:=aL.lv) eU b6 bW R R aL.ok ud R ⟨R,aF (bh R b6 fX bW R R ⟨R,?_⟩)⟩)
    obtain ⟨r9,CK,hv⟩:=al hv
    refine aF (dU (args:=[.agg [.I x8.Time,.I x8.Source,.I x8.Seq]]) R Fp R (aK bt) (Ju CK) R ⟨R,iF R ?_⟩)
    by_cases bx:r9=true
    ·replace hv:=aB hv bx
     refine mT R (cB bx) (pO R (mT R (cB bx) (eV R ?_)))
     obtain ⟨bc,xq,hv⟩:=al hv
     refine mT R (cB bx) (aF (eW (f:=aL.lv) eU b6 bW R R aL.ok xq R ⟨R,mT R (cB bx) (aF (bh R b6 fX bW R R ⟨R,mT R (cB bx) (pO R (mT R (cB bx) (eV R ?_)))⟩))⟩))
     obtain ⟨gq,px,hv⟩:=al hv
     refine mT R (cB bx) (aF (eW (f:=aL.lv) eU b6 bW R R aL.ok px R ⟨R,mT R (cB bx) (aF (bh R b6 fX bW R R ⟨R,mT R (cB bx) (pO R (mT R (cB bx) (eV R ?_)))⟩))⟩))
     obtain ⟨cT,lY,hv⟩:=al hv
     refine mT R (cB bx) (aF (eW (f:=LV.I) cz aE bb R R lO lY R ⟨R,mT R (cB bx) (aF (bf R aE bN ⟨R,mT R (cB bx) (pO R (mT R (cB bx) (eV R ?_)))⟩))⟩))
     obtain ⟨nJ,Fk,hv⟩:=al hv
     refine mT R (cB bx) (aF (eW (f:=LV.I) cz aE bb R R lO Fk R ⟨R,mT R (cB bx) (aF (bf R aE bN ⟨R,?_⟩))⟩))
     obtain ⟨gi,vH,hv⟩:=al hv
     refine mT R (cB bx) (aF (dU (args:=[.agg [.I bc.Time,.I bc.Source,.I bc.Seq],.agg [.I gq.Time,.I gq.Source,.I gq.Seq],.I cT,.I nJ]) R Lc R (aK (aK (aK (aK bt)))) (Po vH) R ⟨R,mT R (cB bx) (iF R ?_)⟩))
     by_cases fP:gi=true
     ·replace hv:=aB hv fP
      refine mF R R fP (mF R R fP (mF R R fP (mF R R fP (mU R R (mU R R (mU R R (mU R R (mU R R (mU R R (mU R R (mU R R (mU R R (mF R R fP (mT R (cB bx) (aF (aW (cB fP) (v:=(.bool _)) R ⟨R,aF (aW (cB bx) (v:=(.bool _)) R ⟨R,?_⟩)⟩))))))))))))))))
      obtain rfl:=oI hv
      exact zM
     ·replace fP:=bF fP
      replace hv:=aA hv fP
      refine mT R (cB fP) (eV R (mT R (cB fP) (eV R (mT R (cB fP) (aF (fi R R ⟨R,mT R (cB fP) (iF R ?_)⟩))))))
      by_cases jD:(decide (n4<p2))=true
      ·replace hv:=aB hv jD
       refine mT R (cB jD) (pO R (mT R (cB jD) (eV R ?_)))
       obtain ⟨Bc,Fl,hv⟩:=al hv
       refine mT R (cB jD) (aF (eW (f:=aL.lv) eU b6 bW R R aL.ok Fl R ⟨R,mT R (cB jD) (aF (bh R b6 fX bW R R ⟨R,mT R (cB jD) (pO R (mT R (cB jD) (eV R ?_)))⟩))⟩))
       obtain ⟨zx,Fm,hv⟩:=al hv
       refine mT R (cB jD) (aF (eW (f:=aL.lv) eU b6 bW R R aL.ok Fm R ⟨R,mT R (cB jD) (aF (bh R b6 fX bW R R ⟨R,mT R (cB jD) (aF (CU R R (Eh Bc zx) ⟨R,mT R (cB fP) (aF (aW (cB jD) (v:=(.bool _)) R ⟨R,mT R (cB bx) (aF (aV (cB fP) (v:=(.bool _)) R ⟨R,aF (aW (cB bx) (v:=(.bool _)) R ⟨R,?_⟩)⟩))⟩))⟩))⟩))⟩))
       obtain rfl:=oI hv
       exact zM
      ·replace jD:=bF jD
       replace hv:=aA hv jD
       refine mF R R jD (mF R R jD (mF R R jD (mF R R jD (mF R R jD (mF R R jD (mF R R jD (mF R R jD (mF R R jD (mT R (cB fP) (aF (aV (cB jD) (v:=(.bool _)) R ⟨R,mT R (cB bx) (aF (aV (cB fP) (v:=(.bool _)) R ⟨R,aF (aW (cB bx) (v:=(.bool _)) R ⟨R,?_⟩)⟩))⟩)))))))))))
       obtain rfl:=oI hv
       exact zM
    ·replace bx:=bF bx
     replace hv:=aA hv bx
     refine mF R R bx (mF R R bx (mF R R bx (mF R R bx (mF R R bx (mF R R bx (mF R R bx (mF R R bx (mF R R bx (mF R R bx (mF R R bx (mF R R bx (mF R R bx (mF R R bx (mF R R bx (mF R R bx (mF R R bx (mF R R bx (mU R R (mU R R (mU R R (mU R R (mU R R (mU R R (mU R R (mU R R (mU R R (mU R R (mU R R (mU R R (mU R R (mU R R (mF R R bx (aF (aV (cB bx) (v:=(.bool _)) R ⟨R,?_⟩))))))))))))))))))))))))))))))))))
     obtain rfl:=oI hv
     exact zM
   clear hv
   refine LH.cond (t:=w7) R (fun jb=>?_) (fun jb=>?_)
   ·replace h:=aB h jb
    refine LH.aj [(6,.bool false)] [] R (cm R zS) (LH.ret (bL (aZ (dY (bL (aZ ?_))))))
    obtain rfl:=oI h
    exact aS (aT Tryz.results82) (bR R (bP ⟨aR mN,R,a8 R,Sub.rfl⟩))
   replace h:=aA h jb
   refine LH.skip (aY (av (LH.aQ [(0,.ak 3 (p0.map aL.lv)),(1,.L p1),(2,.I p2),(7,.I (i64 (n4+1)))] [] R (bl R (sN (cr R R (bo R zS)))) ?_)))
   exact bg ⟨(i64 (n4+1)),ba ▸ h,R,R⟩ (Wk.eq R R R R)
  replace h:=aA h ky
  refine LH.exit (cv (bY (bM (av (LH.aj [(6,.bool true)] [] R (cm R zS) (LH.ret ?_))))))
  obtain rfl:=oI h
  exact aS (aT Tryz.results82) (bR R (bP ⟨aR mN,R,a8 R,Sub.rfl⟩))
theorem BW {p0:Int} {p1:Int} {r:Int} (h:yB p0 p1=some r):aP Tryz.prog 102 [.I p0,.I p1] (Mem.of []) (.I r) (Mem.of []):=by
  unfold yB at h
  refine bu Tryz.func102 R (nT Tryz.ntmps102 R) (LH.wk (aX [(0,.I p0),(1,.I p1)] []) (LH.aj [(0,.I p0),(1,.I p1)] [] R (bo R zS) (LH.seq (LH.aj [(0,.I p0),(1,.I p1),(7,.bool (decide (p0<p1)))] [] R (bl R (bl R (sN (fi R R zS)))) (LH.cond (t:=(decide (p0<p1))) R (fun jw=>?_) (fun jw=>?_))))))
  ·replace h:=aB h jw
   refine LH.aj [(4,.I (-1))] [] R (bo R zS) (LH.ret (aZ ?_))
   obtain rfl:=oI h
   exact aS (aT Tryz.results102) (bR R (bP ⟨aR mN,R,a8 R,Sub.rfl⟩))
  replace h:=aA h jw
  refine LH.skip (av (LH.wk (aX [(0,.I p0),(1,.I p1)] []) (LH.seq (LH.aj [(10,.bool (decide (p0 > p1)))] [] R (bl R (bl R (sN (iw R R zS)))) (LH.cond (t:=(decide (p0 > p1))) R (fun fJ=>?_) (fun fJ=>?_))))))
  ·replace h:=aB h fJ
   refine LH.aj [(4,.I 1)] [] R (bo R zS) (LH.ret (aZ ?_))
   obtain rfl:=oI h
   exact aS (aT Tryz.results102) (bR R (bP ⟨aR mN,R,a8 R,Sub.rfl⟩))
  replace h:=aA h fJ
  refine LH.skip (av (LH.aj [(4,.I 0)] [] R (bo R zS) (LH.ret ?_)))
  obtain rfl:=oI h
  exact aS (aT Tryz.results102) (bR R (bP ⟨aR mN,R,a8 R,Sub.rfl⟩))
theorem Pu {p0:aL} {p1:aL} {r:Int} (h:ya p0 p1=some r):aP Tryz.prog 83 [.agg [.I p0.Time,.I p0.Source,.I p0.Seq],.agg [.I p1.Time,.I p1.Source,.I p1.Seq]] (Mem.of []) (.I r) (Mem.of []):=by
  unfold ya at h
  refine bu Tryz.func83 R (nT Tryz.ntmps83 R) (LH.wk (aX [(0,.agg [.I p0.Time,.I p0.Source,.I p0.Seq]),(1,.agg [.I p1.Time,.I p1.Source,.I p1.Seq])] []) (LH.aj [(2,.ag [.I p0.Time,.I p0.Source,.I p0.Seq]),(3,.ag [.I p1.Time,.I p1.Source,.I p1.Seq])] [] R (sB (dp R R R R (sB (dp R R R R (bo R zS))))) ?_))
  obtain ⟨r1,ec,h⟩:=al h
  refine LH.aj [(2,.ag [.I p0.Time,.I p0.Source,.I p0.Seq]),(3,.ag [.I p1.Time,.I p1.Source,.I p1.Seq]),(5,.I r1)] [] R (sN (aw e7 aE bb R R R (sN (bf R aE bN (sN (aw e7 aE bb R R R (sN (bf R aE bN (sN (dU (args:=[.I p0.Time,.I p1.Time]) R vK R (aK (aK bt)) (BW ec) R (bo R zS))))))))))) (LH.seq (LH.aj [(2,.ag [.I p0.Time,.I p0.Source,.I p0.Seq]),(3,.ag [.I p1.Time,.I p1.Source,.I p1.Seq]),(5,.I r1),(12,.bool (r1 == 0))] [] R (bl R (sN (gm R R zS))) (LH.cond (t:=(r1 == 0)) R (fun fJ=>?_) (fun fJ=>?_))))
  ·replace h:=aB h fJ
   obtain ⟨r3,nf,h⟩:=al h
   refine LH.aQ [(2,.ag [.I p0.Time,.I p0.Source,.I p0.Seq]),(3,.ag [.I p1.Time,.I p1.Source,.I p1.Seq]),(5,.I r3)] [] R (sN (aw ek aE bb R R R (sN (bf R aE bN (sN (aw ek aE bb R R R (sN (bf R aE bN (sN (dU (args:=[.I p0.Source,.I p1.Source]) R vK R (aK (aK bt)) (BW nf) R (bo R zS))))))))))) (av (LH.seq (LH.aj [(2,.ag [.I p0.Time,.I p0.Source,.I p0.Seq]),(3,.ag [.I p1.Time,.I p1.Source,.I p1.Seq]),(5,.I r3),(19,.bool (r3 == 0))] [] R (bl R (sN (gm R R zS))) (LH.cond (t:=(r3 == 0)) R (fun jW=>?_) (fun jW=>?_)))))
   ·replace h:=aB h jW
    obtain ⟨r5,CJ,h⟩:=al h
    refine LH.aQ [(5,.I r5)] [] R (sN (aw dz aE bb R R R (sN (bf R aE bN (sN (aw dz aE bb R R R (sN (bf R aE bN (sN (dU (args:=[.I p0.Seq,.I p1.Seq]) R vK R (aK (aK bt)) (BW CJ) R (bo R zS))))))))))) (av (LH.aj [(4,.I r5)] [] R (bl R (bo R zS)) (LH.ret ?_)))
    obtain rfl:=oI h
    exact aS (aT Tryz.results83) (bR R (bP ⟨aR mN,R,a8 R,Sub.rfl⟩))
   replace h:=aA h jW
   refine LH.skip (av (LH.aj [(4,.I r3)] [] R (bl R (bo R zS)) (LH.ret ?_)))
   obtain rfl:=oI h
   exact aS (aT Tryz.results83) (bR R (bP ⟨aR mN,R,a8 R,Sub.rfl⟩))
  replace h:=aA h fJ
  refine LH.skip (av (LH.wk (aX [(2,.ag [.I p0.Time,.I p0.Source,.I p0.Seq]),(3,.ag [.I p1.Time,.I p1.Source,.I p1.Seq]),(5,.I r1)] []) (LH.seq (LH.aj [(2,.ag [.I p0.Time,.I p0.Source,.I p0.Seq]),(3,.ag [.I p1.Time,.I p1.Source,.I p1.Seq]),(5,.I r1),(19,.bool (r1 == 0))] [] R (bl R (sN (gm R R zS))) (LH.cond (t:=(r1 == 0)) R (fun gb=>?_) (fun gb=>?_))))))
  ·replace h:=aB h gb
   obtain ⟨r7,Al,h⟩:=al h
   refine LH.aQ [(5,.I r7)] [] R (sN (aw dz aE bb R R R (sN (bf R aE bN (sN (aw dz aE bb R R R (sN (bf R aE bN (sN (dU (args:=[.I p0.Seq,.I p1.Seq]) R vK R (aK (aK bt)) (BW Al) R (bo R zS))))))))))) (av (LH.aj [(4,.I r7)] [] R (bl R (bo R zS)) (LH.ret ?_)))
   obtain rfl:=oI h
   exact aS (aT Tryz.results83) (bR R (bP ⟨aR mN,R,a8 R,Sub.rfl⟩))
  replace h:=aA h gb
  refine LH.skip (av (LH.aj [(4,.I r1)] [] R (bl R (bo R zS)) (LH.ret ?_)))
  obtain rfl:=oI h
  exact aS (aT Tryz.results83) (bR R (bP ⟨aR mN,R,a8 R,Sub.rfl⟩))
theorem Pg {F:Nat} {p0:List aL} {p1:List Int} {r:List Int × Int} (h:Dg F p0 p1=some r):aP Tryz.prog 63 [.ak 3 (p0.map aL.lv),.L p1] (Mem.of []) (.de [.L r.1,.I r.2]) (Mem.of []):=by
  unfold Dg at h
  refine bu Tryz.func63 R (nT Tryz.ntmps63 R) (LH.wk (aX [(0,.ak 3 (p0.map aL.lv)),(1,.L p1)] []) (LH.aj [(0,.ak 3 (p0.map aL.lv)),(1,.L p1)] [] R (kh R (bo R zS)) (LH.seq (LH.aj [(0,.ak 3 (p0.map aL.lv)),(1,.L p1),(14,.bool ((p1.length:Int) != (p0.length:Int)))] [] R (eZ R (sN (bX (f:=LV.I) cz R (eZ R (sN (bX (f:=aL.lv) eU R (sN (kg R R zS)))))))) (LH.cond (t:=((p1.length:Int) != (p0.length:Int))) R (fun jw=>?_) (fun jw=>?_))))))
  ·replace h:=aB h jw
   refine LH.aj [(4,.nil),(5,.I 1)] [] R (kh R (bo R zS)) (LH.ret (aZ ?_))
   obtain rfl:=oI h
   exact aS (aT Tryz.results63) (bR R (bR R (bP ⟨aR mN,R,a8 R,(Sub.de (yI (aK bt)))⟩)))
  replace h:=aA h jw
  refine LH.skip (av (LH.aj [(0,.ak 3 (p0.map aL.lv)),(1,.L p1),(6,.nil)] [] R (kh R zS) (LH.seq (LH.aj [(0,.ak 3 (p0.map aL.lv)),(1,.L p1),(6,.nil),(7,.I 0)] [] R (bo R zS) (LH.block (LH.wk (Wk.to (el:=[(0,.ak 3 (p0.map aL.lv)),(1,.L p1),(6,.L ([]:List Int)),(7,.I 0)]) (ml:=[]) (eC R (eC R (eL R (eC R eN)))) mN R (a8 R)) (LH.loop (fun n e m=>∃ (l2:List Int) (n3:Int),Da F p0 p1 n l2 n3=some r∧e=Env.of [(0,.ak 3 (p0.map aL.lv)),(1,.L p1),(6,.L l2),(7,.I n3)]∧m=Mem.of []) F ⟨([]:List Int),0,h,R,R⟩ ?_)))))))
  clear h
  rintro n e m ⟨l2,n3,h,rfl,rfl⟩
  rcases n with _ | n
  · cases (show Option.none=some _ from h)
  obtain ⟨aH,ba⟩:∃ f,f=Da F p0 p1 n:=⟨_,rfl⟩
  replace h:Gg F p0 p1 aH l2 n3=some r:=ba ▸ h
  unfold Gg at h
  refine LH.seq (LH.aj [(0,.ak 3 (p0.map aL.lv)),(1,.L p1),(6,.L l2),(7,.I n3),(18,.bool (decide (n3<(p0.length:Int))))] [] R (bl R (eZ R (sN (bX (f:=aL.lv) eU R (sN (fi R R zS)))))) (LH.cond (t:=(decide (n3<(p0.length:Int)))) R (fun jW=>?_) (fun jW=>?_)))
  ·replace h:=aB h jW
   refine LH.skip (av (LH.wk (aX [(0,.ak 3 (p0.map aL.lv)),(1,.L p1),(6,.L l2),(7,.I n3)] []) (LH.seq (LH.block (LH.seq ?_)))))
   obtain ⟨r5,CJ,h⟩:=al h
   refine LH.aj [(0,.ak 3 (p0.map aL.lv)),(1,.L p1),(6,.L l2),(7,.I n3),(25,.bool (!r5))] [] R (eZ R (eZ R (bl R (sN (dU (args:=[.ak 3 (p0.map aL.lv),.L p1,.I n3]) R OC R (aK (aK (aK bt))) (Pz CJ) R (sN (kp R zS))))))) (LH.cond (t:=(!r5)) R (fun gb=>?_) (fun gb=>?_))
   ·replace h:=aB h gb
    refine LH.exit (cv (bM (av (LH.aQ [(0,.ak 3 (p0.map aL.lv)),(1,.L p1),(6,.L l2),(7,.I (i64 (n3+1)))] [] R (bl R (sN (cr R R (bo R zS)))) ?_))))
    exact bg ⟨l2,(i64 (n3+1)),ba ▸ h,R,R⟩ (Wk.eq R R R R)
   replace h:=aA h gb
   refine LH.skip (av (LH.aj [(0,.ak 3 (p0.map aL.lv)),(1,.L p1),(6,.L l2),(7,.I n3),(8,.I (l2.length:Int))] [] R (eZ R (sN (bX (f:=LV.I) cz R (bo R zS)))) (LH.seq (LH.block (LH.loop (fun n e m=>∃ (n7:Int),Db aH p0 l2 n3 n n7=some r∧e=Env.of [(0,.ak 3 (p0.map aL.lv)),(1,.L p1),(6,.L l2),(7,.I n3),(8,.I n7)]∧m=Mem.of []) F ⟨(l2.length:Int),h,R,R⟩ ?_)))))
   clear h
   rintro n e m ⟨n7,h,rfl,rfl⟩
   rcases n with _ | n
   · cases (show Option.none=some _ from h)
   obtain ⟨eH,dO⟩:∃ f,f=Db aH p0 l2 n3 n:=⟨_,rfl⟩
   replace h:Gh aH p0 l2 n3 eH n7=some r:=dO ▸ h
   unfold Gh at h
   refine LH.seq ?_
   obtain ⟨w9,hv,h⟩:=al h
   refine LH.c7 mixed [] [0,0,0,0,0,0,0,0,0,0,0,0,0,0,0,0,0,0] [(0,.ak 3 (p0.map aL.lv)),(1,.L p1),(6,.L l2),(7,.I n3),(8,.I n7),(45,.bool w9)] [] R R (by kernel_rfl) ?_ ?_
   ·refine eV R (aF (iw R R ⟨R,iF R ?_⟩))
    by_cases bx:(decide (n7 > 0))=true
    ·replace hv:=aB hv bx
     refine mT R (cB bx) (pO R (mT R (cB bx) (pO R (mT R (cB bx) (eV R (mT R (cB bx) (aF (iG R R ⟨R,?_⟩))))))))
     obtain ⟨bc,xq,hv⟩:=al hv
     refine mT R (cB bx) (aF (eW (f:=LV.I) cz aE bb R R lO xq R ⟨R,mT R (cB bx) (aF (bf R aE bN ⟨R,?_⟩))⟩))
     obtain ⟨gq,px,hv⟩:=al hv
     refine mT R (cB bx) (aF (eW (f:=aL.lv) eU b6 bW R R aL.ok px R ⟨R,mT R (cB bx) (aF (bh R b6 fX bW R R ⟨R,mT R (cB bx) (pO R (mT R (cB bx) (eV R ?_)))⟩))⟩))
     obtain ⟨cT,lY,hv⟩:=al hv
     refine mT R (cB bx) (aF (eW (f:=aL.lv) eU b6 bW R R aL.ok lY R ⟨R,mT R (cB bx) (aF (bh R b6 fX bW R R ⟨R,?_⟩))⟩))
     obtain ⟨fb,vG,hv⟩:=al hv
     refine mT R (cB bx) (aF (dU (args:=[.agg [.I gq.Time,.I gq.Source,.I gq.Seq],.agg [.I cT.Time,.I cT.Source,.I cT.Seq]]) R OD R (aK (aK bt)) (Pu vG) R ⟨R,mT R (cB bx) (aF (iw R R ⟨R,aF (aW (cB bx) (v:=(.bool _)) R ⟨R,?_⟩)⟩))⟩))
     obtain rfl:=oI hv
     exact zM
    ·replace bx:=bF bx
     replace hv:=aA hv bx
     refine mF R R bx (mF R R bx (mF R R bx (mF R R bx (mF R R bx (mF R R bx (mF R R bx (mF R R bx (mF R R bx (mF R R bx (mF R R bx (mF R R bx (mF R R bx (mF R R bx (aF (aV (cB bx) (v:=(.bool _)) R ⟨R,?_⟩)))))))))))))))
     obtain rfl:=oI hv
     exact zM
   clear hv
   refine LH.cond (t:=w9) R (fun ja=>?_) (fun ja=>?_)
   ·replace h:=aB h ja
    refine LH.skip (av (LH.wk (aX [(0,.ak 3 (p0.map aL.lv)),(1,.L p1),(6,.L l2),(7,.I n3),(8,.I n7)] []) (LH.block (LH.aQ [(0,.ak 3 (p0.map aL.lv)),(1,.L p1),(6,.L l2),(7,.I n3),(8,.I (i64 (n7 - 1)))] [] R (bl R (sN (iG R R (bo R zS)))) (aY ?_)))))
    exact bg ⟨(i64 (n7 - 1)),dO ▸ h,R,R⟩ (Wk.eq R R R R)
   replace h:=aA h ja
   refine LH.exit (cv (bY (bM (av (LH.aj [(0,.ak 3 (p0.map aL.lv)),(1,.L p1),(6,.L l2),(7,.I n3),(8,.I n7),(9,.nil)] [] R (kh R zS) ?_)))))
   obtain ⟨DZ,KU,h⟩:=al h
   obtain ⟨v17,Ss,h⟩:=al h
   refine LH.aj [(0,.ak 3 (p0.map aL.lv)),(1,.L p1),(6,.L l2),(7,.I n3),(8,.I n7),(9,.arr 152 v17.length)] [(152,.arr 3 1 (v17.map LV.I))] R (Ib R (eZ R (bl R (sN (Tg (f:=LV.I) cz aE bb R R R KU (sN (CT (f:=LV.I) (id:=152) R cz qN bb R R Ss R (nE R zS)))))))) ?_
   obtain ⟨pP,Fg,h⟩:=al h
   refine LH.aj [(0,.ak 3 (p0.map aL.lv)),(1,.L p1),(6,.L l2),(7,.I n3),(8,.I n7),(9,.arr 152 pP.length)] [(152,.arr 3 1 (pP.map LV.I))] R (j5 R (bl R (sN (jI (f:=LV.I) (ys:=[n3]) cz qN bb R R R lO (sN (my (f:=LV.I) cz qN bb R R (bO R) R Fg (nE R zS))))))) ?_
   obtain ⟨qQ,Fh,h⟩:=al h
   obtain ⟨v20,KV,h⟩:=al h
   refine LH.aj [(0,.ak 3 (p0.map aL.lv)),(1,.L p1),(7,.I n3),(9,.L v20)] [] R (j5 R (eZ R (bl R (sN (Tg (f:=LV.I) cz aE bb R R R Fh (sN (my (f:=LV.I) cz qN bb R R (bO R) R KV (nE R (s0 ((Wk.trans (aX [(0,.ak 3 (p0.map aL.lv)),(1,.L p1),(7,.I n3),(9,.arr 152 v20.length)] [(152,.arr 3 1 (v20.map LV.I))]) (Wk.trans (Wk.kL (f:=LV.I) (fk:=[(0,.ak 3 (p0.map aL.lv)),(1,.L p1),(7,.I n3),(9,.L v20)]) 152 3 1 v20 R R (bO R) (fK R (fK R (fK R (fZ fN))))) (Wk.eq R R R R))))))))))))) (LH.aQ [(0,.ak 3 (p0.map aL.lv)),(1,.L p1),(6,.L v20),(7,.I n3)] [] R (eZ R (qb R zS)) (aY (av (LH.aQ [(0,.ak 3 (p0.map aL.lv)),(1,.L p1),(6,.L v20),(7,.I (i64 (n3+1)))] [] R (bl R (sN (cr R R (bo R zS)))) ?_))))
   exact bg ⟨v20,(i64 (n3+1)),ba ▸ h,R,R⟩ (Wk.eq R R R R)
  replace h:=aA h jW
  refine LH.exit (cv (bY (bM (av (LH.wk (aX [(6,.L l2)] []) (LH.seq (LH.aj [(6,.L l2),(65,.bool (decide ((l2.length:Int) > 300)))] [] R (eZ R (sN (bX (f:=LV.I) cz R (sN (iw R R zS))))) (LH.cond (t:=(decide ((l2.length:Int) > 300))) R (fun oj=>?_) (fun oj=>?_)))))))))
  ·replace h:=aB h oj
   refine LH.aj [(4,.nil),(5,.I 3)] [] R (kh R (bo R zS)) (LH.ret (aZ ?_))
   obtain rfl:=oI h
   exact aS (aT Tryz.results63) (bR R (bR R (bP ⟨aR mN,R,a8 R,(Sub.de (yI (aK bt)))⟩)))
  replace h:=aA h oj
  refine LH.skip (av (LH.aj [(4,.L l2),(5,.I 0)] [] R (eZ R (qb R (bo R zS))) (LH.ret ?_)))
  obtain rfl:=oI h
  exact aS (aT Tryz.results63) (bR R (bR R (bP ⟨aR mN,R,a8 R,(Sub.de (aK (aK bt)))⟩)))
theorem Pj {F:Nat} {p0:List ax} {r:List ax × Int} (h:BU F p0=some r):aP Tryz.prog 34 [.ak 12 (p0.map ax.lv)] (Mem.of []) (.de [.ak 12 (r.1.map ax.lv),.I r.2]) (Mem.of []):=by
  unfold BU at h
  refine bu Tryz.func34 R (nT Tryz.ntmps34 R) (LH.wk (aX [(0,.ak 12 (p0.map ax.lv))] []) (LH.aj [(0,.ak 12 (p0.map ax.lv))] [] R (kh R (bo R zS)) (LH.aj [(0,.ak 12 (p0.map ax.lv)),(4,.nil)] [] R (kh R zS) (LH.aj [(0,.ak 12 (p0.map ax.lv)),(4,.nil),(5,.nil)] [] R (kh R zS) (LH.seq (LH.aj [(0,.ak 12 (p0.map ax.lv)),(4,.nil),(5,.nil),(6,.I 0)] [] R (bo R zS) (LH.block (LH.wk ((Wk.trans (aX [(0,.ak 12 (p0.map ax.lv)),(4,.nil),(5,.nil),(6,.I 0)] []) (Wk.trans (aX [(0,.ak 12 (p0.map ax.lv)),(4,.nil),(5,.nil),(6,.I 0)] []) (Wk.trans (Wk.rl (fk:=[(0,.ak 12 (p0.map ax.lv)),(4,.arr 143 (List.length ([]:List aL))),(5,.nil),(6,.I 0)]) 143 61 3 R R (wK (wO (wK (wK wN))))) (Wk.trans (aX [(0,.ak 12 (p0.map ax.lv)),(4,.arr 143 (List.length ([]:List aL))),(5,.nil),(6,.I 0)] [(143,.arr 61 3 (List.map aL.lv ([]:List aL)))]) (Wk.trans (Wk.rl (fk:=[(0,.ak 12 (p0.map ax.lv)),(4,.arr 143 (List.length ([]:List aL))),(5,.arr 147 (List.length ([]:List Int))),(6,.I 0)]) 147 3 1 R R (wK (wK (wO (wK wN))))) (aX [(0,.ak 12 (p0.map ax.lv)),(4,.arr 143 (List.length ([]:List aL))),(5,.arr 147 (List.length ([]:List Int))),(6,.I 0)] [(143,.arr 61 3 (List.map aL.lv ([]:List aL))),(147,.arr 3 1 (List.map LV.I ([]:List Int)))]))))))) (LH.loop (fun n e m=>∃ (n1:Int) (l2:List aL) (l3:List Int),yt F p0 n n1 l2 l3=some r∧e=Env.of [(0,.ak 12 (p0.map ax.lv)),(4,.arr 143 l2.length),(5,.arr 147 l3.length),(6,.I n1)]∧m=Mem.of [(143,.arr 61 3 (l2.map aL.lv)),(147,.arr 3 1 (l3.map LV.I))]) F ⟨0,([]:List aL),([]:List Int),h,R,R⟩ ?_)))))))))
  clear h
  rintro n e m ⟨n1,l2,l3,h,rfl,rfl⟩
  rcases n with _ | n
  · cases (show Option.none=some _ from h)
  obtain ⟨aH,ba⟩:∃ f,f=yt F p0 n:=⟨_,rfl⟩
  replace h:Gi F p0 aH n1 l2 l3=some r:=ba ▸ h
  unfold Gi at h
  refine LH.seq (LH.aj [(0,.ak 12 (p0.map ax.lv)),(4,.arr 143 l2.length),(5,.arr 147 l3.length),(6,.I n1),(16,.bool (decide (n1<(p0.length:Int))))] [(143,.arr 61 3 (l2.map aL.lv)),(147,.arr 3 1 (l3.map LV.I))] R (bl R (eZ R (sN (bX (f:=ax.lv) gn R (sN (fi R R zS)))))) (LH.cond (t:=(decide (n1<(p0.length:Int)))) R (fun jW=>?_) (fun jW=>?_)))
  ·replace h:=aB h jW
   refine LH.skip (av (LH.wk (aX [(0,.ak 12 (p0.map ax.lv)),(4,.arr 143 l2.length),(5,.arr 147 l3.length),(6,.I n1)] [(143,.arr 61 3 (l2.map aL.lv)),(147,.arr 3 1 (l3.map LV.I))]) (LH.seq (LH.block (LH.aj [(0,.ak 12 (p0.map ax.lv)),(4,.arr 143 l2.length),(5,.arr 147 l3.length),(6,.I n1),(7,.I n1)] [(143,.arr 61 3 (l2.map aL.lv)),(147,.arr 3 1 (l3.map LV.I))] R (bl R (bo R zS)) (LH.seq (LH.aj [(0,.ak 12 (p0.map ax.lv)),(4,.arr 143 l2.length),(5,.arr 147 l3.length),(6,.I n1),(7,.I n1),(8,.I (i64 (n1 - 1)))] [(143,.arr 61 3 (l2.map aL.lv)),(147,.arr 3 1 (l3.map LV.I))] R (bl R (sN (iG R R (bo R zS)))) (LH.block (LH.loop (fun n e m=>∃ (n5:Int) (n6:Int),AG aH F p0 n1 l2 l3 n n5 n6=some r∧e=Env.of [(0,.ak 12 (p0.map ax.lv)),(4,.arr 143 l2.length),(5,.arr 147 l3.length),(6,.I n1),(7,.I n5),(8,.I n6)]∧m=Mem.of [(143,.arr 61 3 (l2.map aL.lv)),(147,.arr 3 1 (l3.map LV.I))]) F ⟨n1,(i64 (n1 - 1)),h,R,R⟩ ?_)))))))))
   clear h
   rintro n e m ⟨n5,n6,h,rfl,rfl⟩
   rcases n with _ | n
   · cases (show Option.none=some _ from h)
   obtain ⟨eH,dO⟩:∃ f,f=AG aH F p0 n1 l2 l3 n:=⟨_,rfl⟩
   replace h:Gj aH F p0 n1 l2 l3 eH n5 n6=some r:=dO ▸ h
   unfold Gj at h
   refine LH.seq (LH.aj [(0,.ak 12 (p0.map ax.lv)),(4,.arr 143 l2.length),(5,.arr 147 l3.length),(6,.I n1),(7,.I n5),(8,.I n6),(23,.bool (decide (n6 ≥ 0)))] [(143,.arr 61 3 (l2.map aL.lv)),(147,.arr 3 1 (l3.map LV.I))] R (bl R (sN (pD R R zS))) (LH.cond (t:=(decide (n6 ≥ 0))) R (fun ke=>?_) (fun ke=>?_)))
   ·replace h:=aB h ke
    refine LH.skip (av (LH.wk (aX [(0,.ak 12 (p0.map ax.lv)),(4,.arr 143 l2.length),(5,.arr 147 l3.length),(6,.I n1),(7,.I n5),(8,.I n6)] [(143,.arr 61 3 (l2.map aL.lv)),(147,.arr 3 1 (l3.map LV.I))]) (LH.seq (LH.block ?_))))
    obtain ⟨x8,ud,h⟩:=al h
    obtain ⟨x9,zl,h⟩:=al h
    obtain ⟨dG,p5,h⟩:=al h
    refine LH.c7 mixed [] [0,0,0,0,0,0,0,0,0] [(0,.ak 12 (p0.map ax.lv)),(4,.arr 143 l2.length),(5,.arr 147 l3.length),(6,.I n1),(7,.I n5),(8,.I n6),(34,.bool dG)] [(143,.arr 61 3 (l2.map aL.lv)),(147,.arr 3 1 (l3.map LV.I))] R R (by kernel_rfl) (pO R (eV R (aF (eW (f:=ax.lv) gn fx ew R R ax.ok ud R ⟨R,aF (bh R fx me ew R R ⟨R,pO R (eV R (aF (eW (f:=ax.lv) gn fx ew R R ax.ok zl R ⟨R,aF (bh R fx me ew R R ⟨R,aF (dU (args:=[ax.lv x8,ax.lv x9]) R Oq R (aK (aK bt)) (PM p5) R ⟨R,zM⟩)⟩)⟩)))⟩)⟩)))) (LH.cond (t:=dG) R (fun iA=>?_) (fun iA=>?_))
    ·replace h:=aB h iA
     refine LH.aQ [(0,.ak 12 (p0.map ax.lv)),(4,.arr 143 l2.length),(5,.arr 147 l3.length),(6,.I n1),(7,.I n6),(8,.I n6)] [(143,.arr 61 3 (l2.map aL.lv)),(147,.arr 3 1 (l3.map LV.I))] R (bl R (bo R zS)) (aY (av (LH.aQ [(0,.ak 12 (p0.map ax.lv)),(4,.arr 143 l2.length),(5,.arr 147 l3.length),(6,.I n1),(7,.I n6),(8,.I (i64 (n6 - 1)))] [(143,.arr 61 3 (l2.map aL.lv)),(147,.arr 3 1 (l3.map LV.I))] R (bl R (sN (iG R R (bo R zS)))) ?_)))
     exact bg ⟨n6,(i64 (n6 - 1)),dO ▸ h,R,R⟩ (Wk.eq R R R R)
    replace h:=aA h iA
    refine LH.skip (aY (av (LH.aQ [(0,.ak 12 (p0.map ax.lv)),(4,.arr 143 l2.length),(5,.arr 147 l3.length),(6,.I n1),(7,.I n5),(8,.I (i64 (n6 - 1)))] [(143,.arr 61 3 (l2.map aL.lv)),(147,.arr 3 1 (l3.map LV.I))] R (bl R (sN (iG R R (bo R zS)))) ?_)))
    exact bg ⟨n5,(i64 (n6 - 1)),dO ▸ h,R,R⟩ (Wk.eq R R R R)
   replace h:=aA h ke
   refine LH.exit (cv (bY (bM (av ?_))))
   obtain ⟨gq,px,h⟩:=al h
   obtain ⟨rL,Ff,h⟩:=al h
   obtain ⟨kE,Am,h⟩:=al h
   refine LH.aQ [(0,.ak 12 (p0.map ax.lv)),(4,.arr 143 rL.length),(5,.arr 147 kE.length),(6,.I n1)] [(143,.arr 61 3 (rL.map aL.lv)),(147,.arr 3 1 (kE.map LV.I))] R ?_ ?_
   ·exact j5 R (eZ R (bl R (sN (eW (f:=ax.lv) gn fx ew R R ax.ok px R (sN (aw db b6 bW R R R (sN (bh R b6 fX bW R R (sN (jI (f:=aL.lv) (ys:=[gq.ar]) eU LN bW R R R aL.ok (sN (my (f:=aL.lv) eU LN bW R R (bO R) R Ff (j5 R (bl R (sN (jI (f:=LV.I) (ys:=[n5]) cz qN bb R R R lO (sN (my (f:=LV.I) cz qN bb R R (bO R) R Am (nE R (nE R zS))))))))))))))))))))
   refine aY (av (LH.aQ [(0,.ak 12 (p0.map ax.lv)),(4,.arr 143 rL.length),(5,.arr 147 kE.length),(6,.I (i64 (n1+1)))] [(143,.arr 61 3 (rL.map aL.lv)),(147,.arr 3 1 (kE.map LV.I))] R (bl R (sN (cr R R (bo R zS)))) ?_))
   exact bg ⟨(i64 (n1+1)),rL,kE,ba ▸ h,R,R⟩ (Wk.eq R R R R)
  replace h:=aA h jW
  refine LH.exit (cv (bY (bM (av (LH.wk ((Wk.trans (aX [(0,.ak 12 (p0.map ax.lv)),(4,.arr 143 l2.length),(5,.arr 147 l3.length)] [(143,.arr 61 3 (l2.map aL.lv)),(147,.arr 3 1 (l3.map LV.I))]) (Wk.trans (Wk.kL (f:=aL.lv) (fk:=[(0,.ak 12 (p0.map ax.lv)),(4,.ak 3 (l2.map aL.lv)),(5,.arr 147 l3.length)]) 143 61 3 l2 R R (bO R) (fK R (fZ (fK R fN)))) (Wk.trans (Wk.kL (f:=LV.I) (fk:=[(0,.ak 12 (p0.map ax.lv)),(4,.ak 3 (l2.map aL.lv)),(5,.L l3)]) 147 3 1 l3 R R (bO R) (fK R (fK R (fZ fN)))) (aX [(0,.ak 12 (p0.map ax.lv)),(4,.ak 3 (l2.map aL.lv)),(5,.L l3)] []))))) ?_)))))
  obtain ⟨gi,vH,h⟩:=al h
  refine LH.aj [(0,.ak 12 (p0.map ax.lv)),(9,.L gi.1),(10,.I gi.2)] [] R (eZ R (eZ R (sN (dU (args:=[.ak 3 (l2.map aL.lv),.L l3]) R Ot R (aK (aK bt)) (Pg vH) R (yH R (sN (iO R R (sN (iO R R (qb R (bo R zS))))))))))) (LH.seq (LH.aj [(0,.ak 12 (p0.map ax.lv)),(9,.L gi.1),(10,.I gi.2),(55,.bool (gi.2 != 0))] [] R (bl R (sN (kg R R zS))) (LH.cond (t:=(gi.2 != 0)) R (fun gE=>?_) (fun gE=>?_))))
  ·replace h:=aB h gE
   refine LH.aj [(2,.nil),(3,.I gi.2)] [] R (bl R (kh R (bo R zS))) (LH.ret (aZ ?_))
   obtain rfl:=oI h
   exact aS (aT Tryz.results34) (bR R (bR R (bP ⟨aR mN,R,a8 R,(Sub.de (yI (aK bt)))⟩)))
  replace h:=aA h gE
  refine LH.skip (av (LH.aj [(0,.ak 12 (p0.map ax.lv)),(9,.L gi.1),(11,.nil)] [] R (kh R zS) (LH.seq (LH.aj [(0,.ak 12 (p0.map ax.lv)),(9,.L gi.1),(11,.nil),(12,.I 0)] [] R (bo R zS) (LH.block (LH.wk ((Wk.trans (aX [(0,.ak 12 (p0.map ax.lv)),(9,.L gi.1),(11,.nil),(12,.I 0)] []) (Wk.trans (aX [(0,.ak 12 (p0.map ax.lv)),(9,.L gi.1),(11,.nil),(12,.I 0)] []) (Wk.trans (Wk.rl (fk:=[(0,.ak 12 (p0.map ax.lv)),(9,.L gi.1),(11,.arr 172 (List.length ([]:List ax))),(12,.I 0)]) 172 63 12 R R (wK (wK (wO (wK wN))))) (aX [(0,.ak 12 (p0.map ax.lv)),(9,.L gi.1),(11,.arr 172 (List.length ([]:List ax))),(12,.I 0)] [(172,.arr 63 12 (List.map ax.lv ([]:List ax)))]))))) (LH.loop (fun n e m=>∃ (n17:Int) (wF:List ax),AH p0 gi n n17 wF=some r∧e=Env.of [(0,.ak 12 (p0.map ax.lv)),(9,.L gi.1),(11,.arr 172 wF.length),(12,.I n17)]∧m=Mem.of [(172,.arr 63 12 (wF.map ax.lv))]) F ⟨0,([]:List ax),h,R,R⟩ ?_)))))))
  clear h
  rintro n e m ⟨n17,wF,h,rfl,rfl⟩
  rcases n with _ | n
  · cases (show Option.none=some _ from h)
  obtain ⟨oN,mw⟩:∃ f,f=AH p0 gi n:=⟨_,rfl⟩
  replace h:Gk p0 gi oN n17 wF=some r:=mw ▸ h
  unfold Gk at h
  refine LH.seq (LH.aj [(0,.ak 12 (p0.map ax.lv)),(9,.L gi.1),(11,.arr 172 wF.length),(12,.I n17),(60,.bool (decide (n17<(gi.1.length:Int))))] [(172,.arr 63 12 (wF.map ax.lv))] R (bl R (eZ R (sN (bX (f:=LV.I) cz R (sN (fi R R zS)))))) (LH.cond (t:=(decide (n17<(gi.1.length:Int)))) R (fun zU=>?_) (fun zU=>?_)))
  ·replace h:=aB h zU
   refine LH.skip (av (LH.wk (aX [(0,.ak 12 (p0.map ax.lv)),(9,.L gi.1),(11,.arr 172 wF.length),(12,.I n17)] [(172,.arr 63 12 (wF.map ax.lv))]) (LH.seq (LH.block ?_))))
   obtain ⟨QV,HJ,h⟩:=al h
   obtain ⟨D1,Fo,h⟩:=al h
   obtain ⟨v22,Su,h⟩:=al h
   refine LH.aQ [(0,.ak 12 (p0.map ax.lv)),(9,.L gi.1),(11,.arr 172 v22.length),(12,.I n17)] [(172,.arr 63 12 (v22.map ax.lv))] R (j5 R (eZ R (eZ R (bl R (sN (eW (f:=LV.I) cz aE bb R R lO HJ R (sN (bf R aE bN (sN (eW (f:=ax.lv) gn fx ew R R ax.ok Fo R (sN (bh R fx me ew R R (sN (jI (f:=ax.lv) (ys:=[D1]) gn y2 ew R R R ax.ok (sN (my (f:=ax.lv) gn y2 ew R R (bO R) R Su (nE R zS))))))))))))))))) (aY (av (LH.aQ [(0,.ak 12 (p0.map ax.lv)),(9,.L gi.1),(11,.arr 172 v22.length),(12,.I (i64 (n17+1)))] [(172,.arr 63 12 (v22.map ax.lv))] R (bl R (sN (cr R R (bo R zS)))) ?_)))
   exact bg ⟨(i64 (n17+1)),v22,mw ▸ h,R,R⟩ (Wk.eq R R R R)
  replace h:=aA h zU
  refine LH.exit (cv (bY (bM (av (LH.wk ((Wk.trans (aX [(11,.arr 172 wF.length)] [(172,.arr 63 12 (wF.map ax.lv))]) (Wk.trans (Wk.kL (f:=ax.lv) (fk:=[(11,.ak 12 (wF.map ax.lv))]) 172 63 12 wF R R (bO R) (fZ fN)) (aX [(11,.ak 12 (wF.map ax.lv))] [])))) (LH.aj [(2,.ak 12 (wF.map ax.lv)),(3,.I 0)] [] R (eZ R (qb R (bo R zS))) (LH.ret ?_)))))))
  obtain rfl:=oI h
  exact aS (aT Tryz.results34) (bR R (bR R (bP ⟨aR mN,R,a8 R,(Sub.de (aK (aK bt)))⟩)))
theorem Ph {p0:ao} {r:Bool} (h:xP p0=some r):aP Tryz.prog 84 [ao.lv p0] (Mem.of []) (.bool r) (Mem.of []):=by
  unfold xP at h
  refine bu Tryz.func84 R (nT Tryz.ntmps84 R) (LH.wk (aX [(0,ao.lv p0)] []) (LH.aj [(1,.ag (ao.lv p0).cells)] [] R (sB (dp R R R R (cm R zS))) (LH.seq (LH.aj [(1,.ag (ao.lv p0).cells),(30,.bool ((decide (p0.Max<1)) || ((decide (p0.Max > 40)) || ((decide (p0.e5<0)) || ((decide (p0.e5 ≥ 16)) || ((decide (p0.cg<0)) || (decide (p0.cg ≥ 6))))))))] [] R ?_ ?_))))
  ·refine sN (aw mP aE bb R R R (sN (bf R aE bN (sN (fi R R (bI R ?_))))))
   by_cases cL:(decide (p0.Max<1))=true
   ·exact sF R R cL (sF R R cL (sF R R cL (sN (aW (cB cL) (v:=(.bool _)) R (bI R (sF R R R (sF R R R (sF R R R (sN (aW R (v:=(.bool _)) R (bI R (sF R R R (sF R R R (sF R R R (sN (aW R (v:=(.bool _)) R (bI R (sF R R R (sF R R R (sF R R R (sN (aW R (v:=(.bool _)) R (bI R (sF R R R (sF R R R (sF R R R (sN (aW R (v:=(.bool _)) R (s0 (Wk.to (eC R (eC (cB (p7 cL)) eN)) mN R (a8 R)))))))))))))))))))))))))))))))
   ·replace cL:=bF cL
    refine sT R (cB cL) (aw mP aE bb R R R (sT R (cB cL) (bf R aE bN (sT R (cB cL) (iw R R (sN (aV (cB cL) (v:=(.bool _)) R (bI R ?_))))))))
    by_cases bZ:(decide (p0.Max > 40))=true
    ·exact sF R R bZ (sF R R bZ (sF R R bZ (sN (aW (cB bZ) (v:=(.bool _)) R (bI R (sF R R R (sF R R R (sF R R R (sN (aW R (v:=(.bool _)) R (bI R (sF R R R (sF R R R (sF R R R (sN (aW R (v:=(.bool _)) R (bI R (sF R R R (sF R R R (sF R R R (sN (aW R (v:=(.bool _)) R (s0 (Wk.to (eC R (eC (cB (Eq.trans (p7 bZ) (iJ cL))) eN)) mN R (a8 R)))))))))))))))))))))))))
    ·replace bZ:=bF bZ
     refine sT R (cB bZ) (aw qg aE bb R R R (sT R (cB bZ) (bf R aE bN (sT R (cB bZ) (fi R R (sN (aV (cB bZ) (v:=(.bool _)) R (bI R ?_))))))))
     by_cases bJ:(decide (p0.e5<0))=true
     ·exact sF R R bJ (sF R R bJ (sF R R bJ (sN (aW (cB bJ) (v:=(.bool _)) R (bI R (sF R R R (sF R R R (sF R R R (sN (aW R (v:=(.bool _)) R (bI R (sF R R R (sF R R R (sF R R R (sN (aW R (v:=(.bool _)) R (s0 (Wk.to (eC R (eC (cB (Eq.trans (Eq.trans (p7 bJ) (iJ bZ)) (iJ cL))) eN)) mN R (a8 R)))))))))))))))))))
     ·replace bJ:=bF bJ
      refine sT R (cB bJ) (aw qg aE bb R R R (sT R (cB bJ) (bf R aE bN (sT R (cB bJ) (pD R R (sN (aV (cB bJ) (v:=(.bool _)) R (bI R ?_))))))))
      by_cases bK:(decide (p0.e5 ≥ 16))=true
      ·exact sF R R bK (sF R R bK (sF R R bK (sN (aW (cB bK) (v:=(.bool _)) R (bI R (sF R R R (sF R R R (sF R R R (sN (aW R (v:=(.bool _)) R (s0 (Wk.to (eC R (eC (cB (Eq.trans (Eq.trans (Eq.trans (p7 bK) (iJ bJ)) (iJ bZ)) (iJ cL))) eN)) mN R (a8 R)))))))))))))
      ·replace bK:=bF bK
       refine sT R (cB bK) (aw qh aE bb R R R (sT R (cB bK) (bf R aE bN (sT R (cB bK) (fi R R (sN (aV (cB bK) (v:=(.bool _)) R (bI R ?_))))))))
       by_cases b3:(decide (p0.cg<0))=true
       ·exact sF R R b3 (sF R R b3 (sF R R b3 (sN (aW (cB b3) (v:=(.bool _)) R (s0 (Wk.to (eC R (eC (cB (Eq.trans (Eq.trans (Eq.trans (Eq.trans (p7 b3) (iJ bK)) (iJ bJ)) (iJ bZ)) (iJ cL))) eN)) mN R (a8 R)))))))
       ·replace b3:=bF b3
        exact sT R (cB b3) (aw qh aE bb R R R (sT R (cB b3) (bf R aE bN (sT R (cB b3) (pD R R (sN (aV (cB b3) (v:=(.bool _)) R (s0 (Wk.to (eC R (eC (cB (Eq.trans (Eq.trans (Eq.trans (Eq.trans (iJ b3) (iJ bK)) (iJ bJ)) (iJ bZ)) (iJ cL))) eN)) mN R (a8 R))))))))))
  refine LH.cond (t:=((decide (p0.Max<1)) || ((decide (p0.Max > 40)) || ((decide (p0.e5<0)) || ((decide (p0.e5 ≥ 16)) || ((decide (p0.cg<0)) || (decide (p0.cg ≥ 6)))))))) R (fun ke=>?_) (fun ke=>?_)
  ·replace h:=aB h ke
   refine LH.aj [(2,.bool false)] [] R (cm R zS) (LH.ret (aZ ?_))
   obtain rfl:=oI h
   exact aS (aT Tryz.results84) (bR R (bP ⟨aR mN,R,a8 R,Sub.rfl⟩))
  replace h:=aA h ke
  refine LH.skip (av (LH.wk (aX [(1,.ag (ao.lv p0).cells)] []) (LH.seq (LH.aj [(1,.ag (ao.lv p0).cells),(33,.bool (p0.Kind == 1))] [] R (sN (aw oS aE bb R R R (sN (bf R aE bN (sN (gm R R zS)))))) (LH.cond (t:=(p0.Kind == 1)) R (fun ly=>?_) (fun ly=>?_))))))
  ·replace h:=aB h ly
   refine LH.aj [(2,.bool ((p0.Options == 0) && (p0.Key == 0)))] [] R ?_ ?_
   ·refine sN (aw j9 aE bb R R R (sN (bf R aE bN (sN (gm R R (bI R ?_))))))
    by_cases bx:(p0.Options == 0)=true
    ·exact sT R (cB bx) (aw mQ aE bb R R R (sT R (cB bx) (bf R aE bN (sT R (cB bx) (gm R R (sN (aW (cB bx) (v:=(.bool _)) R (cm R (s0 (Wk.to (eC (cB (dv bx)) eN) mN R (a8 R)))))))))))
    ·replace bx:=bF bx
     exact sF R R bx (sF R R bx (sF R R bx (sN (aV (cB bx) (v:=(.bool _)) R (cm R (s0 (Wk.to (eC (cB (jA bx)) eN) mN R (a8 R))))))))
   refine LH.ret (aZ ?_)
   obtain rfl:=oI h
   exact aS (aT Tryz.results84) (bR R (bP ⟨aR mN,R,a8 R,Sub.rfl⟩))
  replace h:=aA h ly
  refine LH.skip (av (LH.aj [(2,.bool ((p0.Kind == 2) && ((decide (p0.Options ≥ 2)) && ((decide (p0.Options≤5)) && ((decide (p0.Key ≥ 0)) && (decide (p0.Key<p0.Options)))))))] [] R ?_ ?_))
  ·refine sN (aw oS aE bb R R R (sN (bf R aE bN (sN (gm R R (bI R ?_))))))
   by_cases eh:(p0.Kind == 2)=true
   ·refine sT R (cB eh) (aw j9 aE bb R R R (sT R (cB eh) (bf R aE bN (sT R (cB eh) (pD R R (sN (aW (cB eh) (v:=(.bool _)) R (bI R ?_))))))))
    by_cases bS:(decide (p0.Options ≥ 2))=true
    ·refine sT R (cB bS) (aw j9 aE bb R R R (sT R (cB bS) (bf R aE bN (sT R (cB bS) (FJ R R (sN (aW (cB bS) (v:=(.bool _)) R (bI R ?_))))))))
     by_cases cC:(decide (p0.Options≤5))=true
     ·refine sT R (cB cC) (aw mQ aE bb R R R (sT R (cB cC) (bf R aE bN (sT R (cB cC) (pD R R (sN (aW (cB cC) (v:=(.bool _)) R (bI R ?_))))))))
      by_cases bV:(decide (p0.Key ≥ 0))=true
      ·exact sT R (cB bV) (aw mQ aE bb R R R (sT R (cB bV) (bf R aE bN (sT R (cB bV) (aw j9 aE bb R R R (sT R (cB bV) (bf R aE bN (sT R (cB bV) (fi R R (sN (aW (cB bV) (v:=(.bool _)) R (cm R (s0 (Wk.to (eC (cB (Eq.trans (Eq.trans (Eq.trans (dv bV) (dv cC)) (dv bS)) (dv eh))) eN) mN R (a8 R)))))))))))))))
      ·replace bV:=bF bV
       exact sF R R bV (sF R R bV (sF R R bV (sF R R bV (sF R R bV (sN (aV (cB bV) (v:=(.bool _)) R (cm R (s0 (Wk.to (eC (cB (Eq.trans (Eq.trans (Eq.trans (jA bV) (dv cC)) (dv bS)) (dv eh))) eN) mN R (a8 R))))))))))
     ·replace cC:=bF cC
      exact sF R R cC (sF R R cC (sF R R cC (sN (aV (cB cC) (v:=(.bool _)) R (bI R (sF R R R (sF R R R (sF R R R (sF R R R (sF R R R (sN (aV R (v:=(.bool _)) R (cm R (s0 (Wk.to (eC (cB (Eq.trans (Eq.trans (jA cC) (dv bS)) (dv eh))) eN) mN R (a8 R))))))))))))))))
    ·replace bS:=bF bS
     exact sF R R bS (sF R R bS (sF R R bS (sN (aV (cB bS) (v:=(.bool _)) R (bI R (sF R R R (sF R R R (sF R R R (sN (aV R (v:=(.bool _)) R (bI R (sF R R R (sF R R R (sF R R R (sF R R R (sF R R R (sN (aV R (v:=(.bool _)) R (cm R (s0 (Wk.to (eC (cB (Eq.trans (jA bS) (dv eh))) eN) mN R (a8 R))))))))))))))))))))))
   ·replace eh:=bF eh
    exact sF R R eh (sF R R eh (sF R R eh (sN (aV (cB eh) (v:=(.bool _)) R (bI R (sF R R R (sF R R R (sF R R R (sN (aV R (v:=(.bool _)) R (bI R (sF R R R (sF R R R (sF R R R (sN (aV R (v:=(.bool _)) R (bI R (sF R R R (sF R R R (sF R R R (sF R R R (sF R R R (sN (aV R (v:=(.bool _)) R (cm R (s0 (Wk.to (eC (cB (jA eh)) eN) mN R (a8 R))))))))))))))))))))))))))))
  refine LH.ret ?_
  obtain rfl:=oI h
  exact aS (aT Tryz.results84) (bR R (bP ⟨aR mN,R,a8 R,Sub.rfl⟩))
set_option maxHeartbeats 4000000 in
theorem F4 {F:Nat} {p0:ai} {r:Int} (h:tp F p0=some r):aP Tryz.prog 66 [ai.lv p0] (Mem.of []) (.I r) (Mem.of []):=by
  unfold tp at h
  refine bu Tryz.func66 R (nT Tryz.ntmps66 R) (LH.wk (aX [(0,ai.lv p0)] []) (LH.aj [(1,.ag (ai.lv p0).cells)] [] R (sB (dp R R R R (bo R zS))) (LH.seq (LH.aj [(1,.ag (ai.lv p0).cells),(23,.bool ((decide (p0.ID<0)) || ((decide (p0.ID > 9999)) || ((decide (p0.Version<1)) || (decide (p0.Version > 8))))))] [] R ?_ ?_))))
  ·refine sN (aw e6 aE bb R R R (sN (bf R aE bN (sN (fi R R (bI R ?_))))))
   by_cases cL:(decide (p0.ID<0))=true
   ·exact sF R R cL (sF R R cL (sF R R cL (sN (aW (cB cL) (v:=(.bool _)) R (bI R (sF R R R (sF R R R (sF R R R (sN (aW R (v:=(.bool _)) R (bI R (sF R R R (sF R R R (sF R R R (sN (aW R (v:=(.bool _)) R (s0 (Wk.to (eC R (eC (cB (p7 cL)) eN)) mN R (a8 R)))))))))))))))))))
   ·replace cL:=bF cL
    refine sT R (cB cL) (aw e6 aE bb R R R (sT R (cB cL) (bf R aE bN (sT R (cB cL) (iw R R (sN (aV (cB cL) (v:=(.bool _)) R (bI R ?_))))))))
    by_cases bZ:(decide (p0.ID > 9999))=true
    ·exact sF R R bZ (sF R R bZ (sF R R bZ (sN (aW (cB bZ) (v:=(.bool _)) R (bI R (sF R R R (sF R R R (sF R R R (sN (aW R (v:=(.bool _)) R (s0 (Wk.to (eC R (eC (cB (Eq.trans (p7 bZ) (iJ cL))) eN)) mN R (a8 R)))))))))))))
    ·replace bZ:=bF bZ
     refine sT R (cB bZ) (aw fE aE bb R R R (sT R (cB bZ) (bf R aE bN (sT R (cB bZ) (fi R R (sN (aV (cB bZ) (v:=(.bool _)) R (bI R ?_))))))))
     by_cases bJ:(decide (p0.Version<1))=true
     ·exact sF R R bJ (sF R R bJ (sF R R bJ (sN (aW (cB bJ) (v:=(.bool _)) R (s0 (Wk.to (eC R (eC (cB (Eq.trans (Eq.trans (p7 bJ) (iJ bZ)) (iJ cL))) eN)) mN R (a8 R)))))))
     ·replace bJ:=bF bJ
      exact sT R (cB bJ) (aw fE aE bb R R R (sT R (cB bJ) (bf R aE bN (sT R (cB bJ) (iw R R (sN (aV (cB bJ) (v:=(.bool _)) R (s0 (Wk.to (eC R (eC (cB (Eq.trans (Eq.trans (iJ bJ) (iJ bZ)) (iJ cL))) eN)) mN R (a8 R))))))))))
  refine LH.cond (t:=((decide (p0.ID<0)) || ((decide (p0.ID > 9999)) || ((decide (p0.Version<1)) || (decide (p0.Version > 8)))))) R (fun ky=>?_) (fun ky=>?_)
  ·replace h:=aB h ky
   refine LH.aj [(2,.I 2)] [] R (bo R zS) (LH.ret (aZ ?_))
   obtain rfl:=oI h
   exact aS (aT Tryz.results66) (bR R (bP ⟨aR mN,R,a8 R,Sub.rfl⟩))
  replace h:=aA h ky
  refine LH.skip (av (LH.wk (aX [(1,.ag (ai.lv p0).cells)] []) (LH.seq (LH.aj [(1,.ag (ai.lv p0).cells),(39,.bool ((decide ((p0.bD.size:Int) > 40)) || ((decide ((p0.aI.length:Int) > 6)) || (decide ((p0.aD.length:Int) > 8)))))] [] R ?_ ?_))))
  ·refine sN (aw gJ oY wH R R R (sN (bf R oY DA (sX ((rE Ig R).ok) (sN (iw R R (bI R ?_)))))))
   by_cases bT:(decide ((p0.bD.size:Int) > 40))=true
   ·exact sF R R bT (sF R R bT (sF R R bT (sF R R bT (sN (aW (cB bT) (v:=(.bool _)) R (bI R (sF R R R (sF R R R (sF R R R (sF R R R (sN (aW R (v:=(.bool _)) R (s0 (Wk.to (eC R (eC (cB (p7 bT)) eN)) mN R (a8 R)))))))))))))))
   ·replace bT:=bF bT
    refine sT R (cB bT) (aw cX cY fy R R R (sT R (cB bT) (bf R cY iL (sT R (cB bT) (bX (f:=ao.lv) gj R (sT R (cB bT) (iw R R (sN (aV (cB bT) (v:=(.bool _)) R (bI R ?_))))))))))
    by_cases c6:(decide ((p0.aI.length:Int) > 6))=true
    ·exact sF R R c6 (sF R R c6 (sF R R c6 (sF R R c6 (sN (aW (cB c6) (v:=(.bool _)) R (s0 (Wk.to (eC R (eC (cB (Eq.trans (p7 c6) (iJ bT))) eN)) mN R (a8 R))))))))
    ·replace c6:=bF c6
     exact sT R (cB c6) (aw fp eI jh R R R (sT R (cB c6) (bf R eI l9 (sT R (cB c6) (bX (f:=LV.I) cz R (sT R (cB c6) (iw R R (sN (aV (cB c6) (v:=(.bool _)) R (s0 (Wk.to (eC R (eC (cB (Eq.trans (iJ c6) (iJ bT))) eN)) mN R (a8 R))))))))))))
  refine LH.cond (t:=((decide ((p0.bD.size:Int) > 40)) || ((decide ((p0.aI.length:Int) > 6)) || (decide ((p0.aD.length:Int) > 8))))) R (fun sy=>?_) (fun sy=>?_)
  ·replace h:=aB h sy
   refine LH.aj [(2,.I 3)] [] R (bo R zS) (LH.ret (aZ ?_))
   obtain rfl:=oI h
   exact aS (aT Tryz.results66) (bR R (bP ⟨aR mN,R,a8 R,Sub.rfl⟩))
  replace h:=aA h sy
  refine LH.skip (av (LH.wk (aX [(1,.ag (ai.lv p0).cells)] []) (LH.seq (LH.aj [(1,.ag (ai.lv p0).cells),(42,.bool (decide (p0.bD=(ByteArray.mk #[]))))] [] R (sN (aw gJ oY wH R R R (sN (bf R oY DA (sX ((vR R R).ok) zS))))) (LH.cond (t:=(decide (p0.bD=(ByteArray.mk #[])))) R (fun gU=>?_) (fun gU=>?_))))))
  ·replace h:=aB h gU
   refine LH.aj [(2,.I 7)] [] R (bo R zS) (LH.ret (aZ ?_))
   obtain rfl:=oI h
   exact aS (aT Tryz.results66) (bR R (bP ⟨aR mN,R,a8 R,Sub.rfl⟩))
  replace h:=aA h gU
  refine LH.skip (av (LH.wk (aX [(1,.ag (ai.lv p0).cells)] []) (LH.seq (LH.aj [(1,.ag (ai.lv p0).cells),(3,.I 0)] [] R (bo R zS) (LH.block (LH.loop (fun n e m=>∃ (n11:Int),AP F p0 n n11=some r∧e=Env.of [(1,.ag (ai.lv p0).cells),(3,.I n11)]∧m=Mem.of []) F ⟨0,h,R,R⟩ ?_))))))
  clear h
  rintro n e m ⟨n11,h,rfl,rfl⟩
  rcases n with _ | n
  · cases (show Option.none=some _ from h)
  obtain ⟨aH,ba⟩:∃ f,f=AP F p0 n:=⟨_,rfl⟩
  replace h:xE F p0 aH n11=some r:=ba ▸ h
  unfold xE at h
  refine LH.seq (LH.aj [(1,.ag (ai.lv p0).cells),(3,.I n11),(47,.bool (decide (n11<(p0.bD.size:Int))))] [] R (bl R (sN (aw gJ oY wH R R R (sN (bf R oY DA (sX ((rE Ig R).ok) (sN (fi R R zS)))))))) (LH.cond (t:=(decide (n11<(p0.bD.size:Int)))) R (fun gD=>?_) (fun gD=>?_)))
  ·replace h:=aB h gD
   refine LH.skip (av (LH.wk (aX [(1,.ag (ai.lv p0).cells),(3,.I n11)] []) (LH.seq (LH.block ?_))))
   obtain ⟨Is,hv,h⟩:=al h
   refine LH.aj [(1,.ag (ai.lv p0).cells),(3,.I n11),(61,.bool Is)] [] R ?_ ?_
   ·refine sN (aw gJ oY wH R R R (sN (bf R oY DA (bl R ?_))))
    obtain ⟨Ts,SI,hv⟩:=al hv
    refine sX ((vS Ig R R SI).ok) (sN (fi R R (bI R ?_)))
    by_cases fP:(decide (Ts<32))=true
    ·replace hv:=aB hv fP
     refine sF R R fP (sF R R fP (sF R R fP (sF R R fP (sF R R fP (sN (aW (cB fP) (v:=(.bool _)) R ?_))))))
     obtain rfl:=oI hv
     exact zS
    ·replace fP:=bF fP
     replace hv:=aA hv fP
     refine sT R (cB fP) (aw gJ oY wH R R R (sT R (cB fP) (bf R oY DA (sT R (cB fP) (oM (v:=(.int _ _)) R ?_)))))
     obtain ⟨nK,uc,hv⟩:=al hv
     refine LI R (cB fP) ((vS Ig R R uc).ok) (sT R (cB fP) (iw R R (sN (aV (cB fP) (v:=(.bool _)) R ?_))))
     obtain rfl:=oI hv
     exact zS
   clear hv
   refine LH.cond (t:=Is) R (fun iB=>?_) (fun iB=>?_)
   ·replace h:=aB h iB
    refine LH.aj [(2,.I 7)] [] R (bo R zS) (LH.ret (bL (aZ (dY (bL (aZ ?_))))))
    obtain rfl:=oI h
    exact aS (aT Tryz.results66) (bR R (bP ⟨aR mN,R,a8 R,Sub.rfl⟩))
   replace h:=aA h iB
   refine LH.skip (aY (av (LH.aQ [(1,.ag (ai.lv p0).cells),(3,.I (i64 (n11+1)))] [] R (bl R (sN (cr R R (bo R zS)))) ?_)))
   exact bg ⟨(i64 (n11+1)),ba ▸ h,R,R⟩ (Wk.eq R R R R)
  replace h:=aA h gD
  refine LH.exit (cv (bY (bM (av (LH.wk (aX [(1,.ag (ai.lv p0).cells)] []) (LH.seq (LH.aj [(1,.ag (ai.lv p0).cells),(65,.bool ((p0.aI.length:Int) == 0))] [] R (sN (aw cX cY fy R R R (sN (bf R cY iL (sN (bX (f:=ao.lv) gj R (sN (gm R R zS)))))))) (LH.cond (t:=((p0.aI.length:Int) == 0)) R (fun zU=>?_) (fun zU=>?_)))))))))
  ·replace h:=aB h zU
   refine LH.aj [(2,.I 10)] [] R (bo R zS) (LH.ret (aZ ?_))
   obtain rfl:=oI h
   exact aS (aT Tryz.results66) (bR R (bP ⟨aR mN,R,a8 R,Sub.rfl⟩))
  replace h:=aA h zU
  refine LH.skip (av (LH.wk (aX [(1,.ag (ai.lv p0).cells)] []) (LH.seq (LH.aj [(1,.ag (ai.lv p0).cells),(4,.I 0)] [] R (bo R zS) (LH.block (LH.loop (fun n e m=>∃ (n20:Int),yv F p0 n n20=some r∧e=Env.of [(1,.ag (ai.lv p0).cells),(4,.I n20)]∧m=Mem.of []) F ⟨0,h,R,R⟩ ?_))))))
  clear h
  rintro n e m ⟨n20,h,rfl,rfl⟩
  rcases n with _ | n
  · cases (show Option.none=some _ from h)
  obtain ⟨eH,dO⟩:∃ f,f=yv F p0 n:=⟨_,rfl⟩
  replace h:xF F p0 eH n20=some r:=dO ▸ h
  unfold xF at h
  refine LH.seq (LH.aj [(1,.ag (ai.lv p0).cells),(4,.I n20),(70,.bool (decide (n20<(p0.aI.length:Int))))] [] R (bl R (sN (aw cX cY fy R R R (sN (bf R cY iL (sN (bX (f:=ao.lv) gj R (sN (fi R R zS))))))))) (LH.cond (t:=(decide (n20<(p0.aI.length:Int)))) R (fun oj=>?_) (fun oj=>?_)))
  ·replace h:=aB h oj
   refine LH.skip (av (LH.wk (aX [(1,.ag (ai.lv p0).cells),(4,.I n20)] []) (LH.seq (LH.block ?_))))
   obtain ⟨JH,HK,h⟩:=al h
   obtain ⟨rG,KF,h⟩:=al h
   refine LH.aj [(1,.ag (ai.lv p0).cells),(4,.I n20),(79,.bool (!rG))] [] R (sN (aw cX cY fy R R R (sN (bf R cY iL (bl R (sN (eW (f:=ao.lv) gj ee dB R R ao.ok HK R (sN (bh R ee iM dB R R (sN (dU (args:=[ao.lv JH]) R OE R (aK bt) (Ph KF) R (sN (kp R zS))))))))))))) (LH.cond (t:=(!rG)) R (fun sx=>?_) (fun sx=>?_))
   ·replace h:=aB h sx
    refine LH.aj [(2,.I 1)] [] R (bo R zS) (LH.ret (bL (aZ (dY (bL (aZ ?_))))))
    obtain rfl:=oI h
    exact aS (aT Tryz.results66) (bR R (bP ⟨aR mN,R,a8 R,Sub.rfl⟩))
   replace h:=aA h sx
   refine LH.skip (aY (av (LH.aQ [(1,.ag (ai.lv p0).cells),(4,.I (i64 (n20+1)))] [] R (bl R (sN (cr R R (bo R zS)))) ?_)))
   exact bg ⟨(i64 (n20+1)),dO ▸ h,R,R⟩ (Wk.eq R R R R)
  replace h:=aA h oj
  refine LH.exit (cv (bY (bM (av (LH.wk (aX [(1,.ag (ai.lv p0).cells)] []) (LH.seq (LH.aj [(1,.ag (ai.lv p0).cells),(5,.I 0)] [] R (bo R zS) (LH.block (LH.loop (fun n e m=>∃ (n25:Int),yw p0 n n25=some r∧e=Env.of [(1,.ag (ai.lv p0).cells),(5,.I n25)]∧m=Mem.of []) F ⟨0,h,R,R⟩ ?_)))))))))
  clear h
  rintro n e m ⟨n25,h,rfl,rfl⟩
  rcases n with _ | n
  · cases (show Option.none=some _ from h)
  obtain ⟨oN,mw⟩:∃ f,f=yw p0 n:=⟨_,rfl⟩
  replace h:xG p0 oN n25=some r:=mw ▸ h
  unfold xG at h
  refine LH.seq (LH.aj [(1,.ag (ai.lv p0).cells),(5,.I n25),(84,.bool (decide (n25<(p0.aD.length:Int))))] [] R (bl R (sN (aw fp eI jh R R R (sN (bf R eI l9 (sN (bX (f:=LV.I) cz R (sN (fi R R zS))))))))) (LH.cond (t:=(decide (n25<(p0.aD.length:Int)))) R (fun zV=>?_) (fun zV=>?_)))
  ·replace h:=aB h zV
   refine LH.skip (av (LH.wk (aX [(1,.ag (ai.lv p0).cells),(5,.I n25)] []) (LH.seq (LH.block ?_))))
   obtain ⟨QS,hv,h⟩:=al h
   refine LH.c7 mixed [] [0,0,0,0,0,0,0,0,0,0,0,0,0,0,0,0,0,0,0,0,0,0,0,0,0,0,0,0,0,0,0,0,0,0,0,0,0,0,0,0,0,0] [(1,.ag (ai.lv p0).cells),(5,.I n25),(128,.bool QS)] [] R R (by kernel_rfl) ?_ ?_
   ·refine aF (aw fp eI jh R R R ⟨R,aF (bf R eI l9 ⟨R,eV R ?_⟩)⟩)
    obtain ⟨Mp,K3,hv⟩:=al hv
    refine aF (eW (f:=LV.I) cz aE bb R R lO K3 R ⟨R,aF (bf R aE bN ⟨R,aF (fi R R ⟨R,iF R ?_⟩)⟩)⟩)
    by_cases lV:(decide (Mp<0))=true
    ·replace hv:=aB hv lV
     refine mF R R lV (mF R R lV (mF R R lV (mF R R lV (mF R R lV (mF R R lV (aF (aW (cB lV) (v:=(.bool _)) R ⟨R,iF R (mF R R R (mF R R R (mF R R R (mF R R R (mF R R R (mF R R R (mF R R R (mF R R R (aF (aW R (v:=(.bool _)) R ⟨R,iF R (mF R R R (mF R R R (mF R R R (mU R R (mU R R (mU R R (mU R R (mU R R (mU R R (mU R R (mU R R (mU R R (mU R R (mU R R (mU R R (mF R R R (aF (aW R (v:=(.bool _)) R ⟨R,?_⟩))))))))))))))))))⟩))))))))))⟩)))))))
     obtain rfl:=oI hv
     exact zM
    ·replace lV:=bF lV
     replace hv:=aA hv lV
     refine mT R (cB lV) (aF (aw fp eI jh R R R ⟨R,mT R (cB lV) (aF (bf R eI l9 ⟨R,mT R (cB lV) (eV R ?_)⟩))⟩))
     obtain ⟨D2,HM,hv⟩:=al hv
     refine mT R (cB lV) (aF (eW (f:=LV.I) cz aE bb R R lO HM R ⟨R,mT R (cB lV) (aF (bf R aE bN ⟨R,mT R (cB lV) (aF (iw R R ⟨R,aF (aV (cB lV) (v:=(.bool _)) R ⟨R,iF R ?_⟩)⟩))⟩))⟩))
     by_cases kl:(decide (D2 > 9999))=true
     ·replace hv:=aB hv kl
      refine mF R R kl (mF R R kl (mF R R kl (mF R R kl (mF R R kl (mF R R kl (mF R R kl (mF R R kl (aF (aW (cB kl) (v:=(.bool _)) R ⟨R,iF R (mF R R R (mF R R R (mF R R R (mU R R (mU R R (mU R R (mU R R (mU R R (mU R R (mU R R (mU R R (mU R R (mU R R (mU R R (mU R R (mF R R R (aF (aW R (v:=(.bool _)) R ⟨R,?_⟩))))))))))))))))))⟩)))))))))
      obtain rfl:=oI hv
      exact zM
     ·replace kl:=bF kl
      replace hv:=aA hv kl
      refine mT R (cB kl) (aF (aw fp eI jh R R R ⟨R,mT R (cB kl) (aF (bf R eI l9 ⟨R,mT R (cB kl) (eV R ?_)⟩))⟩))
      obtain ⟨Tu,SL,hv⟩:=al hv
      refine mT R (cB kl) (aF (eW (f:=LV.I) cz aE bb R R lO SL R ⟨R,mT R (cB kl) (aF (bf R aE bN ⟨R,mT R (cB kl) (aF (aw e6 aE bb R R R ⟨R,mT R (cB kl) (aF (bf R aE bN ⟨R,mT R (cB kl) (aF (gm R R ⟨R,aF (aV (cB kl) (v:=(.bool _)) R ⟨R,iF R ?_⟩)⟩))⟩))⟩))⟩))⟩))
      by_cases nC:(Tu == p0.ID)=true
      ·replace hv:=aB hv nC
       refine mF R R nC (mF R R nC (mF R R nC (mU R R (mU R R (mU R R (mU R R (mU R R (mU R R (mU R R (mU R R (mU R R (mU R R (mU R R (mU R R (mF R R nC (aF (aW (cB nC) (v:=(.bool _)) R ⟨R,?_⟩)))))))))))))))))
       obtain rfl:=oI hv
       exact zM
      ·replace nC:=bF nC
       replace hv:=aA hv nC
       refine mT R (cB nC) (eV R (mT R (cB nC) (aF (iw R R ⟨R,mT R (cB nC) (iF R ?_)⟩))))
       by_cases gT:(decide (n25 > 0))=true
       ·replace hv:=aB hv gT
        refine mT R (cB gT) (aF (aw fp eI jh R R R ⟨R,mT R (cB gT) (aF (bf R eI l9 ⟨R,mT R (cB gT) (eV R (mT R (cB gT) (aF (iG R R ⟨R,?_⟩))))⟩))⟩))
        obtain ⟨UA,SN,hv⟩:=al hv
        refine mT R (cB gT) (aF (eW (f:=LV.I) cz aE bb R R lO SN R ⟨R,mT R (cB gT) (aF (bf R aE bN ⟨R,mT R (cB gT) (aF (aw fp eI jh R R R ⟨R,mT R (cB gT) (aF (bf R eI l9 ⟨R,mT R (cB gT) (eV R ?_)⟩))⟩))⟩))⟩))
        obtain ⟨UB,SO,hv⟩:=al hv
        refine mT R (cB gT) (aF (eW (f:=LV.I) cz aE bb R R lO SO R ⟨R,mT R (cB gT) (aF (bf R aE bN ⟨R,mT R (cB gT) (aF (pD R R ⟨R,mT R (cB nC) (aF (aW (cB gT) (v:=(.bool _)) R ⟨R,aF (aV (cB nC) (v:=(.bool _)) R ⟨R,?_⟩)⟩))⟩))⟩))⟩))
        obtain rfl:=oI hv
        exact zM
       ·replace gT:=bF gT
        replace hv:=aA hv gT
        refine mF R R gT (mF R R gT (mF R R gT (mF R R gT (mF R R gT (mF R R gT (mF R R gT (mF R R gT (mF R R gT (mF R R gT (mF R R gT (mF R R gT (mT R (cB nC) (aF (aV (cB gT) (v:=(.bool _)) R ⟨R,aF (aV (cB nC) (v:=(.bool _)) R ⟨R,?_⟩)⟩))))))))))))))
        obtain rfl:=oI hv
        exact zM
   clear hv
   refine LH.cond (t:=QS) R (fun zZ=>?_) (fun zZ=>?_)
   ·replace h:=aB h zZ
    refine LH.aj [(2,.I 9)] [] R (bo R zS) (LH.ret (bL (aZ (dY (bL (aZ ?_))))))
    obtain rfl:=oI h
    exact aS (aT Tryz.results66) (bR R (bP ⟨aR mN,R,a8 R,Sub.rfl⟩))
   replace h:=aA h zZ
   refine LH.skip (aY (av (LH.aQ [(1,.ag (ai.lv p0).cells),(5,.I (i64 (n25+1)))] [] R (bl R (sN (cr R R (bo R zS)))) ?_)))
   exact bg ⟨(i64 (n25+1)),mw ▸ h,R,R⟩ (Wk.eq R R R R)
  replace h:=aA h zV
  refine LH.exit (cv (bY (bM (av (LH.aj [(2,.I 0)] [] R (bo R zS) (LH.ret ?_))))))
  obtain rfl:=oI h
  exact aS (aT Tryz.results66) (bR R (bP ⟨aR mN,R,a8 R,Sub.rfl⟩))
set_option maxHeartbeats 4000000 in
theorem Jv {F:Nat} {p0:aM} {r:Bool} (h:u0 F p0=some r):aP Tryz.prog 38 [.agg [.ak 5 (p0.aa.map aq.lv)]] (Mem.of []) (.bool r) (Mem.of []):=by
  unfold u0 at h
  refine bu Tryz.func38 R (nT Tryz.ntmps38 R) (LH.wk (aX [(0,.agg [.ak 5 (p0.aa.map aq.lv)])] []) (LH.aj [(1,.ag [.ak 5 (p0.aa.map aq.lv)])] [] R (sB (dp R R R R (cm R zS))) (LH.seq (LH.aj [(1,.ag [.ak 5 (p0.aa.map aq.lv)]),(10,.bool (decide ((p0.aa.length:Int) > 40)))] [] R (sN (aw ca cc dA R R R (sN (bf R cc fD (sN (bX (f:=aq.lv) dZ R (sN (iw R R zS)))))))) (LH.cond (t:=(decide ((p0.aa.length:Int) > 40))) R (fun jw=>?_) (fun jw=>?_))))))
  ·replace h:=aB h jw
   refine LH.aj [(2,.bool false)] [] R (cm R zS) (LH.ret (aZ ?_))
   obtain rfl:=oI h
   exact aS (aT Tryz.results38) (bR R (bP ⟨aR mN,R,a8 R,Sub.rfl⟩))
  replace h:=aA h jw
  refine LH.skip (av (LH.wk (aX [(1,.ag [.ak 5 (p0.aa.map aq.lv)])] []) (LH.seq (LH.aj [(1,.ag [.ak 5 (p0.aa.map aq.lv)]),(3,.I 0)] [] R (bo R zS) (LH.block (LH.loop (fun n e m=>∃ (n2:Int),B1 F p0 n n2=some r∧e=Env.of [(1,.ag [.ak 5 (p0.aa.map aq.lv)]),(3,.I n2)]∧m=Mem.of []) F ⟨0,h,R,R⟩ ?_))))))
  clear h
  rintro n e m ⟨n2,h,rfl,rfl⟩
  rcases n with _ | n
  · cases (show Option.none=some _ from h)
  obtain ⟨aH,ba⟩:∃ f,f=B1 F p0 n:=⟨_,rfl⟩
  replace h:xH F p0 aH n2=some r:=ba ▸ h
  unfold xH at h
  refine LH.seq (LH.aj [(1,.ag [.ak 5 (p0.aa.map aq.lv)]),(3,.I n2),(15,.bool (decide (n2<(p0.aa.length:Int))))] [] R (bl R (sN (aw ca cc dA R R R (sN (bf R cc fD (sN (bX (f:=aq.lv) dZ R (sN (fi R R zS))))))))) (LH.cond (t:=(decide (n2<(p0.aa.length:Int)))) R (fun iC=>?_) (fun iC=>?_)))
  ·replace h:=aB h iC
   refine LH.skip (av (LH.wk (aX [(1,.ag [.ak 5 (p0.aa.map aq.lv)]),(3,.I n2)] []) (LH.seq (LH.block ?_))))
   obtain ⟨x4,CM,h⟩:=al h
   refine LH.aj [(1,.ag [.ak 5 (p0.aa.map aq.lv)]),(3,.I n2),(4,.ag (aq.lv x4).cells)] [] R (sN (aw ca cc dA R R R (sN (bf R cc fD (bl R (sN (eW (f:=aq.lv) dZ dh cK R R aq.ok CM R (sN (bh R dh js cK R R (sN (kS (id:=104) R tK R R (s_ (cV R R R dh cK R R R (s0 ((Wk.trans (aX [(1,.ag [.ak 5 (p0.aa.map aq.lv)]),(3,.I n2),(4,.ptr 104 0)] [(104,.box (aq.lv x4).cells)]) (Wk.trans (Wk.bk 104 (aq.lv x4).cells R R R (bO R)) (Wk.eq R R R R)))))))))))))))))) (LH.seq ?_)
   obtain ⟨w6,hv,h⟩:=al h
   refine LH.c7 mixed [] [0,0,0,0,0,0,0,0,0,0,0,0,0,0,0,0,0,0,0,0,0,0,0,0,0,0,0,0,0,0,0,0,0,0,0,0,0,0,0,0,0] [(1,.ag [.ak 5 (p0.aa.map aq.lv)]),(3,.I n2),(4,.ag (aq.lv x4).cells),(63,.bool w6)] [] R R (by kernel_rfl) ?_ ?_
   ·refine eV R (aF (iw R R ⟨R,iF R ?_⟩))
    by_cases bT:(decide (n2 > 0))=true
    ·replace hv:=aB hv bT
     refine mT R (cB bT) (aF (aw ca cc dA R R R ⟨R,mT R (cB bT) (aF (bf R cc fD ⟨R,mT R (cB bT) (eV R (mT R (cB bT) (aF (iG R R ⟨R,?_⟩))))⟩))⟩))
     obtain ⟨x8,ud,hv⟩:=al hv
     refine mT R (cB bT) (aF (eW (f:=aq.lv) dZ dh cK R R aq.ok ud R ⟨R,mT R (cB bT) (aF (aw fY aE bb R R R ⟨R,mT R (cB bT) (aF (bf R aE bN ⟨R,mT R (cB bT) (aF (aw fY aE bb R R R ⟨R,mT R (cB bT) (aF (bf R aE bN ⟨R,mT R (cB bT) (aF (pD R R ⟨R,aF (aW (cB bT) (v:=(.bool _)) R ⟨R,iF R ?_⟩)⟩))⟩))⟩))⟩))⟩))⟩))
     by_cases cP:(decide (x8.ID ≥ x4.ID))=true
     ·replace hv:=aB hv cP
      refine mF R R cP (mF R R cP (mF R R cP (mF R R cP (aF (aW (cB cP) (v:=(.bool _)) R ⟨R,iF R (mF R R R (mF R R R (mF R R R (mF R R R (aF (aW R (v:=(.bool _)) R ⟨R,iF R (mF R R R (mF R R R (mF R R R (mF R R R (mF R R R (mF R R R (mF R R R (aF (aW R (v:=(.bool _)) R ⟨R,iF R (mF R R R (mF R R R (mF R R R (mF R R R (aF (aW R (v:=(.bool _)) R ⟨R,?_⟩))))))⟩)))))))))⟩))))))⟩)))))
      obtain rfl:=oI hv
      exact zM
     ·replace cP:=bF cP
      replace hv:=aA hv cP
      refine mT R (cB cP) (aF (aw dy dM ig R R R ⟨R,mT R (cB cP) (aF (bf R dM j7 ⟨R,mT R (cB cP) (aF (bX (f:=ai.lv) ic R ⟨R,mT R (cB cP) (aF (fi R R ⟨R,aF (aV (cB cP) (v:=(.bool _)) R ⟨R,iF R ?_⟩)⟩))⟩))⟩))⟩))
      by_cases bx:(decide ((x4.ae.length:Int)<1))=true
      ·replace hv:=aB hv bx
       refine mF R R bx (mF R R bx (mF R R bx (mF R R bx (aF (aW (cB bx) (v:=(.bool _)) R ⟨R,iF R (mF R R R (mF R R R (mF R R R (mF R R R (mF R R R (mF R R R (mF R R R (aF (aW R (v:=(.bool _)) R ⟨R,iF R (mF R R R (mF R R R (mF R R R (mF R R R (aF (aW R (v:=(.bool _)) R ⟨R,?_⟩))))))⟩)))))))))⟩)))))
       obtain rfl:=oI hv
       exact zM
      ·replace bx:=bF bx
       replace hv:=aA hv bx
       refine mT R (cB bx) (aF (aw dy dM ig R R R ⟨R,mT R (cB bx) (aF (bf R dM j7 ⟨R,mT R (cB bx) (aF (bX (f:=ai.lv) ic R ⟨R,mT R (cB bx) (aF (iw R R ⟨R,aF (aV (cB bx) (v:=(.bool _)) R ⟨R,iF R ?_⟩)⟩))⟩))⟩))⟩))
       by_cases eM:(decide ((x4.ae.length:Int) > 8))=true
       ·replace hv:=aB hv eM
        refine mF R R eM (mF R R eM (mF R R eM (mF R R eM (mF R R eM (mF R R eM (mF R R eM (aF (aW (cB eM) (v:=(.bool _)) R ⟨R,iF R (mF R R R (mF R R R (mF R R R (mF R R R (aF (aW R (v:=(.bool _)) R ⟨R,?_⟩))))))⟩))))))))
        obtain rfl:=oI hv
        exact zM
       ·replace eM:=bF eM
        replace hv:=aA hv eM
        refine mT R (cB eM) (aF (aw eA eX ji R R R ⟨R,mT R (cB eM) (aF (bf R eX nF ⟨R,mT R (cB eM) (aF (bX (f:=LV.bool) j8 R ⟨R,mT R (cB eM) (aF (aw dy dM ig R R R ⟨R,mT R (cB eM) (aF (bf R dM j7 ⟨R,mT R (cB eM) (aF (bX (f:=ai.lv) ic R ⟨R,mT R (cB eM) (aF (kg R R ⟨R,aF (aV (cB eM) (v:=(.bool _)) R ⟨R,iF R ?_⟩)⟩))⟩))⟩))⟩))⟩))⟩))⟩))
        by_cases eh:((x4.ah.length:Int) != (x4.ae.length:Int))=true
        ·replace hv:=aB hv eh
         refine mF R R eh (mF R R eh (mF R R eh (mF R R eh (aF (aW (cB eh) (v:=(.bool _)) R ⟨R,?_⟩)))))
         obtain rfl:=oI hv
         exact zM
        ·replace eh:=bF eh
         replace hv:=aA hv eh
         refine mT R (cB eh) (aF (aw ej eu jj R R R ⟨R,mT R (cB eh) (aF (bf R eu lj ⟨R,mT R (cB eh) (aF (bX (f:=az.lv) jt R ⟨R,mT R (cB eh) (aF (iw R R ⟨R,aF (aV (cB eh) (v:=(.bool _)) R ⟨R,?_⟩)⟩))⟩))⟩))⟩))
         obtain rfl:=oI hv
         exact zM
    ·replace bT:=bF bT
     replace hv:=aA hv bT
     refine mF R R bT (mF R R bT (mF R R bT (mF R R bT (mF R R bT (mF R R bT (mF R R bT (mF R R bT (mF R R bT (mF R R bT (aF (aV (cB bT) (v:=(.bool _)) R ⟨R,iF R (mT R R (aF (aw dy dM ig R R R ⟨R,mT R R (aF (bf R dM j7 ⟨R,mT R R (aF (bX (f:=ai.lv) ic R ⟨R,mT R R (aF (fi R R ⟨R,aF (aV R (v:=(.bool _)) R ⟨R,iF R ?_⟩)⟩))⟩))⟩))⟩)))⟩)))))))))))
     by_cases bS:(decide ((x4.ae.length:Int)<1))=true
     ·replace hv:=aB hv bS
      refine mF R R bS (mF R R bS (mF R R bS (mF R R bS (aF (aW (cB bS) (v:=(.bool _)) R ⟨R,iF R (mF R R R (mF R R R (mF R R R (mF R R R (mF R R R (mF R R R (mF R R R (aF (aW R (v:=(.bool _)) R ⟨R,iF R (mF R R R (mF R R R (mF R R R (mF R R R (aF (aW R (v:=(.bool _)) R ⟨R,?_⟩))))))⟩)))))))))⟩)))))
      obtain rfl:=oI hv
      exact zM
     ·replace bS:=bF bS
      replace hv:=aA hv bS
      refine mT R (cB bS) (aF (aw dy dM ig R R R ⟨R,mT R (cB bS) (aF (bf R dM j7 ⟨R,mT R (cB bS) (aF (bX (f:=ai.lv) ic R ⟨R,mT R (cB bS) (aF (iw R R ⟨R,aF (aV (cB bS) (v:=(.bool _)) R ⟨R,iF R ?_⟩)⟩))⟩))⟩))⟩))
      by_cases cC:(decide ((x4.ae.length:Int) > 8))=true
      ·replace hv:=aB hv cC
       refine mF R R cC (mF R R cC (mF R R cC (mF R R cC (mF R R cC (mF R R cC (mF R R cC (aF (aW (cB cC) (v:=(.bool _)) R ⟨R,iF R (mF R R R (mF R R R (mF R R R (mF R R R (aF (aW R (v:=(.bool _)) R ⟨R,?_⟩))))))⟩))))))))
       obtain rfl:=oI hv
       exact zM
      ·replace cC:=bF cC
       replace hv:=aA hv cC
       refine mT R (cB cC) (aF (aw eA eX ji R R R ⟨R,mT R (cB cC) (aF (bf R eX nF ⟨R,mT R (cB cC) (aF (bX (f:=LV.bool) j8 R ⟨R,mT R (cB cC) (aF (aw dy dM ig R R R ⟨R,mT R (cB cC) (aF (bf R dM j7 ⟨R,mT R (cB cC) (aF (bX (f:=ai.lv) ic R ⟨R,mT R (cB cC) (aF (kg R R ⟨R,aF (aV (cB cC) (v:=(.bool _)) R ⟨R,iF R ?_⟩)⟩))⟩))⟩))⟩))⟩))⟩))⟩))
       by_cases bV:((x4.ah.length:Int) != (x4.ae.length:Int))=true
       ·replace hv:=aB hv bV
        refine mF R R bV (mF R R bV (mF R R bV (mF R R bV (aF (aW (cB bV) (v:=(.bool _)) R ⟨R,?_⟩)))))
        obtain rfl:=oI hv
        exact zM
       ·replace bV:=bF bV
        replace hv:=aA hv bV
        refine mT R (cB bV) (aF (aw ej eu jj R R R ⟨R,mT R (cB bV) (aF (bf R eu lj ⟨R,mT R (cB bV) (aF (bX (f:=az.lv) jt R ⟨R,mT R (cB bV) (aF (iw R R ⟨R,aF (aV (cB bV) (v:=(.bool _)) R ⟨R,?_⟩)⟩))⟩))⟩))⟩))
        obtain rfl:=oI hv
        exact zM
   clear hv
   refine LH.cond (t:=w6) R (fun gE=>?_) (fun gE=>?_)
   ·replace h:=aB h gE
    refine LH.aj [(2,.bool false)] [] R (cm R zS) (LH.ret (aZ (bL (aZ (dY (bL (aZ ?_)))))))
    obtain rfl:=oI h
    exact aS (aT Tryz.results38) (bR R (bP ⟨aR mN,R,a8 R,Sub.rfl⟩))
   replace h:=aA h gE
   refine LH.skip (av (LH.wk (aX [(1,.ag [.ak 5 (p0.aa.map aq.lv)]),(3,.I n2),(4,.ag (aq.lv x4).cells)] []) (LH.seq (LH.aj [(1,.ag [.ak 5 (p0.aa.map aq.lv)]),(3,.I n2),(4,.ag (aq.lv x4).cells),(5,.I 0)] [] R (bo R zS) (LH.block (LH.loop (fun n e m=>∃ (n17:Int),yx aH F n2 x4 n n17=some r∧e=Env.of [(1,.ag [.ak 5 (p0.aa.map aq.lv)]),(3,.I n2),(4,.ag (aq.lv x4).cells),(5,.I n17)]∧m=Mem.of []) F ⟨0,h,R,R⟩ ?_))))))
   clear h
   rintro n e m ⟨n17,h,rfl,rfl⟩
   rcases n with _ | n
   · cases (show Option.none=some _ from h)
   obtain ⟨eH,dO⟩:∃ f,f=yx aH F n2 x4 n:=⟨_,rfl⟩
   replace h:xI aH F n2 x4 eH n17=some r:=dO ▸ h
   unfold xI at h
   refine LH.seq (LH.aj [(1,.ag [.ak 5 (p0.aa.map aq.lv)]),(3,.I n2),(4,.ag (aq.lv x4).cells),(5,.I n17),(68,.bool (decide (n17<(x4.ae.length:Int))))] [] R (bl R (sN (aw dy dM ig R R R (sN (bf R dM j7 (sN (bX (f:=ai.lv) ic R (sN (fi R R zS))))))))) (LH.cond (t:=(decide (n17<(x4.ae.length:Int)))) R (fun iB=>?_) (fun iB=>?_)))
   ·replace h:=aB h iB
    refine LH.skip (av (LH.wk (aX [(1,.ag [.ak 5 (p0.aa.map aq.lv)]),(3,.I n2),(4,.ag (aq.lv x4).cells),(5,.I n17)] []) (LH.seq (LH.block ?_))))
    obtain ⟨QQ,hv,h⟩:=al h
    refine LH.c7 mixed [] [0,0,0,0,0,0,0,0,0,0,0,0,0,0,0,0,0,0,0,0,0,0,0,0,0,0,0,0,0] [(1,.ag [.ak 5 (p0.aa.map aq.lv)]),(3,.I n2),(4,.ag (aq.lv x4).cells),(5,.I n17),(99,.bool QQ)] [] R R (by kernel_rfl) ?_ ?_
    ·refine aF (aw dy dM ig R R R ⟨R,aF (bf R dM j7 ⟨R,eV R ?_⟩)⟩)
     obtain ⟨D1,Fo,hv⟩:=al hv
     refine aF (eW (f:=ai.lv) ic cG ct R R ai.ok Fo R ⟨R,aF (bh R cG fo ct R R ⟨R,?_⟩)⟩)
     obtain ⟨jL,E4,hv⟩:=al hv
     refine aF (dU (args:=[ai.lv D1]) R Fu R (aK bt) (F4 E4) R ⟨R,aF (kg R R ⟨R,iF R ?_⟩)⟩)
     by_cases jE:(jL != 0)=true
     ·replace hv:=aB hv jE
      refine mF R R jE (mF R R jE (mF R R jE (mF R R jE (mF R R jE (mF R R jE (mF R R jE (mF R R jE (mF R R jE (aF (aW (cB jE) (v:=(.bool _)) R ⟨R,iF R (mF R R R (mF R R R (mF R R R (mF R R R (mF R R R (mF R R R (mF R R R (mF R R R (mF R R R (aF (aW R (v:=(.bool _)) R ⟨R,?_⟩)))))))))))⟩))))))))))
      obtain rfl:=oI hv
      exact zM
     ·replace jE:=bF jE
      replace hv:=aA hv jE
      refine mT R (cB jE) (aF (aw dy dM ig R R R ⟨R,mT R (cB jE) (aF (bf R dM j7 ⟨R,mT R (cB jE) (eV R ?_)⟩))⟩))
      obtain ⟨Iu,K1,hv⟩:=al hv
      refine mT R (cB jE) (aF (eW (f:=ai.lv) ic cG ct R R ai.ok K1 R ⟨R,mT R (cB jE) (aF (aw e6 aE bb R R R ⟨R,mT R (cB jE) (aF (bf R aE bN ⟨R,mT R (cB jE) (aF (aw fY aE bb R R R ⟨R,mT R (cB jE) (aF (bf R aE bN ⟨R,mT R (cB jE) (aF (kg R R ⟨R,aF (aV (cB jE) (v:=(.bool _)) R ⟨R,iF R ?_⟩)⟩))⟩))⟩))⟩))⟩))⟩))
      by_cases jF:(Iu.ID != x4.ID)=true
      ·replace hv:=aB hv jF
       refine mF R R jF (mF R R jF (mF R R jF (mF R R jF (mF R R jF (mF R R jF (mF R R jF (mF R R jF (mF R R jF (aF (aW (cB jF) (v:=(.bool _)) R ⟨R,?_⟩))))))))))
       obtain rfl:=oI hv
       exact zM
      ·replace jF:=bF jF
       replace hv:=aA hv jF
       refine mT R (cB jF) (aF (aw dy dM ig R R R ⟨R,mT R (cB jF) (aF (bf R dM j7 ⟨R,mT R (cB jF) (eV R ?_)⟩))⟩))
       obtain ⟨LW,K2,hv⟩:=al hv
       refine mT R (cB jF) (aF (eW (f:=ai.lv) ic cG ct R R ai.ok K2 R ⟨R,mT R (cB jF) (aF (aw fE aE bb R R R ⟨R,mT R (cB jF) (aF (bf R aE bN ⟨R,mT R (cB jF) (eV R (mT R (cB jF) (aF (cr R R ⟨R,mT R (cB jF) (aF (kg R R ⟨R,aF (aV (cB jF) (v:=(.bool _)) R ⟨R,?_⟩)⟩))⟩))))⟩))⟩))⟩))
       obtain rfl:=oI hv
       exact zM
    clear hv
    refine LH.cond (t:=QQ) R (fun zW=>?_) (fun zW=>?_)
    ·replace h:=aB h zW
     refine LH.aj [(2,.bool false)] [] R (cm R zS) (LH.ret (bL (aZ (dY (bL (aZ (bL (aZ (dY (bL (aZ ?_)))))))))))
     obtain rfl:=oI h
     exact aS (aT Tryz.results38) (bR R (bP ⟨aR mN,R,a8 R,Sub.rfl⟩))
    replace h:=aA h zW
    refine LH.skip (aY (av (LH.aQ [(1,.ag [.ak 5 (p0.aa.map aq.lv)]),(3,.I n2),(4,.ag (aq.lv x4).cells),(5,.I (i64 (n17+1)))] [] R (bl R (sN (cr R R (bo R zS)))) ?_)))
    exact bg ⟨(i64 (n17+1)),dO ▸ h,R,R⟩ (Wk.eq R R R R)
   replace h:=aA h iB
   refine LH.exit (cv (bY (bM (av (LH.aj [(1,.ag [.ak 5 (p0.aa.map aq.lv)]),(3,.I n2),(4,.ag (aq.lv x4).cells),(6,.I 0)] [] R (bo R zS) (LH.block (LH.loop (fun n e m=>∃ (n28:Int),yy aH n2 x4 n n28=some r∧e=Env.of [(1,.ag [.ak 5 (p0.aa.map aq.lv)]),(3,.I n2),(4,.ag (aq.lv x4).cells),(6,.I n28)]∧m=Mem.of []) F ⟨0,h,R,R⟩ ?_)))))))
   clear h
   rintro n e m ⟨n28,h,rfl,rfl⟩
   rcases n with _ | n
   · cases (show Option.none=some _ from h)
   obtain ⟨oN,mw⟩:∃ f,f=yy aH n2 x4 n:=⟨_,rfl⟩
   replace h:xJ aH n2 x4 oN n28=some r:=mw ▸ h
   unfold xJ at h
   refine LH.seq (LH.aj [(1,.ag [.ak 5 (p0.aa.map aq.lv)]),(3,.I n2),(4,.ag (aq.lv x4).cells),(6,.I n28),(104,.bool (decide (n28<(x4.Uses.length:Int))))] [] R (bl R (sN (aw ej eu jj R R R (sN (bf R eu lj (sN (bX (f:=az.lv) jt R (sN (fi R R zS))))))))) (LH.cond (t:=(decide (n28<(x4.Uses.length:Int)))) R (fun zX=>?_) (fun zX=>?_)))
   ·replace h:=aB h zX
    refine LH.skip (av (LH.wk (aX [(1,.ag [.ak 5 (p0.aa.map aq.lv)]),(3,.I n2),(4,.ag (aq.lv x4).cells),(6,.I n28)] []) (LH.seq (LH.block ?_))))
    obtain ⟨QT,hv,h⟩:=al h
    refine LH.c7 mixed [] [0,0,0,0,0,0,0,0,0,0,0,0,0,0,0,0,0,0,0] [(1,.ag [.ak 5 (p0.aa.map aq.lv)]),(3,.I n2),(4,.ag (aq.lv x4).cells),(6,.I n28),(125,.bool QT)] [] R R (by kernel_rfl) ?_ ?_
    ·refine aF (aw ej eu jj R R R ⟨R,aF (bf R eu lj ⟨R,eV R ?_⟩)⟩)
     obtain ⟨Tt,SK,hv⟩:=al hv
     refine aF (eW (f:=az.lv) jt wy nI R R az.ok SK R ⟨R,aF (aw oT aE bb R R R ⟨R,aF (bf R aE bN ⟨R,aF (fi R R ⟨R,iF R ?_⟩)⟩)⟩)⟩)
     by_cases iZ:(decide (Tt.Version<1))=true
     ·replace hv:=aB hv iZ
      refine mF R R iZ (mF R R iZ (mF R R iZ (mF R R iZ (mF R R iZ (mF R R iZ (mF R R iZ (mF R R iZ (mF R R iZ (mF R R iZ (aF (aW (cB iZ) (v:=(.bool _)) R ⟨R,?_⟩)))))))))))
      obtain rfl:=oI hv
      exact zM
     ·replace iZ:=bF iZ
      replace hv:=aA hv iZ
      refine mT R (cB iZ) (aF (aw ej eu jj R R R ⟨R,mT R (cB iZ) (aF (bf R eu lj ⟨R,mT R (cB iZ) (eV R ?_)⟩))⟩))
      obtain ⟨Uz,SM,hv⟩:=al hv
      refine mT R (cB iZ) (aF (eW (f:=az.lv) jt wy nI R R az.ok SM R ⟨R,mT R (cB iZ) (aF (aw oT aE bb R R R ⟨R,mT R (cB iZ) (aF (bf R aE bN ⟨R,mT R (cB iZ) (aF (aw dy dM ig R R R ⟨R,mT R (cB iZ) (aF (bf R dM j7 ⟨R,mT R (cB iZ) (aF (bX (f:=ai.lv) ic R ⟨R,mT R (cB iZ) (aF (iw R R ⟨R,aF (aV (cB iZ) (v:=(.bool _)) R ⟨R,?_⟩)⟩))⟩))⟩))⟩))⟩))⟩))⟩))
      obtain rfl:=oI hv
      exact zM
    clear hv
    refine LH.cond (t:=QT) R (fun Ct=>?_) (fun Ct=>?_)
    ·replace h:=aB h Ct
     refine LH.aj [(2,.bool false)] [] R (cm R zS) (LH.ret (bL (aZ (dY (bL (bL (aZ (dY (bL (aZ ?_))))))))))
     obtain rfl:=oI h
     exact aS (aT Tryz.results38) (bR R (bP ⟨aR mN,R,a8 R,Sub.rfl⟩))
    replace h:=aA h Ct
    refine LH.skip (aY (av (LH.aQ [(1,.ag [.ak 5 (p0.aa.map aq.lv)]),(3,.I n2),(4,.ag (aq.lv x4).cells),(6,.I (i64 (n28+1)))] [] R (bl R (sN (cr R R (bo R zS)))) ?_)))
    exact bg ⟨(i64 (n28+1)),mw ▸ h,R,R⟩ (Wk.eq R R R R)
   replace h:=aA h zX
   refine LH.exit (cv (bY (bM (aY (av (LH.aQ [(1,.ag [.ak 5 (p0.aa.map aq.lv)]),(3,.I (i64 (n2+1)))] [] R (bl R (sN (cr R R (bo R zS)))) ?_))))))
   exact bg ⟨(i64 (n2+1)),ba ▸ h,R,R⟩ (Wk.eq R R R R)
  replace h:=aA h iC
  refine LH.exit (cv (bY (bM (av (LH.aj [(2,.bool true)] [] R (cm R zS) (LH.ret ?_))))))
  obtain rfl:=oI h
  exact aS (aT Tryz.results38) (bR R (bP ⟨aR mN,R,a8 R,Sub.rfl⟩))
end Go.Proofs.YtmollikhdbaikaaGreat
