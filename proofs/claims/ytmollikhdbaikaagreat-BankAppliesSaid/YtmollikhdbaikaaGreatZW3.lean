import Derived.Test.YtmollikhdbaikaaGreatZW2
set_option linter.unusedVariables false
set_option linter.unusedSimpArgs false
set_option maxRecDepth 100000
set_option maxHeartbeats 1000000
namespace Go.Proofs.YtmollikhdbaikaaGreat
open Go.L Go.Sh
set_option maxHeartbeats 4000000 in
theorem QE {F:Nat} {p0:List ax} {p1:Int} {r:aG × List cg × Int} (h:lp F p0 p1=some r):aO Tryz.prog 10 [.al 12 (p0.map ax.lv),.I p1] (Mem.of []) (.cV [.agg [.al 5 (r.1.aa.map ak.lv)],.al 3 (r.2.1.map cg.lv),.I r.2.2]) (Mem.of []):=by
  unfold lp at h
  refine bx Tryz.func10 R (nT Tryz.ntmps10 R) (LH.wk (aQ [(0,.al 12 (p0.map ax.lv)),(1,.I p1)] []) (LH.aj [(0,.al 12 (p0.map ax.lv)),(1,.I p1),(4,.ptr 104 0)] [(104,.box [.nil])] R (sN (j0 (id:=104) R dH R R (k9 R (bt R zS)))) ?_))
  obtain ⟨r1,ei,h⟩:=ao h
  refine LH.aj [(1,.I p1),(4,.ptr 104 0),(7,.al 12 (r1.1.map ax.lv)),(8,.I r1.2)] [(104,.box [.nil])] R (fh R (sN (ej (args:=[.al 12 (p0.map ax.lv)]) R OZ R (aI bm) (Qf ei) R (wU R (sN (fV R R (sN (fV R R (qB R (bt R zS)))))))))) (LH.seq (LH.aj [(1,.I p1),(4,.ptr 104 0),(7,.al 12 (r1.1.map ax.lv)),(8,.I r1.2),(23,.bool (r1.2 != 0))] [(104,.box [.nil])] R (br R (sN (iR R R zS))) (LH.cond (t:=(r1.2 != 0)) R (fun fG=>?_) (fun fG=>?_))))
  ·replace h:=aB h fG
   refine LH.aj [(4,.ag [.nil]),(5,.nil),(6,.I r1.2)] [] R (sN (fU (vs:=[]) iB dH R fT (br R (s_ (cF R R R bd bf R R R (k9 R (bt R (s0 ((Wk.trans (aQ [(4,.ptr 104 0),(5,.nil),(6,.I r1.2)] [(104,.box [.nil])]) (Wk.trans (Wk.bk 104 [.nil] R R R (bH R)) (Wk.eq R R R R)))))))))))) (LH.ret (aU ?_))
   obtain rfl:=oI h
   exact aN (aT Tryz.results10) (cN R bd bW bf R R (bO R (bO R (bL ⟨aM mN,R,aX R,(Sub.cV (lj (Sub.agg (qC bm)) (qC (aI bm))))⟩))))
  replace h:=aA h fG
  refine LH.skip (au (LH.aj [(1,.I p1),(4,.ptr 104 0),(7,.al 12 (r1.1.map ax.lv)),(9,.ptr 811 0)] [(104,.box [.nil]),(811,.box [.arr 812 (List.length ([]:List ak))]),(812,cC (List.map ak.lv ([]:List ak)))] R (sX (o3 711 R dH R R) (s0 ((Wk.trans (aQ [(1,.I p1),(4,.ptr 104 0),(7,.al 12 (r1.1.map ax.lv)),(9,.ptr 811 0)] [(104,.box [.nil]),(811,.box [.nil])]) (Wk.trans (aQ [(1,.I p1),(4,.ptr 104 0),(7,.al 12 (r1.1.map ax.lv)),(9,.ptr 811 0)] [(104,.box [.nil]),(811,.box [.nil])]) (Wk.trans (Wk.Mo 812 49 5 [(1,54,5),(2,4,1),(3,88,3)] 811 0 R R R R R (bH R)) (Wk.eq R R R R))))))) (LH.aj [(1,.I p1),(4,.ptr 104 0),(7,.al 12 (r1.1.map ax.lv)),(9,.ptr 811 0),(10,.nil)] [(104,.box [.nil]),(811,.box [.arr 812 (List.length ([]:List ak))]),(812,cC (List.map ak.lv ([]:List ak)))] R (k9 R zS) (LH.aj [(1,.I p1),(4,.ptr 104 0),(7,.al 12 (r1.1.map ax.lv)),(9,.ptr 811 0),(10,.nil),(11,.mp 10301)] [(104,.box [.nil]),(811,.box [.arr 812 (List.length ([]:List ak))]),(812,cC (List.map ak.lv ([]:List ak))),(10301,.map 3 78 (dO LV.I bu ba))] R (sN (dX (args:=[]) (ml:=[]) (cQ:=[(10301,.map 3 78 (dO LV.I bu ba))]) R qW R bm (y7 (F:=F) (r:=ba) R) mN (lI R bU) R (sN (oA (v:=(.mp _)) R zS)))) (LH.seq (LH.aj [(1,.I p1),(4,.ptr 104 0),(9,.ptr 811 0),(10,.nil),(11,.mp 10301),(27,.al 12 (r1.1.map ax.lv)),(28,.I (r1.1.length:Int)),(29,.I 0)] [(104,.box [.nil]),(811,.box [.arr 812 (List.length ([]:List ak))]),(812,cC (List.map ak.lv ([]:List ak))),(10301,.map 3 78 (dO LV.I bu ba))] R (fh R (sN (bV (f:=ax.lv) fR R (br R zS)))) (LH.block (LH.wk ((Wk.trans (aQ [(1,.I p1),(4,.ptr 104 0),(9,.ptr 811 0),(10,.nil),(11,.mp 10301),(27,.al 12 (r1.1.map ax.lv)),(28,.I (r1.1.length:Int)),(29,.I 0)] [(104,.box [.nil]),(811,.box [.arr 812 (List.length ([]:List ak))]),(812,cC (List.map ak.lv ([]:List ak))),(10301,.map 3 78 (dO LV.I bu ba))]) (Wk.trans (aQ [(1,.I p1),(4,.ptr 104 0),(9,.ptr 811 0),(10,.nil),(11,.mp 10301),(27,.al 12 (r1.1.map ax.lv)),(28,.I (r1.1.length:Int)),(29,.I 0)] [(104,.box [.nil]),(811,.box [.arr 812 (List.length ([]:List ak))]),(812,cC (List.map ak.lv ([]:List ak))),(10301,.map 3 78 (dO LV.I bu ba))]) (Wk.trans (Wk.tC (fB:=[(1,.I p1),(4,.ptr 104 0),(9,.ptr 811 0),(10,.arr 162 (List.length ([]:List cg))),(11,.mp 10301),(27,.al 12 (r1.1.map ax.lv)),(28,.I (r1.1.length:Int)),(29,.I 0)]) 162 84 3 R R (wK (wK (wK (wO (wK (wK (wK (wK wN))))))))) (aQ [(1,.I p1),(4,.ptr 104 0),(9,.ptr 811 0),(10,.arr 162 (List.length ([]:List cg))),(11,.mp 10301),(27,.al 12 (r1.1.map ax.lv)),(28,.I (r1.1.length:Int)),(29,.I 0)] [(104,.box [.nil]),(162,.arr 84 3 (List.map cg.lv ([]:List cg))),(811,.box [.arr 812 (List.length ([]:List ak))]),(812,cC (List.map ak.lv ([]:List ak))),(10301,.map 3 78 (dO LV.I bu ba))]))))) (LH.loop (fun n e m=>∃ (n3:Int) (l4:List cg) (l5:List ak),wH F p1 r1 n n3 l4 l5=some r∧e=Env.of [(1,.I p1),(4,.ptr 104 0),(9,.ptr 811 0),(10,.arr 162 l4.length),(11,.mp 10301),(27,.al 12 (r1.1.map ax.lv)),(28,.I (r1.1.length:Int)),(29,.I n3)]∧m=Mem.of [(104,.box [.nil]),(162,.arr 84 3 (l4.map cg.lv)),(811,.box [.arr 812 l5.length]),(812,cC (l5.map ak.lv)),(10301,.map 3 78 (dO LV.I bu ba))]) F ⟨0,([]:List cg),([]:List ak),h,R,R⟩ ?_)))))))))
  clear h
  rintro n e m ⟨n3,l4,l5,h,rfl,rfl⟩
  rcases n with _ | n
  · cases (show Option.none=some _ from h)
  obtain ⟨aK,a7⟩:∃ f,f=wH F p1 r1 n:=⟨_,rfl⟩
  replace h:yK F p1 r1 aK n3 l4 l5=some r:=a7 ▸ h
  unfold yK at h
  refine LH.aj [(1,.I p1),(4,.ptr 104 0),(9,.ptr 811 0),(10,.arr 162 l4.length),(11,.mp 10301),(27,.al 12 (r1.1.map ax.lv)),(28,.I (r1.1.length:Int)),(29,.I n3),(30,.bool (decide (n3<(r1.1.length:Int))))] [(104,.box [.nil]),(162,.arr 84 3 (l4.map cg.lv)),(811,.box [.arr 812 l5.length]),(812,cC (l5.map ak.lv)),(10301,.map 3 78 (dO LV.I bu ba))] R (sN (fy R R zS)) (LH.seq (LH.cond (t:=(decide (n3<(r1.1.length:Int)))) R (fun fQ=>?_) (fun fQ=>?_)))
  ·replace h:=aB h fQ
   refine LH.skip (au (LH.wk (aQ [(1,.I p1),(4,.ptr 104 0),(9,.ptr 811 0),(10,.arr 162 l4.length),(11,.mp 10301),(27,.al 12 (r1.1.map ax.lv)),(28,.I (r1.1.length:Int)),(29,.I n3)] [(104,.box [.nil]),(162,.arr 84 3 (l4.map cg.lv)),(811,.box [.arr 812 l5.length]),(812,cC (l5.map ak.lv)),(10301,.map 3 78 (dO LV.I bu ba))]) (LH.seq (LH.block ?_))))
   obtain ⟨x7,xm,h⟩:=ao h
   refine LH.aj [(1,.I p1),(4,.ptr 104 0),(9,.ptr 811 0),(10,.arr 162 l4.length),(11,.mp 10301),(13,.ag (ax.lv x7).cells),(27,.al 12 (r1.1.map ax.lv)),(28,.I (r1.1.length:Int)),(29,.I n3)] [(104,.box [.nil]),(162,.arr 84 3 (l4.map cg.lv)),(811,.box [.arr 812 l5.length]),(812,cC (l5.map ak.lv)),(10301,.map 3 78 (dO LV.I bu ba))] R (sN (eM (f:=ax.lv) fR eo dF R R ax.ok xm R (sN (bc R eo iX dF R R (sN (j0 (id:=113) R xg R R (s_ (cF R R R eo dF R R R (s0 ((Wk.trans (aQ [(1,.I p1),(4,.ptr 104 0),(9,.ptr 811 0),(10,.arr 162 l4.length),(11,.mp 10301),(13,.ptr 113 0),(27,.al 12 (r1.1.map ax.lv)),(28,.I (r1.1.length:Int)),(29,.I n3)] [(104,.box [.nil]),(113,.box (ax.lv x7).cells),(162,.arr 84 3 (l4.map cg.lv)),(811,.box [.arr 812 l5.length]),(812,cC (l5.map ak.lv)),(10301,.map 3 78 (dO LV.I bu ba))]) (Wk.trans (Wk.bk 113 (ax.lv x7).cells R R R (bH R)) (Wk.eq R R R R))))))))))))) (LH.seq (LH.aj [(1,.I p1),(4,.ptr 104 0),(9,.ptr 811 0),(10,.arr 162 l4.length),(11,.mp 10301),(13,.ag (ax.lv x7).cells),(27,.al 12 (r1.1.map ax.lv)),(28,.I (r1.1.length:Int)),(29,.I n3),(37,.bool (decide (x7.ar.Time > p1)))] [(104,.box [.nil]),(162,.arr 84 3 (l4.map cg.lv)),(811,.box [.arr 812 l5.length]),(812,cC (l5.map ak.lv)),(10301,.map 3 78 (dO LV.I bu ba))] R (sN (aw di cc b7 R R R (sN (aw fc aE bb R R R (sN (bh R aE bN (br R (sN (jx R R zS))))))))) (LH.cond (t:=(decide (x7.ar.Time > p1))) R (fun kY=>?_) (fun kY=>?_))))
   ·replace h:=aB h kY
    refine LH.exit (cD (EJ R (cD (b6 (bP (au (LH.wk ((Wk.trans (aQ [(4,.ptr 104 0),(9,.ptr 811 0),(10,.arr 162 l4.length)] [(104,.box [.nil]),(162,.arr 84 3 (l4.map cg.lv)),(811,.box [.arr 812 l5.length]),(812,cC (l5.map ak.lv))]) (Wk.trans (Wk.lC (f:=cg.lv) (fB:=[(4,.ptr 104 0),(9,.ptr 811 0),(10,.al 3 (l4.map cg.lv))]) 162 84 3 l4 R R (bH R) (fK R (fK R (fZ fN)))) (aQ [(4,.ptr 104 0),(9,.ptr 811 0),(10,.al 3 (l4.map cg.lv))] [(104,.box [.nil]),(811,.box [.arr 812 l5.length]),(812,cC (l5.map ak.lv))])))) (LH.aj [(4,.ag [.al 5 (l5.map ak.lv)]),(5,.al 3 (l4.map cg.lv)),(6,.I 0)] [] R (cH.wk (aQ [(4,.ptr 104 0),(9,.ptr 811 0),(10,.al 3 (l4.map cg.lv))] [(104,.box [.nil]),(811,.box [.arr 812 l5.length]),(812,cC (l5.map ak.lv))]) (cH.wk (Wk.trans (Wk.trans (Wk.ny (f:=ak.lv) 812 49 5 [(1,54,5),(2,4,1),(3,88,3)] l5 R ak.ok) (aQ [(4,.ptr 104 0),(9,.ptr 811 0),(10,.al 3 (l4.map cg.lv))] [(104,.box [.nil]),(811,.box [.arr 812 l5.length]),(812,.arr 49 5 (l5.map ak.lv))])) (Wk.trans (Wk.fl (f:=ak.lv) 812 49 5 l5 811 R R R (jm jl) R R (bH R)) (aQ [(4,.ptr 104 0),(9,.ptr 811 0),(10,.al 3 (l4.map cg.lv))] [(104,.box [.nil]),(811,.box [.al 5 (l5.map ak.lv)])]))) (sN (lJ R R R bd bW bf R R (fh R (s_ (cF R R R bd bf R R R (qB R (bt R (s0 ((Wk.trans (aQ [(4,.ptr 104 0),(5,.al 3 (l4.map cg.lv)),(6,.I 0)] [(104,.box [.al 5 (l5.map ak.lv)])]) (Wk.trans (Wk.bk 104 [.al 5 (l5.map ak.lv)] R R R (bH R)) (Wk.eq R R R R)))))))))))))) (LH.ret ?_)))))))))
    obtain rfl:=oI h
    exact aN (aT Tryz.results10) (cN R bd bW bf R R (bO R (bO R (bL ⟨aM mN,R,aX R,(Sub.cV (aI (aI (aI bm))))⟩))))
   replace h:=aA h kY
   refine LH.skip (au (LH.aj [(1,.I p1),(4,.ptr 104 0),(9,.ptr 811 0),(10,.arr 162 l4.length),(11,.mp 10301),(13,.ag (ax.lv x7).cells),(14,.I 2),(27,.al 12 (r1.1.map ax.lv)),(28,.I (r1.1.length:Int)),(29,.I n3)] [(104,.box [.nil]),(162,.arr 84 3 (l4.map cg.lv)),(811,.box [.arr 812 l5.length]),(812,cC (l5.map ak.lv)),(10301,.map 3 78 (dO LV.I bu ba))] R (bt R zS) (LH.seq ?_)))
   by_cases MW:(x7.Kind == 1)=true
   ·replace h:=aB h MW
    refine LH.aj [(1,.I p1),(4,.ptr 104 0),(9,.ptr 811 0),(10,.arr 162 l4.length),(11,.mp 10301),(13,.ag (ax.lv x7).cells),(14,.I 2),(15,.fn 57 []),(16,.bool true),(27,.al 12 (r1.1.map ax.lv)),(28,.I (r1.1.length:Int)),(29,.I n3)] [(104,.box [.nil]),(162,.arr 84 3 (l4.map cg.lv)),(811,.box [.arr 812 l5.length]),(812,cC (l5.map ak.lv)),(10301,.map 3 78 (dO LV.I bu ba))] R (sN (oM (v:=(.mp _)) R (sN (aw dM aE bb R R R (sN (bh R aE bN (sX ((eO (f:=LV.I) (g:=bu) (xs:=ba) (key:=1) (z:=0) (o:=some 1) lN lF u7 R R (congrArg LV.I (eq_of_beq MW)) qa R).ok) (wU R (sN (fV R R (sN (fV R R (sN (oA (v:=(.fn _ _)) R (ct R zS))))))))))))))) (LH.aj [(1,.I p1),(4,.ptr 104 0),(9,.ptr 811 0),(10,.arr 162 l4.length),(11,.mp 10301),(13,.ag (ax.lv x7).cells),(14,.I 2),(15,.fn 57 []),(27,.al 12 (r1.1.map ax.lv)),(28,.I (r1.1.length:Int)),(29,.I n3),(45,.bool true)] [(104,.box [.nil]),(162,.arr 84 3 (l4.map cg.lv)),(811,.box [.arr 812 l5.length]),(812,cC (l5.map ak.lv)),(10301,.map 3 78 (dO LV.I bu ba))] R (bM R zS) (LH.cond (t:=true) R (fun ib=>?_) (fun ib=>?_)))
    ·obtain ⟨cm,kr,h⟩:=ao h
     refine LH.aS [(1,.I p1),(4,.ptr 104 0),(9,.ptr 811 0),(10,.arr 162 l4.length),(11,.mp 10301),(13,.ag (ax.lv x7).cells),(14,.I cm.1),(27,.al 12 (r1.1.map ax.lv)),(28,.I (r1.1.length:Int)),(29,.I n3)] [(104,.box [.nil]),(162,.arr 84 3 (l4.map cg.lv)),(811,.box [.arr 812 cm.2.aa.length]),(812,cC (cm.2.aa.map ak.lv)),(10301,.map 3 78 (dO LV.I bu ba))] R (sN (oM (v:=(.fn _ _)) R (sN (bc R eo iX dF R R (sN (dX (args:=[.ptr 811 0,ax.lv x7]) (ml:=[(811,.box [.arr 812 l5.length]),(812,cC (l5.map ak.lv))]) (cQ:=[(811,.box [.arr 812 cm.2.aa.length]),(812,cC (cm.2.aa.map ak.lv))]) R Jy R (aI (aI bm)) (J6 kr) ⟨R,R,trivial⟩ (bT R (bT R bU)) R (bt R zS))))))) (au (LH.aj [(1,.I p1),(4,.ptr 104 0),(9,.ptr 811 0),(10,.arr 162 l4.length),(11,.mp 10301),(13,.ag (ax.lv x7).cells),(14,.I cm.1),(27,.al 12 (r1.1.map ax.lv)),(28,.I (r1.1.length:Int)),(29,.I n3),(50,.bool (cm.1 != 0))] [(104,.box [.nil]),(162,.arr 84 3 (l4.map cg.lv)),(811,.box [.arr 812 cm.2.aa.length]),(812,cC (cm.2.aa.map ak.lv)),(10301,.map 3 78 (dO LV.I bu ba))] R (br R (sN (iR R R zS))) (LH.cond (t:=(cm.1 != 0)) R (fun gh=>?_) (fun gh=>?_))))
     ·replace h:=aB h gh
      obtain ⟨se,FG,h⟩:=ao h
      refine LH.aS [(1,.I p1),(4,.ptr 104 0),(9,.ptr 811 0),(10,.arr 162 se.length),(11,.mp 10301),(27,.al 12 (r1.1.map ax.lv)),(28,.I (r1.1.length:Int)),(29,.I n3)] [(104,.box [.nil]),(162,.arr 84 3 (se.map cg.lv)),(811,.box [.arr 812 cm.2.aa.length]),(812,cC (cm.2.aa.map ak.lv)),(10301,.map 3 78 (dO LV.I bu ba))] R (jQ R (sN (aw di cc b7 R R R (sN (aw ez aE bb R R R (sN (bh R aE bN (sN (aw di cc b7 R R R (sN (aw dL aE bb R R R (sN (bh R aE bN (sN (fU (vs:=[(0,.I x7.ar.Source),(1,.I x7.ar.Seq)]) zI zK R (lf nm bb aE R R R (lf np bb aE R R R fT)) (br R (sN (fU (vs:=[(0,.agg [.I x7.ar.Source,.I x7.ar.Seq]),(1,.I cm.1)]) zJ zL R (lf nr zH zC R R R (lf nt zG zB R R R fT)) (sN (ka (f:=cg.lv) (ys:=[(cg.mk (si.mk x7.ar.Source x7.ar.Seq) cm.1)]) nk od oe R R R cg.ok (sN (nL (f:=cg.lv) nk od oe R R (bH R) R FG (nQ R zS))))))))))))))))))))))) (aY (au (LH.aS [(1,.I p1),(4,.ptr 104 0),(9,.ptr 811 0),(10,.arr 162 se.length),(11,.mp 10301),(27,.al 12 (r1.1.map ax.lv)),(28,.I (r1.1.length:Int)),(29,.I (i64 (n3+1)))] [(104,.box [.nil]),(162,.arr 84 3 (se.map cg.lv)),(811,.box [.arr 812 cm.2.aa.length]),(812,cC (cm.2.aa.map ak.lv)),(10301,.map 3 78 (dO LV.I bu ba))] R (sN (cI R R (br R zS))) ?_)))
      exact bl ⟨(i64 (n3+1)),se,cm.2.aa,a7 ▸ h,R,R⟩ (Wk.eq R R R R)
     replace h:=aA h gh
     refine LH.skip (aY (au (LH.aS [(1,.I p1),(4,.ptr 104 0),(9,.ptr 811 0),(10,.arr 162 l4.length),(11,.mp 10301),(27,.al 12 (r1.1.map ax.lv)),(28,.I (r1.1.length:Int)),(29,.I (i64 (n3+1)))] [(104,.box [.nil]),(162,.arr 84 3 (l4.map cg.lv)),(811,.box [.arr 812 cm.2.aa.length]),(812,cC (cm.2.aa.map ak.lv)),(10301,.map 3 78 (dO LV.I bu ba))] R (sN (cI R R (br R zS))) ?_)))
     exact bl ⟨(i64 (n3+1)),l4,cm.2.aa,a7 ▸ h,R,R⟩ (Wk.eq R R R R)
    ·cases ib
   replace MW:=bF MW
   replace h:=aA h MW
   by_cases Da:(x7.Kind == 2)=true
   ·replace h:=aB h Da
    refine LH.aj [(1,.I p1),(4,.ptr 104 0),(9,.ptr 811 0),(10,.arr 162 l4.length),(11,.mp 10301),(13,.ag (ax.lv x7).cells),(14,.I 2),(15,.fn 58 []),(16,.bool true),(27,.al 12 (r1.1.map ax.lv)),(28,.I (r1.1.length:Int)),(29,.I n3)] [(104,.box [.nil]),(162,.arr 84 3 (l4.map cg.lv)),(811,.box [.arr 812 l5.length]),(812,cC (l5.map ak.lv)),(10301,.map 3 78 (dO LV.I bu ba))] R (sN (oM (v:=(.mp _)) R (sN (aw dM aE bb R R R (sN (bh R aE bN (sX ((eO (f:=LV.I) (g:=bu) (xs:=ba) (key:=2) (z:=0) (o:=some 2) lN lF u7 R R (congrArg LV.I (eq_of_beq Da)) qa R).ok) (wU R (sN (fV R R (sN (fV R R (sN (oA (v:=(.fn _ _)) R (ct R zS))))))))))))))) (LH.aj [(1,.I p1),(4,.ptr 104 0),(9,.ptr 811 0),(10,.arr 162 l4.length),(11,.mp 10301),(13,.ag (ax.lv x7).cells),(14,.I 2),(15,.fn 58 []),(27,.al 12 (r1.1.map ax.lv)),(28,.I (r1.1.length:Int)),(29,.I n3),(45,.bool true)] [(104,.box [.nil]),(162,.arr 84 3 (l4.map cg.lv)),(811,.box [.arr 812 l5.length]),(812,cC (l5.map ak.lv)),(10301,.map 3 78 (dO LV.I bu ba))] R (bM R zS) (LH.cond (t:=true) R (fun kD=>?_) (fun kD=>?_)))
    ·obtain ⟨fW,Fu,h⟩:=ao h
     refine LH.aS [(1,.I p1),(4,.ptr 104 0),(9,.ptr 811 0),(10,.arr 162 l4.length),(11,.mp 10301),(13,.ag (ax.lv x7).cells),(14,.I fW.1),(27,.al 12 (r1.1.map ax.lv)),(28,.I (r1.1.length:Int)),(29,.I n3)] [(104,.box [.nil]),(162,.arr 84 3 (l4.map cg.lv)),(811,.box [.arr 812 fW.2.aa.length]),(812,cC (fW.2.aa.map ak.lv)),(10301,.map 3 78 (dO LV.I bu ba))] R (sN (oM (v:=(.fn _ _)) R (sN (bc R eo iX dF R R (sN (dX (args:=[.ptr 811 0,ax.lv x7]) (ml:=[(811,.box [.arr 812 l5.length]),(812,cC (l5.map ak.lv))]) (cQ:=[(811,.box [.arr 812 fW.2.aa.length]),(812,cC (fW.2.aa.map ak.lv))]) R Jz R (aI (aI bm)) (J3 Fu) ⟨R,R,trivial⟩ (bT R (bT R bU)) R (bt R zS))))))) (au (LH.aj [(1,.I p1),(4,.ptr 104 0),(9,.ptr 811 0),(10,.arr 162 l4.length),(11,.mp 10301),(13,.ag (ax.lv x7).cells),(14,.I fW.1),(27,.al 12 (r1.1.map ax.lv)),(28,.I (r1.1.length:Int)),(29,.I n3),(50,.bool (fW.1 != 0))] [(104,.box [.nil]),(162,.arr 84 3 (l4.map cg.lv)),(811,.box [.arr 812 fW.2.aa.length]),(812,cC (fW.2.aa.map ak.lv)),(10301,.map 3 78 (dO LV.I bu ba))] R (br R (sN (iR R R zS))) (LH.cond (t:=(fW.1 != 0)) R (fun kl=>?_) (fun kl=>?_))))
     ·replace h:=aB h kl
      obtain ⟨qf,FH,h⟩:=ao h
      refine LH.aS [(1,.I p1),(4,.ptr 104 0),(9,.ptr 811 0),(10,.arr 162 qf.length),(11,.mp 10301),(27,.al 12 (r1.1.map ax.lv)),(28,.I (r1.1.length:Int)),(29,.I n3)] [(104,.box [.nil]),(162,.arr 84 3 (qf.map cg.lv)),(811,.box [.arr 812 fW.2.aa.length]),(812,cC (fW.2.aa.map ak.lv)),(10301,.map 3 78 (dO LV.I bu ba))] R (jQ R (sN (aw di cc b7 R R R (sN (aw ez aE bb R R R (sN (bh R aE bN (sN (aw di cc b7 R R R (sN (aw dL aE bb R R R (sN (bh R aE bN (sN (fU (vs:=[(0,.I x7.ar.Source),(1,.I x7.ar.Seq)]) zI zK R (lf nm bb aE R R R (lf np bb aE R R R fT)) (br R (sN (fU (vs:=[(0,.agg [.I x7.ar.Source,.I x7.ar.Seq]),(1,.I fW.1)]) zJ zL R (lf nr zH zC R R R (lf nt zG zB R R R fT)) (sN (ka (f:=cg.lv) (ys:=[(cg.mk (si.mk x7.ar.Source x7.ar.Seq) fW.1)]) nk od oe R R R cg.ok (sN (nL (f:=cg.lv) nk od oe R R (bH R) R FH (nQ R zS))))))))))))))))))))))) (aY (au (LH.aS [(1,.I p1),(4,.ptr 104 0),(9,.ptr 811 0),(10,.arr 162 qf.length),(11,.mp 10301),(27,.al 12 (r1.1.map ax.lv)),(28,.I (r1.1.length:Int)),(29,.I (i64 (n3+1)))] [(104,.box [.nil]),(162,.arr 84 3 (qf.map cg.lv)),(811,.box [.arr 812 fW.2.aa.length]),(812,cC (fW.2.aa.map ak.lv)),(10301,.map 3 78 (dO LV.I bu ba))] R (sN (cI R R (br R zS))) ?_)))
      exact bl ⟨(i64 (n3+1)),qf,fW.2.aa,a7 ▸ h,R,R⟩ (Wk.eq R R R R)
     replace h:=aA h kl
     refine LH.skip (aY (au (LH.aS [(1,.I p1),(4,.ptr 104 0),(9,.ptr 811 0),(10,.arr 162 l4.length),(11,.mp 10301),(27,.al 12 (r1.1.map ax.lv)),(28,.I (r1.1.length:Int)),(29,.I (i64 (n3+1)))] [(104,.box [.nil]),(162,.arr 84 3 (l4.map cg.lv)),(811,.box [.arr 812 fW.2.aa.length]),(812,cC (fW.2.aa.map ak.lv)),(10301,.map 3 78 (dO LV.I bu ba))] R (sN (cI R R (br R zS))) ?_)))
     exact bl ⟨(i64 (n3+1)),l4,fW.2.aa,a7 ▸ h,R,R⟩ (Wk.eq R R R R)
    ·cases kD
   replace Da:=bF Da
   replace h:=aA h Da
   by_cases Dc:(x7.Kind == 3)=true
   ·replace h:=aB h Dc
    refine LH.aj [(1,.I p1),(4,.ptr 104 0),(9,.ptr 811 0),(10,.arr 162 l4.length),(11,.mp 10301),(13,.ag (ax.lv x7).cells),(14,.I 2),(15,.fn 59 []),(16,.bool true),(27,.al 12 (r1.1.map ax.lv)),(28,.I (r1.1.length:Int)),(29,.I n3)] [(104,.box [.nil]),(162,.arr 84 3 (l4.map cg.lv)),(811,.box [.arr 812 l5.length]),(812,cC (l5.map ak.lv)),(10301,.map 3 78 (dO LV.I bu ba))] R (sN (oM (v:=(.mp _)) R (sN (aw dM aE bb R R R (sN (bh R aE bN (sX ((eO (f:=LV.I) (g:=bu) (xs:=ba) (key:=3) (z:=0) (o:=some 3) lN lF u7 R R (congrArg LV.I (eq_of_beq Dc)) qa R).ok) (wU R (sN (fV R R (sN (fV R R (sN (oA (v:=(.fn _ _)) R (ct R zS))))))))))))))) (LH.aj [(1,.I p1),(4,.ptr 104 0),(9,.ptr 811 0),(10,.arr 162 l4.length),(11,.mp 10301),(13,.ag (ax.lv x7).cells),(14,.I 2),(15,.fn 59 []),(27,.al 12 (r1.1.map ax.lv)),(28,.I (r1.1.length:Int)),(29,.I n3),(45,.bool true)] [(104,.box [.nil]),(162,.arr 84 3 (l4.map cg.lv)),(811,.box [.arr 812 l5.length]),(812,cC (l5.map ak.lv)),(10301,.map 3 78 (dO LV.I bu ba))] R (bM R zS) (LH.cond (t:=true) R (fun kE=>?_) (fun kE=>?_)))
    ·obtain ⟨eS,wo,h⟩:=ao h
     refine LH.aS [(1,.I p1),(4,.ptr 104 0),(9,.ptr 811 0),(10,.arr 162 l4.length),(11,.mp 10301),(13,.ag (ax.lv x7).cells),(14,.I eS.1),(27,.al 12 (r1.1.map ax.lv)),(28,.I (r1.1.length:Int)),(29,.I n3)] [(104,.box [.nil]),(162,.arr 84 3 (l4.map cg.lv)),(811,.box [.arr 812 eS.2.aa.length]),(812,cC (eS.2.aa.map ak.lv)),(10301,.map 3 78 (dO LV.I bu ba))] R (sN (oM (v:=(.fn _ _)) R (sN (bc R eo iX dF R R (sN (dX (args:=[.ptr 811 0,ax.lv x7]) (ml:=[(811,.box [.arr 812 l5.length]),(812,cC (l5.map ak.lv))]) (cQ:=[(811,.box [.arr 812 eS.2.aa.length]),(812,cC (eS.2.aa.map ak.lv))]) R JA R (aI (aI bm)) (J0 wo) ⟨R,R,trivial⟩ (bT R (bT R bU)) R (bt R zS))))))) (au (LH.aj [(1,.I p1),(4,.ptr 104 0),(9,.ptr 811 0),(10,.arr 162 l4.length),(11,.mp 10301),(13,.ag (ax.lv x7).cells),(14,.I eS.1),(27,.al 12 (r1.1.map ax.lv)),(28,.I (r1.1.length:Int)),(29,.I n3),(50,.bool (eS.1 != 0))] [(104,.box [.nil]),(162,.arr 84 3 (l4.map cg.lv)),(811,.box [.arr 812 eS.2.aa.length]),(812,cC (eS.2.aa.map ak.lv)),(10301,.map 3 78 (dO LV.I bu ba))] R (br R (sN (iR R R zS))) (LH.cond (t:=(eS.1 != 0)) R (fun ko=>?_) (fun ko=>?_))))
     ·replace h:=aB h ko
      obtain ⟨v23,AT,h⟩:=ao h
      refine LH.aS [(1,.I p1),(4,.ptr 104 0),(9,.ptr 811 0),(10,.arr 162 v23.length),(11,.mp 10301),(27,.al 12 (r1.1.map ax.lv)),(28,.I (r1.1.length:Int)),(29,.I n3)] [(104,.box [.nil]),(162,.arr 84 3 (v23.map cg.lv)),(811,.box [.arr 812 eS.2.aa.length]),(812,cC (eS.2.aa.map ak.lv)),(10301,.map 3 78 (dO LV.I bu ba))] R (jQ R (sN (aw di cc b7 R R R (sN (aw ez aE bb R R R (sN (bh R aE bN (sN (aw di cc b7 R R R (sN (aw dL aE bb R R R (sN (bh R aE bN (sN (fU (vs:=[(0,.I x7.ar.Source),(1,.I x7.ar.Seq)]) zI zK R (lf nm bb aE R R R (lf np bb aE R R R fT)) (br R (sN (fU (vs:=[(0,.agg [.I x7.ar.Source,.I x7.ar.Seq]),(1,.I eS.1)]) zJ zL R (lf nr zH zC R R R (lf nt zG zB R R R fT)) (sN (ka (f:=cg.lv) (ys:=[(cg.mk (si.mk x7.ar.Source x7.ar.Seq) eS.1)]) nk od oe R R R cg.ok (sN (nL (f:=cg.lv) nk od oe R R (bH R) R AT (nQ R zS))))))))))))))))))))))) (aY (au (LH.aS [(1,.I p1),(4,.ptr 104 0),(9,.ptr 811 0),(10,.arr 162 v23.length),(11,.mp 10301),(27,.al 12 (r1.1.map ax.lv)),(28,.I (r1.1.length:Int)),(29,.I (i64 (n3+1)))] [(104,.box [.nil]),(162,.arr 84 3 (v23.map cg.lv)),(811,.box [.arr 812 eS.2.aa.length]),(812,cC (eS.2.aa.map ak.lv)),(10301,.map 3 78 (dO LV.I bu ba))] R (sN (cI R R (br R zS))) ?_)))
      exact bl ⟨(i64 (n3+1)),v23,eS.2.aa,a7 ▸ h,R,R⟩ (Wk.eq R R R R)
     replace h:=aA h ko
     refine LH.skip (aY (au (LH.aS [(1,.I p1),(4,.ptr 104 0),(9,.ptr 811 0),(10,.arr 162 l4.length),(11,.mp 10301),(27,.al 12 (r1.1.map ax.lv)),(28,.I (r1.1.length:Int)),(29,.I (i64 (n3+1)))] [(104,.box [.nil]),(162,.arr 84 3 (l4.map cg.lv)),(811,.box [.arr 812 eS.2.aa.length]),(812,cC (eS.2.aa.map ak.lv)),(10301,.map 3 78 (dO LV.I bu ba))] R (sN (cI R R (br R zS))) ?_)))
     exact bl ⟨(i64 (n3+1)),l4,eS.2.aa,a7 ▸ h,R,R⟩ (Wk.eq R R R R)
    ·cases kE
   replace Dc:=bF Dc
   replace h:=aA h Dc
   by_cases De:(x7.Kind == 4)=true
   ·replace h:=aB h De
    refine LH.aj [(1,.I p1),(4,.ptr 104 0),(9,.ptr 811 0),(10,.arr 162 l4.length),(11,.mp 10301),(13,.ag (ax.lv x7).cells),(14,.I 2),(15,.fn 60 []),(16,.bool true),(27,.al 12 (r1.1.map ax.lv)),(28,.I (r1.1.length:Int)),(29,.I n3)] [(104,.box [.nil]),(162,.arr 84 3 (l4.map cg.lv)),(811,.box [.arr 812 l5.length]),(812,cC (l5.map ak.lv)),(10301,.map 3 78 (dO LV.I bu ba))] R (sN (oM (v:=(.mp _)) R (sN (aw dM aE bb R R R (sN (bh R aE bN (sX ((eO (f:=LV.I) (g:=bu) (xs:=ba) (key:=4) (z:=0) (o:=some 4) lN lF u7 R R (congrArg LV.I (eq_of_beq De)) qa R).ok) (wU R (sN (fV R R (sN (fV R R (sN (oA (v:=(.fn _ _)) R (ct R zS))))))))))))))) (LH.aj [(1,.I p1),(4,.ptr 104 0),(9,.ptr 811 0),(10,.arr 162 l4.length),(11,.mp 10301),(13,.ag (ax.lv x7).cells),(14,.I 2),(15,.fn 60 []),(27,.al 12 (r1.1.map ax.lv)),(28,.I (r1.1.length:Int)),(29,.I n3),(45,.bool true)] [(104,.box [.nil]),(162,.arr 84 3 (l4.map cg.lv)),(811,.box [.arr 812 l5.length]),(812,cC (l5.map ak.lv)),(10301,.map 3 78 (dO LV.I bu ba))] R (bM R zS) (LH.cond (t:=true) R (fun NF=>?_) (fun NF=>?_)))
    ·obtain ⟨jA,Lp,h⟩:=ao h
     refine LH.aS [(1,.I p1),(4,.ptr 104 0),(9,.ptr 811 0),(10,.arr 162 l4.length),(11,.mp 10301),(13,.ag (ax.lv x7).cells),(14,.I jA.1),(27,.al 12 (r1.1.map ax.lv)),(28,.I (r1.1.length:Int)),(29,.I n3)] [(104,.box [.nil]),(162,.arr 84 3 (l4.map cg.lv)),(811,.box [.arr 812 jA.2.aa.length]),(812,cC (jA.2.aa.map ak.lv)),(10301,.map 3 78 (dO LV.I bu ba))] R (sN (oM (v:=(.fn _ _)) R (sN (bc R eo iX dF R R (sN (dX (args:=[.ptr 811 0,ax.lv x7]) (ml:=[(811,.box [.arr 812 l5.length]),(812,cC (l5.map ak.lv))]) (cQ:=[(811,.box [.arr 812 jA.2.aa.length]),(812,cC (jA.2.aa.map ak.lv))]) R JB R (aI (aI bm)) (Kb Lp) ⟨R,R,trivial⟩ (bT R (bT R bU)) R (bt R zS))))))) (au (LH.aj [(1,.I p1),(4,.ptr 104 0),(9,.ptr 811 0),(10,.arr 162 l4.length),(11,.mp 10301),(13,.ag (ax.lv x7).cells),(14,.I jA.1),(27,.al 12 (r1.1.map ax.lv)),(28,.I (r1.1.length:Int)),(29,.I n3),(50,.bool (jA.1 != 0))] [(104,.box [.nil]),(162,.arr 84 3 (l4.map cg.lv)),(811,.box [.arr 812 jA.2.aa.length]),(812,cC (jA.2.aa.map ak.lv)),(10301,.map 3 78 (dO LV.I bu ba))] R (br R (sN (iR R R zS))) (LH.cond (t:=(jA.1 != 0)) R (fun sP=>?_) (fun sP=>?_))))
     ·replace h:=aB h sP
      obtain ⟨v28,Tq,h⟩:=ao h
      refine LH.aS [(1,.I p1),(4,.ptr 104 0),(9,.ptr 811 0),(10,.arr 162 v28.length),(11,.mp 10301),(27,.al 12 (r1.1.map ax.lv)),(28,.I (r1.1.length:Int)),(29,.I n3)] [(104,.box [.nil]),(162,.arr 84 3 (v28.map cg.lv)),(811,.box [.arr 812 jA.2.aa.length]),(812,cC (jA.2.aa.map ak.lv)),(10301,.map 3 78 (dO LV.I bu ba))] R (jQ R (sN (aw di cc b7 R R R (sN (aw ez aE bb R R R (sN (bh R aE bN (sN (aw di cc b7 R R R (sN (aw dL aE bb R R R (sN (bh R aE bN (sN (fU (vs:=[(0,.I x7.ar.Source),(1,.I x7.ar.Seq)]) zI zK R (lf nm bb aE R R R (lf np bb aE R R R fT)) (br R (sN (fU (vs:=[(0,.agg [.I x7.ar.Source,.I x7.ar.Seq]),(1,.I jA.1)]) zJ zL R (lf nr zH zC R R R (lf nt zG zB R R R fT)) (sN (ka (f:=cg.lv) (ys:=[(cg.mk (si.mk x7.ar.Source x7.ar.Seq) jA.1)]) nk od oe R R R cg.ok (sN (nL (f:=cg.lv) nk od oe R R (bH R) R Tq (nQ R zS))))))))))))))))))))))) (aY (au (LH.aS [(1,.I p1),(4,.ptr 104 0),(9,.ptr 811 0),(10,.arr 162 v28.length),(11,.mp 10301),(27,.al 12 (r1.1.map ax.lv)),(28,.I (r1.1.length:Int)),(29,.I (i64 (n3+1)))] [(104,.box [.nil]),(162,.arr 84 3 (v28.map cg.lv)),(811,.box [.arr 812 jA.2.aa.length]),(812,cC (jA.2.aa.map ak.lv)),(10301,.map 3 78 (dO LV.I bu ba))] R (sN (cI R R (br R zS))) ?_)))
      exact bl ⟨(i64 (n3+1)),v28,jA.2.aa,a7 ▸ h,R,R⟩ (Wk.eq R R R R)
     replace h:=aA h sP
     refine LH.skip (aY (au (LH.aS [(1,.I p1),(4,.ptr 104 0),(9,.ptr 811 0),(10,.arr 162 l4.length),(11,.mp 10301),(27,.al 12 (r1.1.map ax.lv)),(28,.I (r1.1.length:Int)),(29,.I (i64 (n3+1)))] [(104,.box [.nil]),(162,.arr 84 3 (l4.map cg.lv)),(811,.box [.arr 812 jA.2.aa.length]),(812,cC (jA.2.aa.map ak.lv)),(10301,.map 3 78 (dO LV.I bu ba))] R (sN (cI R R (br R zS))) ?_)))
     exact bl ⟨(i64 (n3+1)),l4,jA.2.aa,a7 ▸ h,R,R⟩ (Wk.eq R R R R)
    ·cases NF
   replace De:=bF De
   replace h:=aA h De
   by_cases Dg:(x7.Kind == 5)=true
   ·replace h:=aB h Dg
    refine LH.aj [(1,.I p1),(4,.ptr 104 0),(9,.ptr 811 0),(10,.arr 162 l4.length),(11,.mp 10301),(13,.ag (ax.lv x7).cells),(14,.I 2),(15,.fn 81 [.ag [.bool true]]),(16,.bool true),(27,.al 12 (r1.1.map ax.lv)),(28,.I (r1.1.length:Int)),(29,.I n3)] [(104,.box [.nil]),(162,.arr 84 3 (l4.map cg.lv)),(811,.box [.arr 812 l5.length]),(812,cC (l5.map ak.lv)),(10301,.map 3 78 (dO LV.I bu ba))] R (sN (oM (v:=(.mp _)) R (sN (aw dM aE bb R R R (sN (bh R aE bN (sX ((eO (f:=LV.I) (g:=bu) (xs:=ba) (key:=5) (z:=0) (o:=some 5) lN lF u7 R R (congrArg LV.I (eq_of_beq Dg)) qa R).ok) (wU R (sN (fV R R (sN (fV R R (sN (oA (v:=(.fn _ _)) R (ct R zS))))))))))))))) (LH.aj [(1,.I p1),(4,.ptr 104 0),(9,.ptr 811 0),(10,.arr 162 l4.length),(11,.mp 10301),(13,.ag (ax.lv x7).cells),(14,.I 2),(15,.fn 81 [.ag [.bool true]]),(27,.al 12 (r1.1.map ax.lv)),(28,.I (r1.1.length:Int)),(29,.I n3),(45,.bool true)] [(104,.box [.nil]),(162,.arr 84 3 (l4.map cg.lv)),(811,.box [.arr 812 l5.length]),(812,cC (l5.map ak.lv)),(10301,.map 3 78 (dO LV.I bu ba))] R (bM R zS) (LH.cond (t:=true) R (fun pK=>?_) (fun pK=>?_)))
    ·obtain ⟨cM,AP,h⟩:=ao h
     refine LH.aS [(1,.I p1),(4,.ptr 104 0),(9,.ptr 811 0),(10,.arr 162 l4.length),(11,.mp 10301),(13,.ag (ax.lv x7).cells),(14,.I cM.1),(27,.al 12 (r1.1.map ax.lv)),(28,.I (r1.1.length:Int)),(29,.I n3)] [(104,.box [.nil]),(162,.arr 84 3 (l4.map cg.lv)),(811,.box [.arr 812 cM.2.aa.length]),(812,cC (cM.2.aa.map ak.lv)),(10301,.map 3 78 (dO LV.I bu ba))] R (sN (oM (v:=(.fn _ _)) R (sN (bc R eo iX dF R R (sN (dX (args:=[.ptr 811 0,ax.lv x7,.ag [.bool true]]) (ml:=[(811,.box [.arr 812 l5.length]),(812,cC (l5.map ak.lv))]) (cQ:=[(811,.box [.arr 812 cM.2.aa.length]),(812,cC (cM.2.aa.map ak.lv))]) R Ca R (aI (aI (aI bm))) (Iz AP) ⟨R,R,trivial⟩ (bT R (bT R bU)) R (bt R zS))))))) (au (LH.aj [(1,.I p1),(4,.ptr 104 0),(9,.ptr 811 0),(10,.arr 162 l4.length),(11,.mp 10301),(13,.ag (ax.lv x7).cells),(14,.I cM.1),(27,.al 12 (r1.1.map ax.lv)),(28,.I (r1.1.length:Int)),(29,.I n3),(50,.bool (cM.1 != 0))] [(104,.box [.nil]),(162,.arr 84 3 (l4.map cg.lv)),(811,.box [.arr 812 cM.2.aa.length]),(812,cC (cM.2.aa.map ak.lv)),(10301,.map 3 78 (dO LV.I bu ba))] R (br R (sN (iR R R zS))) (LH.cond (t:=(cM.1 != 0)) R (fun sQ=>?_) (fun sQ=>?_))))
     ·replace h:=aB h sQ
      obtain ⟨v33,Tr,h⟩:=ao h
      refine LH.aS [(1,.I p1),(4,.ptr 104 0),(9,.ptr 811 0),(10,.arr 162 v33.length),(11,.mp 10301),(27,.al 12 (r1.1.map ax.lv)),(28,.I (r1.1.length:Int)),(29,.I n3)] [(104,.box [.nil]),(162,.arr 84 3 (v33.map cg.lv)),(811,.box [.arr 812 cM.2.aa.length]),(812,cC (cM.2.aa.map ak.lv)),(10301,.map 3 78 (dO LV.I bu ba))] R (jQ R (sN (aw di cc b7 R R R (sN (aw ez aE bb R R R (sN (bh R aE bN (sN (aw di cc b7 R R R (sN (aw dL aE bb R R R (sN (bh R aE bN (sN (fU (vs:=[(0,.I x7.ar.Source),(1,.I x7.ar.Seq)]) zI zK R (lf nm bb aE R R R (lf np bb aE R R R fT)) (br R (sN (fU (vs:=[(0,.agg [.I x7.ar.Source,.I x7.ar.Seq]),(1,.I cM.1)]) zJ zL R (lf nr zH zC R R R (lf nt zG zB R R R fT)) (sN (ka (f:=cg.lv) (ys:=[(cg.mk (si.mk x7.ar.Source x7.ar.Seq) cM.1)]) nk od oe R R R cg.ok (sN (nL (f:=cg.lv) nk od oe R R (bH R) R Tr (nQ R zS))))))))))))))))))))))) (aY (au (LH.aS [(1,.I p1),(4,.ptr 104 0),(9,.ptr 811 0),(10,.arr 162 v33.length),(11,.mp 10301),(27,.al 12 (r1.1.map ax.lv)),(28,.I (r1.1.length:Int)),(29,.I (i64 (n3+1)))] [(104,.box [.nil]),(162,.arr 84 3 (v33.map cg.lv)),(811,.box [.arr 812 cM.2.aa.length]),(812,cC (cM.2.aa.map ak.lv)),(10301,.map 3 78 (dO LV.I bu ba))] R (sN (cI R R (br R zS))) ?_)))
      exact bl ⟨(i64 (n3+1)),v33,cM.2.aa,a7 ▸ h,R,R⟩ (Wk.eq R R R R)
     replace h:=aA h sQ
     refine LH.skip (aY (au (LH.aS [(1,.I p1),(4,.ptr 104 0),(9,.ptr 811 0),(10,.arr 162 l4.length),(11,.mp 10301),(27,.al 12 (r1.1.map ax.lv)),(28,.I (r1.1.length:Int)),(29,.I (i64 (n3+1)))] [(104,.box [.nil]),(162,.arr 84 3 (l4.map cg.lv)),(811,.box [.arr 812 cM.2.aa.length]),(812,cC (cM.2.aa.map ak.lv)),(10301,.map 3 78 (dO LV.I bu ba))] R (sN (cI R R (br R zS))) ?_)))
     exact bl ⟨(i64 (n3+1)),l4,cM.2.aa,a7 ▸ h,R,R⟩ (Wk.eq R R R R)
    ·cases pK
   replace Dg:=bF Dg
   replace h:=aA h Dg
   by_cases Dh:(x7.Kind == 6)=true
   ·replace h:=aB h Dh
    refine LH.aj [(1,.I p1),(4,.ptr 104 0),(9,.ptr 811 0),(10,.arr 162 l4.length),(11,.mp 10301),(13,.ag (ax.lv x7).cells),(14,.I 2),(15,.fn 81 [.ag [.bool false]]),(16,.bool true),(27,.al 12 (r1.1.map ax.lv)),(28,.I (r1.1.length:Int)),(29,.I n3)] [(104,.box [.nil]),(162,.arr 84 3 (l4.map cg.lv)),(811,.box [.arr 812 l5.length]),(812,cC (l5.map ak.lv)),(10301,.map 3 78 (dO LV.I bu ba))] R (sN (oM (v:=(.mp _)) R (sN (aw dM aE bb R R R (sN (bh R aE bN (sX ((eO (f:=LV.I) (g:=bu) (xs:=ba) (key:=6) (z:=0) (o:=some 6) lN lF u7 R R (congrArg LV.I (eq_of_beq Dh)) qa R).ok) (wU R (sN (fV R R (sN (fV R R (sN (oA (v:=(.fn _ _)) R (ct R zS))))))))))))))) (LH.aj [(1,.I p1),(4,.ptr 104 0),(9,.ptr 811 0),(10,.arr 162 l4.length),(11,.mp 10301),(13,.ag (ax.lv x7).cells),(14,.I 2),(15,.fn 81 [.ag [.bool false]]),(27,.al 12 (r1.1.map ax.lv)),(28,.I (r1.1.length:Int)),(29,.I n3),(45,.bool true)] [(104,.box [.nil]),(162,.arr 84 3 (l4.map cg.lv)),(811,.box [.arr 812 l5.length]),(812,cC (l5.map ak.lv)),(10301,.map 3 78 (dO LV.I bu ba))] R (bM R zS) (LH.cond (t:=true) R (fun C2=>?_) (fun C2=>?_)))
    ·obtain ⟨rI,SX,h⟩:=ao h
     refine LH.aS [(1,.I p1),(4,.ptr 104 0),(9,.ptr 811 0),(10,.arr 162 l4.length),(11,.mp 10301),(13,.ag (ax.lv x7).cells),(14,.I rI.1),(27,.al 12 (r1.1.map ax.lv)),(28,.I (r1.1.length:Int)),(29,.I n3)] [(104,.box [.nil]),(162,.arr 84 3 (l4.map cg.lv)),(811,.box [.arr 812 rI.2.aa.length]),(812,cC (rI.2.aa.map ak.lv)),(10301,.map 3 78 (dO LV.I bu ba))] R (sN (oM (v:=(.fn _ _)) R (sN (bc R eo iX dF R R (sN (dX (args:=[.ptr 811 0,ax.lv x7,.ag [.bool false]]) (ml:=[(811,.box [.arr 812 l5.length]),(812,cC (l5.map ak.lv))]) (cQ:=[(811,.box [.arr 812 rI.2.aa.length]),(812,cC (rI.2.aa.map ak.lv))]) R Ca R (aI (aI (aI bm))) (Iz SX) ⟨R,R,trivial⟩ (bT R (bT R bU)) R (bt R zS))))))) (au (LH.aj [(1,.I p1),(4,.ptr 104 0),(9,.ptr 811 0),(10,.arr 162 l4.length),(11,.mp 10301),(13,.ag (ax.lv x7).cells),(14,.I rI.1),(27,.al 12 (r1.1.map ax.lv)),(28,.I (r1.1.length:Int)),(29,.I n3),(50,.bool (rI.1 != 0))] [(104,.box [.nil]),(162,.arr 84 3 (l4.map cg.lv)),(811,.box [.arr 812 rI.2.aa.length]),(812,cC (rI.2.aa.map ak.lv)),(10301,.map 3 78 (dO LV.I bu ba))] R (br R (sN (iR R R zS))) (LH.cond (t:=(rI.1 != 0)) R (fun KK=>?_) (fun KK=>?_))))
     ·replace h:=aB h KK
      obtain ⟨MF,Tt,h⟩:=ao h
      refine LH.aS [(1,.I p1),(4,.ptr 104 0),(9,.ptr 811 0),(10,.arr 162 MF.length),(11,.mp 10301),(27,.al 12 (r1.1.map ax.lv)),(28,.I (r1.1.length:Int)),(29,.I n3)] [(104,.box [.nil]),(162,.arr 84 3 (MF.map cg.lv)),(811,.box [.arr 812 rI.2.aa.length]),(812,cC (rI.2.aa.map ak.lv)),(10301,.map 3 78 (dO LV.I bu ba))] R (jQ R (sN (aw di cc b7 R R R (sN (aw ez aE bb R R R (sN (bh R aE bN (sN (aw di cc b7 R R R (sN (aw dL aE bb R R R (sN (bh R aE bN (sN (fU (vs:=[(0,.I x7.ar.Source),(1,.I x7.ar.Seq)]) zI zK R (lf nm bb aE R R R (lf np bb aE R R R fT)) (br R (sN (fU (vs:=[(0,.agg [.I x7.ar.Source,.I x7.ar.Seq]),(1,.I rI.1)]) zJ zL R (lf nr zH zC R R R (lf nt zG zB R R R fT)) (sN (ka (f:=cg.lv) (ys:=[(cg.mk (si.mk x7.ar.Source x7.ar.Seq) rI.1)]) nk od oe R R R cg.ok (sN (nL (f:=cg.lv) nk od oe R R (bH R) R Tt (nQ R zS))))))))))))))))))))))) (aY (au (LH.aS [(1,.I p1),(4,.ptr 104 0),(9,.ptr 811 0),(10,.arr 162 MF.length),(11,.mp 10301),(27,.al 12 (r1.1.map ax.lv)),(28,.I (r1.1.length:Int)),(29,.I (i64 (n3+1)))] [(104,.box [.nil]),(162,.arr 84 3 (MF.map cg.lv)),(811,.box [.arr 812 rI.2.aa.length]),(812,cC (rI.2.aa.map ak.lv)),(10301,.map 3 78 (dO LV.I bu ba))] R (sN (cI R R (br R zS))) ?_)))
      exact bl ⟨(i64 (n3+1)),MF,rI.2.aa,a7 ▸ h,R,R⟩ (Wk.eq R R R R)
     replace h:=aA h KK
     refine LH.skip (aY (au (LH.aS [(1,.I p1),(4,.ptr 104 0),(9,.ptr 811 0),(10,.arr 162 l4.length),(11,.mp 10301),(27,.al 12 (r1.1.map ax.lv)),(28,.I (r1.1.length:Int)),(29,.I (i64 (n3+1)))] [(104,.box [.nil]),(162,.arr 84 3 (l4.map cg.lv)),(811,.box [.arr 812 rI.2.aa.length]),(812,cC (rI.2.aa.map ak.lv)),(10301,.map 3 78 (dO LV.I bu ba))] R (sN (cI R R (br R zS))) ?_)))
     exact bl ⟨(i64 (n3+1)),l4,rI.2.aa,a7 ▸ h,R,R⟩ (Wk.eq R R R R)
    ·cases C2
   replace Dh:=bF Dh
   replace h:=aA h Dh
   refine LH.aj [(1,.I p1),(4,.ptr 104 0),(9,.ptr 811 0),(10,.arr 162 l4.length),(11,.mp 10301),(13,.ag (ax.lv x7).cells),(14,.I 2),(15,.k5),(16,.bool false),(27,.al 12 (r1.1.map ax.lv)),(28,.I (r1.1.length:Int)),(29,.I n3)] [(104,.box [.nil]),(162,.arr 84 3 (l4.map cg.lv)),(811,.box [.arr 812 l5.length]),(812,cC (l5.map ak.lv)),(10301,.map 3 78 (dO LV.I bu ba))] R (sN (oM (v:=(.mp _)) R (sN (aw dM aE bb R R R (sN (bh R aE bN (sX ((eO (f:=LV.I) (g:=bu) (xs:=ba) (key:=x7.Kind) (z:=0) (o:=none) lN lF u7 R R R qa (Em MW (Em Da (Em Dc (Em De (Em Dg (Em Dh R))))))).ok) (wU R (sN (fV R R (sN (fV R R (sN (oA (v:=.k5) R (ct R zS))))))))))))))) (LH.aj [(1,.I p1),(4,.ptr 104 0),(9,.ptr 811 0),(10,.arr 162 l4.length),(11,.mp 10301),(13,.ag (ax.lv x7).cells),(14,.I 2),(15,.k5),(27,.al 12 (r1.1.map ax.lv)),(28,.I (r1.1.length:Int)),(29,.I n3),(45,.bool false)] [(104,.box [.nil]),(162,.arr 84 3 (l4.map cg.lv)),(811,.box [.arr 812 l5.length]),(812,cC (l5.map ak.lv)),(10301,.map 3 78 (dO LV.I bu ba))] R (bM R zS) (LH.cond (t:=false) R (fun C3=>?_) (fun C3=>?_)))
   ·cases C3
   refine LH.skip (au (LH.aj [(1,.I p1),(4,.ptr 104 0),(9,.ptr 811 0),(10,.arr 162 l4.length),(11,.mp 10301),(13,.ag (ax.lv x7).cells),(14,.I 2),(27,.al 12 (r1.1.map ax.lv)),(28,.I (r1.1.length:Int)),(29,.I n3),(50,.bool (2 != 0))] [(104,.box [.nil]),(162,.arr 84 3 (l4.map cg.lv)),(811,.box [.arr 812 l5.length]),(812,cC (l5.map ak.lv)),(10301,.map 3 78 (dO LV.I bu ba))] R (br R (sN (iR R R zS))) (LH.cond (t:=(2 != 0)) R (fun AD=>?_) (fun AD=>?_))))
   ·replace h:=aB h AD
    obtain ⟨v41,LD,h⟩:=ao h
    refine LH.aS [(1,.I p1),(4,.ptr 104 0),(9,.ptr 811 0),(10,.arr 162 v41.length),(11,.mp 10301),(27,.al 12 (r1.1.map ax.lv)),(28,.I (r1.1.length:Int)),(29,.I n3)] [(104,.box [.nil]),(162,.arr 84 3 (v41.map cg.lv)),(811,.box [.arr 812 l5.length]),(812,cC (l5.map ak.lv)),(10301,.map 3 78 (dO LV.I bu ba))] R (jQ R (sN (aw di cc b7 R R R (sN (aw ez aE bb R R R (sN (bh R aE bN (sN (aw di cc b7 R R R (sN (aw dL aE bb R R R (sN (bh R aE bN (sN (fU (vs:=[(0,.I x7.ar.Source),(1,.I x7.ar.Seq)]) zI zK R (lf nm bb aE R R R (lf np bb aE R R R fT)) (br R (sN (fU (vs:=[(0,.agg [.I x7.ar.Source,.I x7.ar.Seq]),(1,.I 2)]) zJ zL R (lf nr zH zC R R R (lf nt zG zB R R R fT)) (sN (ka (f:=cg.lv) (ys:=[(cg.mk (si.mk x7.ar.Source x7.ar.Seq) 2)]) nk od oe R R R cg.ok (sN (nL (f:=cg.lv) nk od oe R R (bH R) R LD (nQ R zS))))))))))))))))))))))) (aY (au (LH.aS [(1,.I p1),(4,.ptr 104 0),(9,.ptr 811 0),(10,.arr 162 v41.length),(11,.mp 10301),(27,.al 12 (r1.1.map ax.lv)),(28,.I (r1.1.length:Int)),(29,.I (i64 (n3+1)))] [(104,.box [.nil]),(162,.arr 84 3 (v41.map cg.lv)),(811,.box [.arr 812 l5.length]),(812,cC (l5.map ak.lv)),(10301,.map 3 78 (dO LV.I bu ba))] R (sN (cI R R (br R zS))) ?_)))
    exact bl ⟨(i64 (n3+1)),v41,l5,a7 ▸ h,R,R⟩ (Wk.eq R R R R)
   replace h:=aA h AD
   refine LH.skip (aY (au (LH.aS [(1,.I p1),(4,.ptr 104 0),(9,.ptr 811 0),(10,.arr 162 l4.length),(11,.mp 10301),(27,.al 12 (r1.1.map ax.lv)),(28,.I (r1.1.length:Int)),(29,.I (i64 (n3+1)))] [(104,.box [.nil]),(162,.arr 84 3 (l4.map cg.lv)),(811,.box [.arr 812 l5.length]),(812,cC (l5.map ak.lv)),(10301,.map 3 78 (dO LV.I bu ba))] R (sN (cI R R (br R zS))) ?_)))
   exact bl ⟨(i64 (n3+1)),l4,l5,a7 ▸ h,R,R⟩ (Wk.eq R R R R)
  replace h:=aA h fQ
  refine LH.exit (cD (b6 (bP (au (LH.wk ((Wk.trans (aQ [(4,.ptr 104 0),(9,.ptr 811 0),(10,.arr 162 l4.length)] [(104,.box [.nil]),(162,.arr 84 3 (l4.map cg.lv)),(811,.box [.arr 812 l5.length]),(812,cC (l5.map ak.lv))]) (Wk.trans (Wk.lC (f:=cg.lv) (fB:=[(4,.ptr 104 0),(9,.ptr 811 0),(10,.al 3 (l4.map cg.lv))]) 162 84 3 l4 R R (bH R) (fK R (fK R (fZ fN)))) (aQ [(4,.ptr 104 0),(9,.ptr 811 0),(10,.al 3 (l4.map cg.lv))] [(104,.box [.nil]),(811,.box [.arr 812 l5.length]),(812,cC (l5.map ak.lv))])))) (LH.aj [(4,.ag [.al 5 (l5.map ak.lv)]),(5,.al 3 (l4.map cg.lv)),(6,.I 0)] [] R (cH.wk (aQ [(4,.ptr 104 0),(9,.ptr 811 0),(10,.al 3 (l4.map cg.lv))] [(104,.box [.nil]),(811,.box [.arr 812 l5.length]),(812,cC (l5.map ak.lv))]) (cH.wk (Wk.trans (Wk.trans (Wk.ny (f:=ak.lv) 812 49 5 [(1,54,5),(2,4,1),(3,88,3)] l5 R ak.ok) (aQ [(4,.ptr 104 0),(9,.ptr 811 0),(10,.al 3 (l4.map cg.lv))] [(104,.box [.nil]),(811,.box [.arr 812 l5.length]),(812,.arr 49 5 (l5.map ak.lv))])) (Wk.trans (Wk.fl (f:=ak.lv) 812 49 5 l5 811 R R R (jm jl) R R (bH R)) (aQ [(4,.ptr 104 0),(9,.ptr 811 0),(10,.al 3 (l4.map cg.lv))] [(104,.box [.nil]),(811,.box [.al 5 (l5.map ak.lv)])]))) (sN (lJ R R R bd bW bf R R (fh R (s_ (cF R R R bd bf R R R (qB R (bt R (s0 ((Wk.trans (aQ [(4,.ptr 104 0),(5,.al 3 (l4.map cg.lv)),(6,.I 0)] [(104,.box [.al 5 (l5.map ak.lv)])]) (Wk.trans (Wk.bk 104 [.al 5 (l5.map ak.lv)] R R R (bH R)) (Wk.eq R R R R)))))))))))))) (LH.ret ?_)))))))
  obtain rfl:=oI h
  exact aN (aT Tryz.results10) (cN R bd bW bf R R (bO R (bO R (bL ⟨aM mN,R,aX R,(Sub.cV (aI (aI (aI bm))))⟩))))
theorem Qj {F:Nat} {p0:ai} {p1:ai} {r:List Int} (h:Ct F p0 p1=some r):aO Tryz.prog 42 [ai.lv p0,ai.lv p1] (Mem.of []) (.L r) (Mem.of []):=by
  unfold Ct at h
  refine bx Tryz.func42 R (nT Tryz.ntmps42 R) (LH.wk (aQ [(0,ai.lv p0),(1,ai.lv p1)] []) (LH.aj [(2,.ag (ai.lv p0).cells),(3,.ag (ai.lv p1).cells)] [] R (sB (de R R R R (sB (de R R R R (k9 R zS))))) (LH.aj [(2,.ag (ai.lv p0).cells),(3,.ag (ai.lv p1).cells),(5,.nil)] [] R (k9 R zS) (LH.seq (LH.aj [(2,.ag (ai.lv p0).cells),(3,.ag (ai.lv p1).cells),(5,.nil),(6,.I 0)] [] R (bt R zS) (LH.block (LH.wk ((Wk.trans (aQ [(2,.ag (ai.lv p0).cells),(3,.ag (ai.lv p1).cells),(5,.nil),(6,.I 0)] []) (Wk.trans (aQ [(2,.ag (ai.lv p0).cells),(3,.ag (ai.lv p1).cells),(5,.nil),(6,.I 0)] []) (Wk.trans (Wk.tC (fB:=[(2,.ag (ai.lv p0).cells),(3,.ag (ai.lv p1).cells),(5,.arr 146 (List.length ([]:List Int))),(6,.I 0)]) 146 3 1 R R (wK (wK (wO (wK wN))))) (aQ [(2,.ag (ai.lv p0).cells),(3,.ag (ai.lv p1).cells),(5,.arr 146 (List.length ([]:List Int))),(6,.I 0)] [(146,.arr 3 1 (List.map LV.I ([]:List Int)))]))))) (LH.loop (fun n e m=>∃ (n1:Int) (l2:List Int),Bl p0 p1 n n1 l2=some r∧e=Env.of [(2,.ag (ai.lv p0).cells),(3,.ag (ai.lv p1).cells),(5,.arr 146 l2.length),(6,.I n1)]∧m=Mem.of [(146,.arr 3 1 (l2.map LV.I))]) F ⟨0,([]:List Int),h,R,R⟩ ?_))))))))
  clear h
  rintro n e m ⟨n1,l2,h,rfl,rfl⟩
  rcases n with _ | n
  · cases (show Option.none=some _ from h)
  obtain ⟨aK,a7⟩:∃ f,f=Bl p0 p1 n:=⟨_,rfl⟩
  replace h:GP p0 p1 aK n1 l2=some r:=a7 ▸ h
  unfold GP at h
  refine LH.seq (LH.aj [(2,.ag (ai.lv p0).cells),(3,.ag (ai.lv p1).cells),(5,.arr 146 l2.length),(6,.I n1),(15,.bool (decide (n1<(max (p0.aH.length:Int) (p1.aH.length:Int)))))] [(146,.arr 3 1 (l2.map LV.I))] R (br R (sN (aw c8 db fF R R R (sN (bh R db iW (sN (bV (f:=aq.lv) gy R (sN (aw c8 db fF R R R (sN (bh R db iW (sN (bV (f:=aq.lv) gy R (sX ((Ge R R).ok) (sN (fy R R zS)))))))))))))))) (LH.cond (t:=(decide (n1<(max (p0.aH.length:Int) (p1.aH.length:Int))))) R (fun ix=>?_) (fun ix=>?_)))
  ·replace h:=aB h ix
   refine LH.skip (au (LH.wk (aQ [(2,.ag (ai.lv p0).cells),(3,.ag (ai.lv p1).cells),(5,.arr 146 l2.length),(6,.I n1)] [(146,.arr 3 1 (l2.map LV.I))]) (LH.seq (LH.block ?_))))
   obtain ⟨w5,hv,h⟩:=ao h
   refine LH.cO mixed [] [0,0,0,0,0,0,0,0,0,0,0,0,0,0,0,0,0,0,0,0,0,0,0,0,0] [(2,.ag (ai.lv p0).cells),(3,.ag (ai.lv p1).cells),(5,.arr 146 l2.length),(6,.I n1),(42,.bool w5)] [(146,.arr 3 1 (l2.map LV.I))] R R (by kernel_rfl) ?_ ?_
   ·refine fC R (aD (aw c8 db fF R R R ⟨R,aD (bh R db iW ⟨R,aD (bV (f:=aq.lv) gy R ⟨R,aD (pW R R ⟨R,iQ R ?_⟩)⟩)⟩)⟩))
    by_cases cn:(decide (n1 ≥ (p0.aH.length:Int)))=true
    ·replace hv:=aB hv cn
     refine mF R R cn (mF R R cn (mF R R cn (mF R R cn (mF R R cn (aD (aZ (cB cn) (v:=(.bool _)) R ⟨R,iQ R (mF R R R (mF R R R (mF R R R (mF R R R (mF R R R (mF R R R (mF R R R (mF R R R (mF R R R (mF R R R (mF R R R (aD (aZ R (v:=(.bool _)) R ⟨R,?_⟩)))))))))))))⟩))))))
     obtain rfl:=oI hv
     exact zM
    ·replace cn:=bF cn
     replace hv:=aA hv cn
     refine mT R (cB cn) (fC R (mT R (cB cn) (aD (aw c8 db fF R R R ⟨R,mT R (cB cn) (aD (bh R db iW ⟨R,mT R (cB cn) (aD (bV (f:=aq.lv) gy R ⟨R,mT R (cB cn) (aD (pW R R ⟨R,aD (aW (cB cn) (v:=(.bool _)) R ⟨R,iQ R ?_⟩)⟩))⟩))⟩))⟩))))
     by_cases ca:(decide (n1 ≥ (p1.aH.length:Int)))=true
     ·replace hv:=aB hv ca
      refine mF R R ca (mF R R ca (mF R R ca (mF R R ca (mF R R ca (mF R R ca (mF R R ca (mF R R ca (mF R R ca (mF R R ca (mF R R ca (aD (aZ (cB ca) (v:=(.bool _)) R ⟨R,?_⟩))))))))))))
      obtain rfl:=oI hv
      exact zM
     ·replace ca:=bF ca
      replace hv:=aA hv ca
      refine mT R (cB ca) (aD (aw c8 db fF R R R ⟨R,mT R (cB ca) (aD (bh R db iW ⟨R,mT R (cB ca) (fC R ?_)⟩))⟩))
      obtain ⟨x8,uD,hv⟩:=ao hv
      refine mT R (cB ca) (aD (eM (f:=aq.lv) gy eu dN R R aq.ok uD R ⟨R,mT R (cB ca) (aD (bc R eu iY dN R R ⟨R,mT R (cB ca) (aD (aw c8 db fF R R R ⟨R,mT R (cB ca) (aD (bh R db iW ⟨R,mT R (cB ca) (fC R ?_)⟩))⟩))⟩))⟩))
      obtain ⟨x9,xn,hv⟩:=ao hv
      refine mT R (cB ca) (aD (eM (f:=aq.lv) gy eu dN R R aq.ok xn R ⟨R,mT R (cB ca) (aD (bc R eu iY dN R R ⟨R,mT R (cB ca) (aD (Io R R (Nh x8 x9) ⟨R,aD (aW (cB ca) (v:=(.bool _)) R ⟨R,?_⟩)⟩))⟩))⟩))
      obtain rfl:=oI hv
      exact zM
   clear hv
   refine LH.cond (t:=w5) R (fun ib=>?_) (fun ib=>?_)
   ·replace h:=aB h ib
    obtain ⟨v11,LA,h⟩:=ao h
    refine LH.aS [(2,.ag (ai.lv p0).cells),(3,.ag (ai.lv p1).cells),(5,.arr 146 v11.length),(6,.I n1)] [(146,.arr 3 1 (v11.map LV.I))] R (jQ R (br R (sN (ka (f:=LV.I) (ys:=[n1]) cJ rj bb R R R mu (sN (nL (f:=LV.I) cJ rj bb R R (bH R) R LA (nQ R zS))))))) (aY (au (LH.aS [(2,.ag (ai.lv p0).cells),(3,.ag (ai.lv p1).cells),(5,.arr 146 v11.length),(6,.I (i64 (n1+1)))] [(146,.arr 3 1 (v11.map LV.I))] R (br R (sN (cI R R (bt R zS)))) ?_)))
    exact bl ⟨(i64 (n1+1)),v11,a7 ▸ h,R,R⟩ (Wk.eq R R R R)
   replace h:=aA h ib
   refine LH.skip (aY (au (LH.aS [(2,.ag (ai.lv p0).cells),(3,.ag (ai.lv p1).cells),(5,.arr 146 l2.length),(6,.I (i64 (n1+1)))] [(146,.arr 3 1 (l2.map LV.I))] R (br R (sN (cI R R (bt R zS)))) ?_)))
   exact bl ⟨(i64 (n1+1)),l2,a7 ▸ h,R,R⟩ (Wk.eq R R R R)
  replace h:=aA h ix
  refine LH.exit (cD (b6 (bP (au (LH.wk ((Wk.trans (aQ [(5,.arr 146 l2.length)] [(146,.arr 3 1 (l2.map LV.I))]) (Wk.trans (Wk.lC (f:=LV.I) (fB:=[(5,.L l2)]) 146 3 1 l2 R R (bH R) (fZ fN)) (aQ [(5,.L l2)] [])))) (LH.aj [(4,.L l2)] [] R (fh R (qB R zS)) (LH.ret ?_)))))))
  obtain rfl:=oI h
  exact aN (aT Tryz.results42) (bO R (bL ⟨aM mN,R,aX R,Sub.rfl⟩))
theorem QB {F:Nat} {p0:List Int} {p1:List Int} {r:Bool} (h:vE F p0 p1=some r):aO Tryz.prog 43 [.L p0,.L p1] (Mem.of []) (.bool r) (Mem.of []):=by
  unfold vE at h
  refine bx Tryz.func43 R (nT Tryz.ntmps43 R) (LH.wk (aQ [(0,.L p0),(1,.L p1)] []) (LH.aj [(0,.L p0),(1,.L p1)] [] R (ct R zS) (LH.seq (LH.aj [(0,.L p0),(1,.L p1),(10,.bool ((p0.length:Int) != (p1.length:Int)))] [] R (fh R (sN (bV (f:=LV.I) cJ R (fh R (sN (bV (f:=LV.I) cJ R (sN (iR R R zS)))))))) (LH.cond (t:=((p0.length:Int) != (p1.length:Int))) R (fun jc=>?_) (fun jc=>?_))))))
  ·replace h:=aB h jc
   refine LH.aj [(4,.bool false)] [] R (ct R zS) (LH.ret (aU ?_))
   obtain rfl:=oI h
   exact aN (aT Tryz.results43) (bO R (bL ⟨aM mN,R,aX R,Sub.rfl⟩))
  replace h:=aA h jc
  refine LH.skip (au (LH.wk (aQ [(0,.L p0),(1,.L p1)] []) (LH.seq (LH.aj [(0,.L p0),(1,.L p1),(5,.I 0)] [] R (bt R zS) (LH.block (LH.loop (fun n e m=>∃ (n2:Int),vu p0 p1 n n2=some r∧e=Env.of [(0,.L p0),(1,.L p1),(5,.I n2)]∧m=Mem.of []) F ⟨0,h,R,R⟩ ?_))))))
  clear h
  rintro n e m ⟨n2,h,rfl,rfl⟩
  rcases n with _ | n
  · cases (show Option.none=some _ from h)
  obtain ⟨aK,a7⟩:∃ f,f=vu p0 p1 n:=⟨_,rfl⟩
  replace h:Cp p0 p1 aK n2=some r:=a7 ▸ h
  unfold Cp at h
  refine LH.seq (LH.aj [(0,.L p0),(1,.L p1),(5,.I n2),(14,.bool (decide (n2<(p0.length:Int))))] [] R (br R (fh R (sN (bV (f:=LV.I) cJ R (sN (fy R R zS)))))) (LH.cond (t:=(decide (n2<(p0.length:Int)))) R (fun ix=>?_) (fun ix=>?_)))
  ·replace h:=aB h ix
   refine LH.skip (au (LH.wk (aQ [(0,.L p0),(1,.L p1),(5,.I n2)] []) (LH.seq (LH.block ?_))))
   obtain ⟨x4,AW,h⟩:=ao h
   obtain ⟨x5,mG,h⟩:=ao h
   refine LH.cO mixed [] [0,0,0,0,0,0,0,0,0] [(0,.L p0),(1,.L p1),(5,.I n2),(25,.bool (x4 != x5))] [] R R (by kernel_rfl) (rV R (fC R (aD (eM (f:=LV.I) cJ aE bb R R mu AW R ⟨R,aD (bh R aE bN ⟨R,rV R (fC R (aD (eM (f:=LV.I) cJ aE bb R R mu mG R ⟨R,aD (bh R aE bN ⟨R,aD (iR R R ⟨R,zM⟩)⟩)⟩)))⟩)⟩)))) (LH.cond (t:=(x4 != x5)) R (fun fQ=>?_) (fun fQ=>?_))
   ·replace h:=aB h fQ
    refine LH.aj [(4,.bool false)] [] R (ct R zS) (LH.ret (bD (aU (dW (bD (aU ?_))))))
    obtain rfl:=oI h
    exact aN (aT Tryz.results43) (bO R (bL ⟨aM mN,R,aX R,Sub.rfl⟩))
   replace h:=aA h fQ
   refine LH.skip (aY (au (LH.aS [(0,.L p0),(1,.L p1),(5,.I (i64 (n2+1)))] [] R (br R (sN (cI R R (bt R zS)))) ?_)))
   exact bl ⟨(i64 (n2+1)),a7 ▸ h,R,R⟩ (Wk.eq R R R R)
  replace h:=aA h ix
  refine LH.exit (cD (b6 (bP (au (LH.aj [(4,.bool true)] [] R (ct R zS) (LH.ret ?_))))))
  obtain rfl:=oI h
  exact aN (aT Tryz.results43) (bO R (bL ⟨aM mN,R,aX R,Sub.rfl⟩))
theorem Ka {F:Nat} {p0:ai} {p1:ai} {r:Bool} (h:vF F p0 p1=some r):aO Tryz.prog 24 [ai.lv p0,ai.lv p1] (Mem.of []) (.bool r) (Mem.of []):=by
  unfold vF at h
  refine bx Tryz.func24 R (nT Tryz.ntmps24 R) (LH.wk (aQ [(0,ai.lv p0),(1,ai.lv p1)] []) (LH.aj [(2,.ag (ai.lv p0).cells),(3,.ag (ai.lv p1).cells)] [] R (sB (de R R R R (sB (de R R R R (ct R zS))))) ?_))
  obtain ⟨w2,hv,h⟩:=ao h
  refine LH.aj [(4,.bool w2)] [] R ?_ ?_
  ·refine sN (aw fb aE bb R R R (sN (bh R aE bN (sN (aw fb aE bb R R R (sN (bh R aE bN (sN (gr R R (bM R ?_))))))))))
   by_cases bS:(p0.ID == p1.ID)=true
   ·replace hv:=aB hv bS
    refine sT R (cB bS) (aw fP aE bb R R R (sT R (cB bS) (bh R aE bN (sT R (cB bS) (aw fP aE bb R R R (sT R (cB bS) (bh R aE bN (sT R (cB bS) (gr R R (sN (aZ (cB bS) (v:=(.bool _)) R (bM R ?_))))))))))))
    by_cases bG:(p0.Version == p1.Version)=true
    ·replace hv:=aB hv bG
     refine sT R (cB bG) (aw gY po xr R R R (sT R (cB bG) (bh R po D3 (sT R (cB bG) (aw gY po xr R R R (sT R (cB bG) (bh R po D3 (Mx R (cB bG) ((wE R R).ok) (sN (aZ (cB bG) (v:=(.bool _)) R (bM R ?_)))))))))))
     by_cases bI:(decide (p0.bJ=p1.bJ))=true
     ·replace hv:=aB hv bI
      refine sT R (cB bI) (aw c8 db fF R R R (sT R (cB bI) (bh R db iW (sT R (cB bI) (bV (f:=aq.lv) gy R (sT R (cB bI) (aw c8 db fF R R R (sT R (cB bI) (bh R db iW (sT R (cB bI) (bV (f:=aq.lv) gy R (sT R (cB bI) (gr R R (sN (aZ (cB bI) (v:=(.bool _)) R (bM R ?_))))))))))))))))
      by_cases cn:((p0.aH.length:Int) == (p1.aH.length:Int))=true
      ·replace hv:=aB hv cn
       refine sT R (cB cn) (bc R cv eZ cd R R (sT R (cB cn) (bc R cv eZ cd R R ?_)))
       obtain ⟨r7,AR,hv⟩:=ao hv
       refine sT R (cB cn) (ej (args:=[ai.lv p0,ai.lv p1]) R O4 R (aI (aI bm)) (Qj AR) R (sT R (cB cn) (bV (f:=LV.I) cJ R (sT R (cB cn) (gr R R (sN (aZ (cB cn) (v:=(.bool _)) R (bM R ?_))))))))
       by_cases dy:((r7.length:Int) == 0)=true
       ·replace hv:=aB hv dy
        refine sT R (cB dy) (aw fx eT jz R R R (sT R (cB dy) (bh R eT mI (sT R (cB dy) (aw fx eT jz R R R (sT R (cB dy) (bh R eT mI ?_)))))))
        obtain ⟨r9,Fx,hv⟩:=ao hv
        refine sT R (cB dy) (ej (args:=[.L p0.aF,.L p1.aF]) R O5 R (aI (aI bm)) (QB Fx) R (sN (aZ (cB dy) (v:=(.bool _)) R (ct R ?_))))
        obtain rfl:=oI hv
        exact zS
       ·replace dy:=bF dy
        replace hv:=aA hv dy
        refine sF R R dy (sF R R dy (sF R R dy (sF R R dy (sF R R dy (sN (aW (cB dy) (v:=(.bool _)) R (ct R ?_)))))))
        obtain rfl:=oI hv
        exact zS
      ·replace cn:=bF cn
       replace hv:=aA hv cn
       refine sF R R cn (sF R R cn (sF R R cn (sF R R cn (sF R R cn (sN (aW (cB cn) (v:=(.bool _)) R (bM R (sF R R R (sF R R R (sF R R R (sF R R R (sF R R R (sN (aW R (v:=(.bool _)) R (ct R ?_)))))))))))))))
       obtain rfl:=oI hv
       exact zS
     ·replace bI:=bF bI
      replace hv:=aA hv bI
      refine sF R R bI (sF R R bI (sF R R bI (sF R R bI (sF R R bI (sF R R bI (sF R R bI (sN (aW (cB bI) (v:=(.bool _)) R (bM R (sF R R R (sF R R R (sF R R R (sF R R R (sF R R R (sN (aW R (v:=(.bool _)) R (bM R (sF R R R (sF R R R (sF R R R (sF R R R (sF R R R (sN (aW R (v:=(.bool _)) R (ct R ?_)))))))))))))))))))))))))
      obtain rfl:=oI hv
      exact zS
    ·replace bG:=bF bG
     replace hv:=aA hv bG
     refine sF R R bG (sF R R bG (sF R R bG (sF R R bG (sF R R bG (sN (aW (cB bG) (v:=(.bool _)) R (bM R (sF R R R (sF R R R (sF R R R (sF R R R (sF R R R (sF R R R (sF R R R (sN (aW R (v:=(.bool _)) R (bM R (sF R R R (sF R R R (sF R R R (sF R R R (sF R R R (sN (aW R (v:=(.bool _)) R (bM R (sF R R R (sF R R R (sF R R R (sF R R R (sF R R R (sN (aW R (v:=(.bool _)) R (ct R ?_)))))))))))))))))))))))))))))))))
     obtain rfl:=oI hv
     exact zS
   ·replace bS:=bF bS
    replace hv:=aA hv bS
    refine sF R R bS (sF R R bS (sF R R bS (sF R R bS (sF R R bS (sN (aW (cB bS) (v:=(.bool _)) R (bM R (sF R R R (sF R R R (sF R R R (sF R R R (sF R R R (sN (aW R (v:=(.bool _)) R (bM R (sF R R R (sF R R R (sF R R R (sF R R R (sF R R R (sF R R R (sF R R R (sN (aW R (v:=(.bool _)) R (bM R (sF R R R (sF R R R (sF R R R (sF R R R (sF R R R (sN (aW R (v:=(.bool _)) R (bM R (sF R R R (sF R R R (sF R R R (sF R R R (sF R R R (sN (aW R (v:=(.bool _)) R (ct R ?_)))))))))))))))))))))))))))))))))))))))))
    obtain rfl:=oI hv
    exact zS
  clear hv
  refine LH.ret ?_
  obtain rfl:=oI h
  exact aN (aT Tryz.results24) (bO R (bL ⟨aM mN,R,aX R,Sub.rfl⟩))
theorem QC {F:Nat} {p0:ax} {p1:ax} {r:Bool} (h:y4 F p0 p1=some r):aO Tryz.prog 62 [ax.lv p0,ax.lv p1] (Mem.of []) (.bool r) (Mem.of []):=by
  unfold y4 at h
  refine bx Tryz.func62 R (nT Tryz.ntmps62 R) (LH.wk (aQ [(0,ax.lv p0),(1,ax.lv p1)] []) (LH.aj [(2,.ag (ax.lv p0).cells),(3,.ag (ax.lv p1).cells)] [] R (sB (de R R R R (sB (de R R R R (ct R zS))))) ?_))
  obtain ⟨w2,hv,h⟩:=ao h
  refine LH.aj [(4,.bool w2)] [] R ?_ ?_
  ·refine sN (aw di cc b7 R R R (sN (bc R cc gp b7 R R (sN (aw di cc b7 R R R (sN (bc R cc gp b7 R R (sN (Dr R R (EG p0.ar p1.ar) (bM R ?_))))))))))
   by_cases bS:(decide (p0.ar=p1.ar))=true
   ·replace hv:=aB hv bS
    refine sT R (cB bS) (aw dM aE bb R R R (sT R (cB bS) (bh R aE bN (sT R (cB bS) (aw dM aE bb R R R (sT R (cB bS) (bh R aE bN (sT R (cB bS) (gr R R (sN (aZ (cB bS) (v:=(.bool _)) R (bM R ?_))))))))))))
    by_cases bG:(p0.Kind == p1.Kind)=true
    ·replace hv:=aB hv bG
     refine sT R (cB bG) (aw e5 gM gA R R R (sT R (cB bG) (bc R gM wZ gA R R (sT R (cB bG) (aw e5 gM gA R R R (sT R (cB bG) (bc R gM wZ gA R R (sT R (cB bG) (Dr R R (Ks p0.Ref p1.Ref) (sN (aZ (cB bG) (v:=(.bool _)) R (bM R ?_))))))))))))
     by_cases bI:(decide (p0.Ref=p1.Ref))=true
     ·replace hv:=aB hv bI
      refine sT R (cB bI) (aw lg aE bb R R R (sT R (cB bI) (bh R aE bN (sT R (cB bI) (aw lg aE bb R R R (sT R (cB bI) (bh R aE bN (sT R (cB bI) (gr R R (sN (aZ (cB bI) (v:=(.bool _)) R (bM R ?_))))))))))))
      by_cases cn:(p0.Form == p1.Form)=true
      ·replace hv:=aB hv cn
       refine sT R (cB cn) (aw fe cv cd R R R (sT R (cB cn) (bc R cv eZ cd R R (sT R (cB cn) (aw fe cv cd R R R (sT R (cB cn) (bc R cv eZ cd R R ?_)))))))
       obtain ⟨r7,AR,hv⟩:=ao hv
       refine sT R (cB cn) (ej (args:=[ai.lv p0.Item,ai.lv p1.Item]) R Js R (aI (aI bm)) (Ka AR) R (sN (aZ (cB cn) (v:=(.bool _)) R (ct R ?_))))
       obtain rfl:=oI hv
       exact zS
      ·replace cn:=bF cn
       replace hv:=aA hv cn
       refine sF R R cn (sF R R cn (sF R R cn (sF R R cn (sF R R cn (sN (aW (cB cn) (v:=(.bool _)) R (ct R ?_)))))))
       obtain rfl:=oI hv
       exact zS
     ·replace bI:=bF bI
      replace hv:=aA hv bI
      refine sF R R bI (sF R R bI (sF R R bI (sF R R bI (sF R R bI (sN (aW (cB bI) (v:=(.bool _)) R (bM R (sF R R R (sF R R R (sF R R R (sF R R R (sF R R R (sN (aW R (v:=(.bool _)) R (ct R ?_)))))))))))))))
      obtain rfl:=oI hv
      exact zS
    ·replace bG:=bF bG
     replace hv:=aA hv bG
     refine sF R R bG (sF R R bG (sF R R bG (sF R R bG (sF R R bG (sN (aW (cB bG) (v:=(.bool _)) R (bM R (sF R R R (sF R R R (sF R R R (sF R R R (sF R R R (sN (aW R (v:=(.bool _)) R (bM R (sF R R R (sF R R R (sF R R R (sF R R R (sF R R R (sN (aW R (v:=(.bool _)) R (ct R ?_)))))))))))))))))))))))
     obtain rfl:=oI hv
     exact zS
   ·replace bS:=bF bS
    replace hv:=aA hv bS
    refine sF R R bS (sF R R bS (sF R R bS (sF R R bS (sF R R bS (sN (aW (cB bS) (v:=(.bool _)) R (bM R (sF R R R (sF R R R (sF R R R (sF R R R (sF R R R (sN (aW R (v:=(.bool _)) R (bM R (sF R R R (sF R R R (sF R R R (sF R R R (sF R R R (sN (aW R (v:=(.bool _)) R (bM R (sF R R R (sF R R R (sF R R R (sF R R R (sF R R R (sN (aW R (v:=(.bool _)) R (ct R ?_)))))))))))))))))))))))))))))))
    obtain rfl:=oI hv
    exact zS
  clear hv
  refine LH.ret ?_
  obtain rfl:=oI h
  exact aN (aT Tryz.results62) (bO R (bL ⟨aM mN,R,aX R,Sub.rfl⟩))
theorem J5 {p0:aL} {r:Bool} (h:yW p0=some r):aO Tryz.prog 100 [.agg [.I p0.Time,.I p0.Source,.I p0.Seq]] (Mem.of []) (.bool r) (Mem.of []):=by
  unfold yW at h
  refine bx Tryz.func100 R (nT Tryz.ntmps100 R) (LH.wk (aQ [(0,.agg [.I p0.Time,.I p0.Source,.I p0.Seq])] []) (LH.aj [(1,.ag [.I p0.Time,.I p0.Source,.I p0.Seq])] [] R (sB (de R R R R (ct R zS))) (LH.aj [(2,.bool ((decide (p0.Time ≥ 0)) && ((decide (p0.Time≤1000000)) && ((decide (p0.Source ≥ 0)) && ((decide (p0.Source≤99)) && ((decide (p0.Seq ≥ 0)) && (decide (p0.Seq≤9999))))))))] [] R ?_ ?_)))
  ·refine sN (aw fc aE bb R R R (sN (bh R aE bN (sN (pW R R (bM R ?_))))))
   by_cases cE:(decide (p0.Time ≥ 0))=true
   ·refine sT R (cB cE) (aw fc aE bb R R R (sT R (cB cE) (bh R aE bN (sT R (cB cE) (Im R R (sN (aZ (cB cE) (v:=(.bool _)) R (bM R ?_))))))))
    by_cases bS:(decide (p0.Time≤1000000))=true
    ·refine sT R (cB bS) (aw ez aE bb R R R (sT R (cB bS) (bh R aE bN (sT R (cB bS) (pW R R (sN (aZ (cB bS) (v:=(.bool _)) R (bM R ?_))))))))
     by_cases bG:(decide (p0.Source ≥ 0))=true
     ·refine sT R (cB bG) (aw ez aE bb R R R (sT R (cB bG) (bh R aE bN (sT R (cB bG) (Im R R (sN (aZ (cB bG) (v:=(.bool _)) R (bM R ?_))))))))
      by_cases bI:(decide (p0.Source≤99))=true
      ·refine sT R (cB bI) (aw dL aE bb R R R (sT R (cB bI) (bh R aE bN (sT R (cB bI) (pW R R (sN (aZ (cB bI) (v:=(.bool _)) R (bM R ?_))))))))
       by_cases cn:(decide (p0.Seq ≥ 0))=true
       ·exact sT R (cB cn) (aw dL aE bb R R R (sT R (cB cn) (bh R aE bN (sT R (cB cn) (Im R R (sN (aZ (cB cn) (v:=(.bool _)) R (ct R (s0 (Wk.to (eC (cB (Eq.trans (Eq.trans (Eq.trans (Eq.trans (dP cn) (dP bI)) (dP bG)) (dP bS)) (dP cE))) eN) mN R (aX R)))))))))))
       ·replace cn:=bF cn
        exact sF R R cn (sF R R cn (sF R R cn (sN (aW (cB cn) (v:=(.bool _)) R (ct R (s0 (Wk.to (eC (cB (Eq.trans (Eq.trans (Eq.trans (Eq.trans (kB cn) (dP bI)) (dP bG)) (dP bS)) (dP cE))) eN) mN R (aX R))))))))
      ·replace bI:=bF bI
       exact sF R R bI (sF R R bI (sF R R bI (sN (aW (cB bI) (v:=(.bool _)) R (bM R (sF R R R (sF R R R (sF R R R (sN (aW R (v:=(.bool _)) R (ct R (s0 (Wk.to (eC (cB (Eq.trans (Eq.trans (Eq.trans (kB bI) (dP bG)) (dP bS)) (dP cE))) eN) mN R (aX R))))))))))))))
     ·replace bG:=bF bG
      exact sF R R bG (sF R R bG (sF R R bG (sN (aW (cB bG) (v:=(.bool _)) R (bM R (sF R R R (sF R R R (sF R R R (sN (aW R (v:=(.bool _)) R (bM R (sF R R R (sF R R R (sF R R R (sN (aW R (v:=(.bool _)) R (ct R (s0 (Wk.to (eC (cB (Eq.trans (Eq.trans (kB bG) (dP bS)) (dP cE))) eN) mN R (aX R))))))))))))))))))))
    ·replace bS:=bF bS
     exact sF R R bS (sF R R bS (sF R R bS (sN (aW (cB bS) (v:=(.bool _)) R (bM R (sF R R R (sF R R R (sF R R R (sN (aW R (v:=(.bool _)) R (bM R (sF R R R (sF R R R (sF R R R (sN (aW R (v:=(.bool _)) R (bM R (sF R R R (sF R R R (sF R R R (sN (aW R (v:=(.bool _)) R (ct R (s0 (Wk.to (eC (cB (Eq.trans (kB bS) (dP cE))) eN) mN R (aX R))))))))))))))))))))))))))
   ·replace cE:=bF cE
    exact sF R R cE (sF R R cE (sF R R cE (sN (aW (cB cE) (v:=(.bool _)) R (bM R (sF R R R (sF R R R (sF R R R (sN (aW R (v:=(.bool _)) R (bM R (sF R R R (sF R R R (sF R R R (sN (aW R (v:=(.bool _)) R (bM R (sF R R R (sF R R R (sF R R R (sN (aW R (v:=(.bool _)) R (bM R (sF R R R (sF R R R (sF R R R (sN (aW R (v:=(.bool _)) R (ct R (s0 (Wk.to (eC (cB (kB cE)) eN) mN R (aX R))))))))))))))))))))))))))))))))
  refine LH.ret ?_
  obtain rfl:=oI h
  exact aN (aT Tryz.results100) (bO R (bL ⟨aM mN,R,aX R,Sub.rfl⟩))
theorem Qi {p0:aL} {p1:aL} {p2:Int} {p3:Int} {r:Bool} (h:Cr p0 p1 p2 p3=some r):aO Tryz.prog 101 [.agg [.I p0.Time,.I p0.Source,.I p0.Seq],.agg [.I p1.Time,.I p1.Source,.I p1.Seq],.I p2,.I p3] (Mem.of []) (.bool r) (Mem.of []):=by
  unfold Cr at h
  refine bx Tryz.func101 R (nT Tryz.ntmps101 R) (LH.wk (aQ [(0,.agg [.I p0.Time,.I p0.Source,.I p0.Seq]),(1,.agg [.I p1.Time,.I p1.Source,.I p1.Seq]),(2,.I p2),(3,.I p3)] []) (LH.aj [(2,.I p2),(3,.I p3),(4,.ag [.I p0.Time,.I p0.Source,.I p0.Seq]),(5,.ag [.I p1.Time,.I p1.Source,.I p1.Seq])] [] R (sB (de R R R R (sB (de R R R R (ct R zS))))) (LH.aj [(8,.bool ((p0.Source == p1.Source) && ((p0.Seq == p1.Seq) && ((p0.Time != p1.Time) || (p2 != p3)))))] [] R ?_ ?_)))
  ·refine sN (aw ez aE bb R R R (sN (bh R aE bN (sN (aw ez aE bb R R R (sN (bh R aE bN (sN (gr R R (bM R ?_))))))))))
   by_cases cE:(p0.Source == p1.Source)=true
   ·refine sT R (cB cE) (aw dL aE bb R R R (sT R (cB cE) (bh R aE bN (sT R (cB cE) (aw dL aE bb R R R (sT R (cB cE) (bh R aE bN (sT R (cB cE) (gr R R (sN (aZ (cB cE) (v:=(.bool _)) R (bM R ?_))))))))))))
    by_cases bS:(p0.Seq == p1.Seq)=true
    ·refine sT R (cB bS) (aw fc aE bb R R R (sT R (cB bS) (bh R aE bN (sT R (cB bS) (aw fc aE bb R R R (sT R (cB bS) (bh R aE bN (sT R (cB bS) (iR R R (sT R (cB bS) (oM (v:=(.bool _)) R ?_)))))))))))
     by_cases bG:(p0.Time != p1.Time)=true
     ·exact sF R R bG (sF R R bG (sF R R bG (sT R (cB bS) (aZ (cB bG) (v:=(.bool _)) R (sN (aZ (cB bS) (v:=(.bool _)) R (ct R (s0 (Wk.to (eC (cB (Eq.trans (Eq.trans (pn bG) (dP bS)) (dP cE))) eN) mN R (aX R))))))))))
     ·replace bG:=bF bG
      exact sT R (cB bG) (oM (v:=(.int _ _)) R (sT R (cB bG) (oM (v:=(.int _ _)) R (sT R (cB bG) (iR R R (sT R (cB bS) (aW (cB bG) (v:=(.bool _)) R (sN (aZ (cB bS) (v:=(.bool _)) R (ct R (s0 (Wk.to (eC (cB (Eq.trans (Eq.trans (gQ bG) (dP bS)) (dP cE))) eN) mN R (aX R)))))))))))))
    ·replace bS:=bF bS
     exact sF R R bS (sF R R bS (sF R R bS (sF R R bS (sF R R bS (sF R R bS (sU R R (sU R R (sU R R (sF R R bS (sN (aW (cB bS) (v:=(.bool _)) R (ct R (s0 (Wk.to (eC (cB (Eq.trans (kB bS) (dP cE))) eN) mN R (aX R)))))))))))))))
   ·replace cE:=bF cE
    exact sF R R cE (sF R R cE (sF R R cE (sF R R cE (sF R R cE (sN (aW (cB cE) (v:=(.bool _)) R (bM R (sF R R R (sF R R R (sF R R R (sF R R R (sF R R R (sF R R R (sU R R (sU R R (sU R R (sF R R R (sN (aW R (v:=(.bool _)) R (ct R (s0 (Wk.to (eC (cB (kB cE)) eN) mN R (aX R)))))))))))))))))))))))
  refine LH.ret ?_
  obtain rfl:=oI h
  exact aN (aT Tryz.results101) (bO R (bL ⟨aM mN,R,aX R,Sub.rfl⟩))
theorem Qr {F:Nat} {p0:List aL} {p1:List Int} {p2:Int} {r:Bool} (h:yU F p0 p1 p2=some r):aO Tryz.prog 82 [.al 3 (p0.map aL.lv),.L p1,.I p2] (Mem.of []) (.bool r) (Mem.of []):=by
  unfold yU at h
  refine bx Tryz.func82 R (nT Tryz.ntmps82 R) (LH.wk (aQ [(0,.al 3 (p0.map aL.lv)),(1,.L p1),(2,.I p2)] []) (LH.aj [(0,.al 3 (p0.map aL.lv)),(1,.L p1),(2,.I p2)] [] R (ct R zS) (LH.seq ?_)))
  obtain ⟨x1,M0,h⟩:=ao h
  obtain ⟨r2,fH,h⟩:=ao h
  refine LH.aj [(0,.al 3 (p0.map aL.lv)),(1,.L p1),(2,.I p2),(13,.bool (!r2))] [] R (fh R (br R (sN (eM (f:=aL.lv) e6 cc b7 R R aL.ok M0 R (sN (bc R cc gp b7 R R (sN (ej (args:=[.agg [.I x1.Time,.I x1.Source,.I x1.Seq]]) R FN R (aI bm) (J5 fH) R (sN (ic R zS)))))))))) (LH.cond (t:=(!r2)) R (fun ix=>?_) (fun ix=>?_))
  ·replace h:=aB h ix
   refine LH.aj [(6,.bool false)] [] R (ct R zS) (LH.ret (aU ?_))
   obtain rfl:=oI h
   exact aN (aT Tryz.results82) (bO R (bL ⟨aM mN,R,aX R,Sub.rfl⟩))
  replace h:=aA h ix
  refine LH.skip (au (LH.wk (aQ [(0,.al 3 (p0.map aL.lv)),(1,.L p1),(2,.I p2)] []) (LH.seq (LH.aj [(0,.al 3 (p0.map aL.lv)),(1,.L p1),(2,.I p2),(7,.I 0)] [] R (bt R zS) (LH.block (LH.loop (fun n e m=>∃ (n4:Int),DN p0 p1 p2 n n4=some r∧e=Env.of [(0,.al 3 (p0.map aL.lv)),(1,.L p1),(2,.I p2),(7,.I n4)]∧m=Mem.of []) F ⟨0,h,R,R⟩ ?_))))))
  clear h
  rintro n e m ⟨n4,h,rfl,rfl⟩
  rcases n with _ | n
  · cases (show Option.none=some _ from h)
  obtain ⟨aK,a7⟩:∃ f,f=DN p0 p1 p2 n:=⟨_,rfl⟩
  replace h:DJ p0 p1 p2 aK n4=some r:=a7 ▸ h
  unfold DJ at h
  refine LH.seq (LH.aj [(0,.al 3 (p0.map aL.lv)),(1,.L p1),(2,.I p2),(7,.I n4),(17,.bool (decide (n4<(p0.length:Int))))] [] R (br R (fh R (sN (bV (f:=aL.lv) e6 R (sN (fy R R zS)))))) (LH.cond (t:=(decide (n4<(p0.length:Int)))) R (fun kM=>?_) (fun kM=>?_)))
  ·replace h:=aB h kM
   refine LH.skip (au (LH.wk (aQ [(0,.al 3 (p0.map aL.lv)),(1,.L p1),(2,.I p2),(7,.I n4)] []) (LH.seq (LH.block ?_))))
   obtain ⟨w7,hv,h⟩:=ao h
   refine LH.cO mixed [] [0,0,0,0,0,0,0,0,0,0,0,0,0,0,0,0,0,0,0,0,0,0,0,0,0,0,0,0,0,0,0,0,0,0,0,0,0,0,0,0] [(0,.al 3 (p0.map aL.lv)),(1,.L p1),(2,.I p2),(7,.I n4),(59,.bool w7)] [] R R (by kernel_rfl) ?_ ?_
   ·refine rV R (fC R ?_)
    obtain ⟨x8,uD,hv⟩:=ao hv
    refine aD (eM (f:=aL.lv) e6 cc b7 R R aL.ok uD R ⟨R,aD (bc R cc gp b7 R R ⟨R,?_⟩)⟩)
    obtain ⟨r9,Fx,hv⟩:=ao hv
    refine aD (ej (args:=[.agg [.I x8.Time,.I x8.Source,.I x8.Seq]]) R FN R (aI bm) (J5 Fx) R ⟨R,iQ R ?_⟩)
    by_cases bC:r9=true
    ·replace hv:=aB hv bC
     refine mT R (cB bC) (rV R (mT R (cB bC) (fC R ?_)))
     obtain ⟨bg,xZ,hv⟩:=ao hv
     refine mT R (cB bC) (aD (eM (f:=aL.lv) e6 cc b7 R R aL.ok xZ R ⟨R,mT R (cB bC) (aD (bc R cc gp b7 R R ⟨R,mT R (cB bC) (rV R (mT R (cB bC) (fC R ?_)))⟩))⟩))
     obtain ⟨gG,pS,hv⟩:=ao hv
     refine mT R (cB bC) (aD (eM (f:=aL.lv) e6 cc b7 R R aL.ok pS R ⟨R,mT R (cB bC) (aD (bc R cc gp b7 R R ⟨R,mT R (cB bC) (rV R (mT R (cB bC) (fC R ?_)))⟩))⟩))
     obtain ⟨fg,ob,hv⟩:=ao hv
     refine mT R (cB bC) (aD (eM (f:=LV.I) cJ aE bb R R mu ob R ⟨R,mT R (cB bC) (aD (bh R aE bN ⟨R,mT R (cB bC) (rV R (mT R (cB bC) (fC R ?_)))⟩))⟩))
     obtain ⟨og,FM,hv⟩:=ao hv
     refine mT R (cB bC) (aD (eM (f:=LV.I) cJ aE bb R R mu FM R ⟨R,mT R (cB bC) (aD (bh R aE bN ⟨R,?_⟩))⟩))
     obtain ⟨fD,td,hv⟩:=ao hv
     refine mT R (cB bC) (aD (ej (args:=[.agg [.I bg.Time,.I bg.Source,.I bg.Seq],.agg [.I gG.Time,.I gG.Source,.I gG.Seq],.I fg,.I og]) R L1 R (aI (aI (aI (aI bm)))) (Qi td) R ⟨R,mT R (cB bC) (iQ R ?_)⟩))
     by_cases gf:fD=true
     ·replace hv:=aB hv gf
      refine mF R R gf (mF R R gf (mF R R gf (mF R R gf (mU R R (mU R R (mU R R (mU R R (mU R R (mU R R (mU R R (mU R R (mU R R (mF R R gf (mT R (cB bC) (aD (aZ (cB gf) (v:=(.bool _)) R ⟨R,aD (aZ (cB bC) (v:=(.bool _)) R ⟨R,?_⟩)⟩))))))))))))))))
      obtain rfl:=oI hv
      exact zM
     ·replace gf:=bF gf
      replace hv:=aA hv gf
      refine mT R (cB gf) (fC R (mT R (cB gf) (fC R (mT R (cB gf) (aD (fy R R ⟨R,mT R (cB gf) (iQ R ?_)⟩))))))
      by_cases jU:(decide (n4<p2))=true
      ·replace hv:=aB hv jU
       refine mT R (cB jU) (rV R (mT R (cB jU) (fC R ?_)))
       obtain ⟨IX,LK,hv⟩:=ao hv
       refine mT R (cB jU) (aD (eM (f:=aL.lv) e6 cc b7 R R aL.ok LK R ⟨R,mT R (cB jU) (aD (bc R cc gp b7 R R ⟨R,mT R (cB jU) (rV R (mT R (cB jU) (fC R ?_)))⟩))⟩))
       obtain ⟨HE,LL,hv⟩:=ao hv
       refine mT R (cB jU) (aD (eM (f:=aL.lv) e6 cc b7 R R aL.ok LL R ⟨R,mT R (cB jU) (aD (bc R cc gp b7 R R ⟨R,mT R (cB jU) (aD (Dr R R (EG IX HE) ⟨R,mT R (cB gf) (aD (aZ (cB jU) (v:=(.bool _)) R ⟨R,mT R (cB bC) (aD (aW (cB gf) (v:=(.bool _)) R ⟨R,aD (aZ (cB bC) (v:=(.bool _)) R ⟨R,?_⟩)⟩))⟩))⟩))⟩))⟩))
       obtain rfl:=oI hv
       exact zM
      ·replace jU:=bF jU
       replace hv:=aA hv jU
       refine mF R R jU (mF R R jU (mF R R jU (mF R R jU (mF R R jU (mF R R jU (mF R R jU (mF R R jU (mF R R jU (mT R (cB gf) (aD (aW (cB jU) (v:=(.bool _)) R ⟨R,mT R (cB bC) (aD (aW (cB gf) (v:=(.bool _)) R ⟨R,aD (aZ (cB bC) (v:=(.bool _)) R ⟨R,?_⟩)⟩))⟩)))))))))))
       obtain rfl:=oI hv
       exact zM
    ·replace bC:=bF bC
     replace hv:=aA hv bC
     refine mF R R bC (mF R R bC (mF R R bC (mF R R bC (mF R R bC (mF R R bC (mF R R bC (mF R R bC (mF R R bC (mF R R bC (mF R R bC (mF R R bC (mF R R bC (mF R R bC (mF R R bC (mF R R bC (mF R R bC (mF R R bC (mU R R (mU R R (mU R R (mU R R (mU R R (mU R R (mU R R (mU R R (mU R R (mU R R (mU R R (mU R R (mU R R (mU R R (mF R R bC (aD (aW (cB bC) (v:=(.bool _)) R ⟨R,?_⟩))))))))))))))))))))))))))))))))))
     obtain rfl:=oI hv
     exact zM
   clear hv
   refine LH.cond (t:=w7) R (fun kE=>?_) (fun kE=>?_)
   ·replace h:=aB h kE
    refine LH.aj [(6,.bool false)] [] R (ct R zS) (LH.ret (bD (aU (dW (bD (aU ?_))))))
    obtain rfl:=oI h
    exact aN (aT Tryz.results82) (bO R (bL ⟨aM mN,R,aX R,Sub.rfl⟩))
   replace h:=aA h kE
   refine LH.skip (aY (au (LH.aS [(0,.al 3 (p0.map aL.lv)),(1,.L p1),(2,.I p2),(7,.I (i64 (n4+1)))] [] R (br R (sN (cI R R (bt R zS)))) ?_)))
   exact bl ⟨(i64 (n4+1)),a7 ▸ h,R,R⟩ (Wk.eq R R R R)
  replace h:=aA h kM
  refine LH.exit (cD (b6 (bP (au (LH.aj [(6,.bool true)] [] R (ct R zS) (LH.ret ?_))))))
  obtain rfl:=oI h
  exact aN (aT Tryz.results82) (bO R (bL ⟨aM mN,R,aX R,Sub.rfl⟩))
theorem Cs {p0:Int} {p1:Int} {r:Int} (h:zf p0 p1=some r):aO Tryz.prog 102 [.I p0,.I p1] (Mem.of []) (.I r) (Mem.of []):=by
  unfold zf at h
  refine bx Tryz.func102 R (nT Tryz.ntmps102 R) (LH.wk (aQ [(0,.I p0),(1,.I p1)] []) (LH.aj [(0,.I p0),(1,.I p1)] [] R (bt R zS) (LH.seq (LH.aj [(0,.I p0),(1,.I p1),(7,.bool (decide (p0<p1)))] [] R (br R (br R (sN (fy R R zS)))) (LH.cond (t:=(decide (p0<p1))) R (fun jc=>?_) (fun jc=>?_))))))
  ·replace h:=aB h jc
   refine LH.aj [(4,.I (-1))] [] R (bt R zS) (LH.ret (aU ?_))
   obtain rfl:=oI h
   exact aN (aT Tryz.results102) (bO R (bL ⟨aM mN,R,aX R,Sub.rfl⟩))
  replace h:=aA h jc
  refine LH.skip (au (LH.wk (aQ [(0,.I p0),(1,.I p1)] []) (LH.seq (LH.aj [(10,.bool (decide (p0 > p1)))] [] R (br R (br R (sN (jx R R zS)))) (LH.cond (t:=(decide (p0 > p1))) R (fun fG=>?_) (fun fG=>?_))))))
  ·replace h:=aB h fG
   refine LH.aj [(4,.I 1)] [] R (bt R zS) (LH.ret (aU ?_))
   obtain rfl:=oI h
   exact aN (aT Tryz.results102) (bO R (bL ⟨aM mN,R,aX R,Sub.rfl⟩))
  replace h:=aA h fG
  refine LH.skip (au (LH.aj [(4,.I 0)] [] R (bt R zS) (LH.ret ?_)))
  obtain rfl:=oI h
  exact aN (aT Tryz.results102) (bO R (bL ⟨aM mN,R,aX R,Sub.rfl⟩))
theorem Qn {p0:aL} {p1:aL} {r:Int} (h:yR p0 p1=some r):aO Tryz.prog 83 [.agg [.I p0.Time,.I p0.Source,.I p0.Seq],.agg [.I p1.Time,.I p1.Source,.I p1.Seq]] (Mem.of []) (.I r) (Mem.of []):=by
  unfold yR at h
  refine bx Tryz.func83 R (nT Tryz.ntmps83 R) (LH.wk (aQ [(0,.agg [.I p0.Time,.I p0.Source,.I p0.Seq]),(1,.agg [.I p1.Time,.I p1.Source,.I p1.Seq])] []) (LH.aj [(2,.ag [.I p0.Time,.I p0.Source,.I p0.Seq]),(3,.ag [.I p1.Time,.I p1.Source,.I p1.Seq])] [] R (sB (de R R R R (sB (de R R R R (bt R zS))))) ?_))
  obtain ⟨r1,ei,h⟩:=ao h
  refine LH.aj [(2,.ag [.I p0.Time,.I p0.Source,.I p0.Seq]),(3,.ag [.I p1.Time,.I p1.Source,.I p1.Seq]),(5,.I r1)] [] R (sN (aw fc aE bb R R R (sN (bh R aE bN (sN (aw fc aE bb R R R (sN (bh R aE bN (sN (ej (args:=[.I p0.Time,.I p1.Time]) R wy R (aI (aI bm)) (Cs ei) R (bt R zS))))))))))) (LH.seq (LH.aj [(2,.ag [.I p0.Time,.I p0.Source,.I p0.Seq]),(3,.ag [.I p1.Time,.I p1.Source,.I p1.Seq]),(5,.I r1),(12,.bool (r1 == 0))] [] R (br R (sN (gr R R zS))) (LH.cond (t:=(r1 == 0)) R (fun fG=>?_) (fun fG=>?_))))
  ·replace h:=aB h fG
   obtain ⟨r3,ot,h⟩:=ao h
   refine LH.aS [(2,.ag [.I p0.Time,.I p0.Source,.I p0.Seq]),(3,.ag [.I p1.Time,.I p1.Source,.I p1.Seq]),(5,.I r3)] [] R (sN (aw ez aE bb R R R (sN (bh R aE bN (sN (aw ez aE bb R R R (sN (bh R aE bN (sN (ej (args:=[.I p0.Source,.I p1.Source]) R wy R (aI (aI bm)) (Cs ot) R (bt R zS))))))))))) (au (LH.seq (LH.aj [(2,.ag [.I p0.Time,.I p0.Source,.I p0.Seq]),(3,.ag [.I p1.Time,.I p1.Source,.I p1.Seq]),(5,.I r3),(19,.bool (r3 == 0))] [] R (br R (sN (gr R R zS))) (LH.cond (t:=(r3 == 0)) R (fun hT=>?_) (fun hT=>?_)))))
   ·replace h:=aB h hT
    obtain ⟨r5,AQ,h⟩:=ao h
    refine LH.aS [(5,.I r5)] [] R (sN (aw dL aE bb R R R (sN (bh R aE bN (sN (aw dL aE bb R R R (sN (bh R aE bN (sN (ej (args:=[.I p0.Seq,.I p1.Seq]) R wy R (aI (aI bm)) (Cs AQ) R (bt R zS))))))))))) (au (LH.aj [(4,.I r5)] [] R (br R (bt R zS)) (LH.ret ?_)))
    obtain rfl:=oI h
    exact aN (aT Tryz.results83) (bO R (bL ⟨aM mN,R,aX R,Sub.rfl⟩))
   replace h:=aA h hT
   refine LH.skip (au (LH.aj [(4,.I r3)] [] R (br R (bt R zS)) (LH.ret ?_)))
   obtain rfl:=oI h
   exact aN (aT Tryz.results83) (bO R (bL ⟨aM mN,R,aX R,Sub.rfl⟩))
  replace h:=aA h fG
  refine LH.skip (au (LH.wk (aQ [(2,.ag [.I p0.Time,.I p0.Source,.I p0.Seq]),(3,.ag [.I p1.Time,.I p1.Source,.I p1.Seq]),(5,.I r1)] []) (LH.seq (LH.aj [(2,.ag [.I p0.Time,.I p0.Source,.I p0.Seq]),(3,.ag [.I p1.Time,.I p1.Source,.I p1.Seq]),(5,.I r1),(19,.bool (r1 == 0))] [] R (br R (sN (gr R R zS))) (LH.cond (t:=(r1 == 0)) R (fun fQ=>?_) (fun fQ=>?_))))))
  ·replace h:=aB h fQ
   obtain ⟨r7,AR,h⟩:=ao h
   refine LH.aS [(5,.I r7)] [] R (sN (aw dL aE bb R R R (sN (bh R aE bN (sN (aw dL aE bb R R R (sN (bh R aE bN (sN (ej (args:=[.I p0.Seq,.I p1.Seq]) R wy R (aI (aI bm)) (Cs AR) R (bt R zS))))))))))) (au (LH.aj [(4,.I r7)] [] R (br R (bt R zS)) (LH.ret ?_)))
   obtain rfl:=oI h
   exact aN (aT Tryz.results83) (bO R (bL ⟨aM mN,R,aX R,Sub.rfl⟩))
  replace h:=aA h fQ
  refine LH.skip (au (LH.aj [(4,.I r1)] [] R (br R (bt R zS)) (LH.ret ?_)))
  obtain rfl:=oI h
  exact aN (aT Tryz.results83) (bO R (bL ⟨aM mN,R,aX R,Sub.rfl⟩))
theorem Qb {F:Nat} {p0:List aL} {p1:List Int} {r:List Int × Int} (h:DM F p0 p1=some r):aO Tryz.prog 63 [.al 3 (p0.map aL.lv),.L p1] (Mem.of []) (.cV [.L r.1,.I r.2]) (Mem.of []):=by
  unfold DM at h
  refine bx Tryz.func63 R (nT Tryz.ntmps63 R) (LH.wk (aQ [(0,.al 3 (p0.map aL.lv)),(1,.L p1)] []) (LH.aj [(0,.al 3 (p0.map aL.lv)),(1,.L p1)] [] R (k9 R (bt R zS)) (LH.seq (LH.aj [(0,.al 3 (p0.map aL.lv)),(1,.L p1),(14,.bool ((p1.length:Int) != (p0.length:Int)))] [] R (fh R (sN (bV (f:=LV.I) cJ R (fh R (sN (bV (f:=aL.lv) e6 R (sN (iR R R zS)))))))) (LH.cond (t:=((p1.length:Int) != (p0.length:Int))) R (fun jc=>?_) (fun jc=>?_))))))
  ·replace h:=aB h jc
   refine LH.aj [(4,.nil),(5,.I 1)] [] R (k9 R (bt R zS)) (LH.ret (aU ?_))
   obtain rfl:=oI h
   exact aN (aT Tryz.results63) (bO R (bO R (bL ⟨aM mN,R,aX R,(Sub.cV (qC (aI bm)))⟩)))
  replace h:=aA h jc
  refine LH.skip (au (LH.aj [(0,.al 3 (p0.map aL.lv)),(1,.L p1),(6,.nil)] [] R (k9 R zS) (LH.seq (LH.aj [(0,.al 3 (p0.map aL.lv)),(1,.L p1),(6,.nil),(7,.I 0)] [] R (bt R zS) (LH.block (LH.wk (Wk.to (el:=[(0,.al 3 (p0.map aL.lv)),(1,.L p1),(6,.L ([]:List Int)),(7,.I 0)]) (ml:=[]) (eC R (eC R (eL R (eC R eN)))) mN R (aX R)) (LH.loop (fun n e m=>∃ (l2:List Int) (n3:Int),DF F p0 p1 n l2 n3=some r∧e=Env.of [(0,.al 3 (p0.map aL.lv)),(1,.L p1),(6,.L l2),(7,.I n3)]∧m=Mem.of []) F ⟨([]:List Int),0,h,R,R⟩ ?_)))))))
  clear h
  rintro n e m ⟨l2,n3,h,rfl,rfl⟩
  rcases n with _ | n
  · cases (show Option.none=some _ from h)
  obtain ⟨aK,a7⟩:∃ f,f=DF F p0 p1 n:=⟨_,rfl⟩
  replace h:GG F p0 p1 aK l2 n3=some r:=a7 ▸ h
  unfold GG at h
  refine LH.seq (LH.aj [(0,.al 3 (p0.map aL.lv)),(1,.L p1),(6,.L l2),(7,.I n3),(18,.bool (decide (n3<(p0.length:Int))))] [] R (br R (fh R (sN (bV (f:=aL.lv) e6 R (sN (fy R R zS)))))) (LH.cond (t:=(decide (n3<(p0.length:Int)))) R (fun hT=>?_) (fun hT=>?_)))
  ·replace h:=aB h hT
   refine LH.skip (au (LH.wk (aQ [(0,.al 3 (p0.map aL.lv)),(1,.L p1),(6,.L l2),(7,.I n3)] []) (LH.seq (LH.block (LH.seq ?_)))))
   obtain ⟨r5,AQ,h⟩:=ao h
   refine LH.aj [(0,.al 3 (p0.map aL.lv)),(1,.L p1),(6,.L l2),(7,.I n3),(25,.bool (!r5))] [] R (fh R (fh R (br R (sN (ej (args:=[.al 3 (p0.map aL.lv),.L p1,.I n3]) R Pt R (aI (aI (aI bm))) (Qr AQ) R (sN (ic R zS))))))) (LH.cond (t:=(!r5)) R (fun fQ=>?_) (fun fQ=>?_))
   ·replace h:=aB h fQ
    refine LH.exit (cD (bP (au (LH.aS [(0,.al 3 (p0.map aL.lv)),(1,.L p1),(6,.L l2),(7,.I (i64 (n3+1)))] [] R (br R (sN (cI R R (bt R zS)))) ?_))))
    exact bl ⟨l2,(i64 (n3+1)),a7 ▸ h,R,R⟩ (Wk.eq R R R R)
   replace h:=aA h fQ
   refine LH.skip (au (LH.aj [(0,.al 3 (p0.map aL.lv)),(1,.L p1),(6,.L l2),(7,.I n3),(8,.I (l2.length:Int))] [] R (fh R (sN (bV (f:=LV.I) cJ R (bt R zS)))) (LH.seq (LH.block (LH.loop (fun n e m=>∃ (n7:Int),DG aK p0 l2 n3 n n7=some r∧e=Env.of [(0,.al 3 (p0.map aL.lv)),(1,.L p1),(6,.L l2),(7,.I n3),(8,.I n7)]∧m=Mem.of []) F ⟨(l2.length:Int),h,R,R⟩ ?_)))))
   clear h
   rintro n e m ⟨n7,h,rfl,rfl⟩
   rcases n with _ | n
   · cases (show Option.none=some _ from h)
   obtain ⟨fv,eE⟩:∃ f,f=DG aK p0 l2 n3 n:=⟨_,rfl⟩
   replace h:GH aK p0 l2 n3 fv n7=some r:=eE ▸ h
   unfold GH at h
   refine LH.seq ?_
   obtain ⟨w9,hv,h⟩:=ao h
   refine LH.cO mixed [] [0,0,0,0,0,0,0,0,0,0,0,0,0,0,0,0,0,0] [(0,.al 3 (p0.map aL.lv)),(1,.L p1),(6,.L l2),(7,.I n3),(8,.I n7),(45,.bool w9)] [] R R (by kernel_rfl) ?_ ?_
   ·refine fC R (aD (jx R R ⟨R,iQ R ?_⟩))
    by_cases bC:(decide (n7 > 0))=true
    ·replace hv:=aB hv bC
     refine mT R (cB bC) (rV R (mT R (cB bC) (rV R (mT R (cB bC) (fC R (mT R (cB bC) (aD (iS R R ⟨R,?_⟩))))))))
     obtain ⟨bg,xZ,hv⟩:=ao hv
     refine mT R (cB bC) (aD (eM (f:=LV.I) cJ aE bb R R mu xZ R ⟨R,mT R (cB bC) (aD (bh R aE bN ⟨R,?_⟩))⟩))
     obtain ⟨gG,pS,hv⟩:=ao hv
     refine mT R (cB bC) (aD (eM (f:=aL.lv) e6 cc b7 R R aL.ok pS R ⟨R,mT R (cB bC) (aD (bc R cc gp b7 R R ⟨R,mT R (cB bC) (rV R (mT R (cB bC) (fC R ?_)))⟩))⟩))
     obtain ⟨fg,ob,hv⟩:=ao hv
     refine mT R (cB bC) (aD (eM (f:=aL.lv) e6 cc b7 R R aL.ok ob R ⟨R,mT R (cB bC) (aD (bc R cc gp b7 R R ⟨R,?_⟩))⟩))
     obtain ⟨e7,tc,hv⟩:=ao hv
     refine mT R (cB bC) (aD (ej (args:=[.agg [.I gG.Time,.I gG.Source,.I gG.Seq],.agg [.I fg.Time,.I fg.Source,.I fg.Seq]]) R Pu R (aI (aI bm)) (Qn tc) R ⟨R,mT R (cB bC) (aD (jx R R ⟨R,aD (aZ (cB bC) (v:=(.bool _)) R ⟨R,?_⟩)⟩))⟩))
     obtain rfl:=oI hv
     exact zM
    ·replace bC:=bF bC
     replace hv:=aA hv bC
     refine mF R R bC (mF R R bC (mF R R bC (mF R R bC (mF R R bC (mF R R bC (mF R R bC (mF R R bC (mF R R bC (mF R R bC (mF R R bC (mF R R bC (mF R R bC (mF R R bC (aD (aW (cB bC) (v:=(.bool _)) R ⟨R,?_⟩)))))))))))))))
     obtain rfl:=oI hv
     exact zM
   clear hv
   refine LH.cond (t:=w9) R (fun kD=>?_) (fun kD=>?_)
   ·replace h:=aB h kD
    refine LH.skip (au (LH.wk (aQ [(0,.al 3 (p0.map aL.lv)),(1,.L p1),(6,.L l2),(7,.I n3),(8,.I n7)] []) (LH.block (LH.aS [(0,.al 3 (p0.map aL.lv)),(1,.L p1),(6,.L l2),(7,.I n3),(8,.I (i64 (n7 - 1)))] [] R (br R (sN (iS R R (bt R zS)))) (aY ?_)))))
    exact bl ⟨(i64 (n7 - 1)),eE ▸ h,R,R⟩ (Wk.eq R R R R)
   replace h:=aA h kD
   refine LH.exit (cD (b6 (bP (au (LH.aj [(0,.al 3 (p0.map aL.lv)),(1,.L p1),(6,.L l2),(7,.I n3),(8,.I n7),(9,.nil)] [] R (k9 R zS) ?_)))))
   obtain ⟨Er,LB,h⟩:=ao h
   obtain ⟨v17,Tj,h⟩:=ao h
   refine LH.aj [(0,.al 3 (p0.map aL.lv)),(1,.L p1),(6,.L l2),(7,.I n3),(8,.I n7),(9,.arr 152 v17.length)] [(152,.arr 3 1 (v17.map LV.I))] R (IG R (fh R (br R (sN (TZ (f:=LV.I) cJ aE bb R R R LB (sN (Dq (f:=LV.I) (id:=152) R cJ rj bb R R Tj R (nQ R zS)))))))) ?_
   obtain ⟨qf,FH,h⟩:=ao h
   refine LH.aj [(0,.al 3 (p0.map aL.lv)),(1,.L p1),(6,.L l2),(7,.I n3),(8,.I n7),(9,.arr 152 qf.length)] [(152,.arr 3 1 (qf.map LV.I))] R (jQ R (br R (sN (ka (f:=LV.I) (ys:=[n3]) cJ rj bb R R R mu (sN (nL (f:=LV.I) cJ rj bb R R (bH R) R FH (nQ R zS))))))) ?_
   obtain ⟨rm,FI,h⟩:=ao h
   obtain ⟨v20,LC,h⟩:=ao h
   refine LH.aj [(0,.al 3 (p0.map aL.lv)),(1,.L p1),(7,.I n3),(9,.L v20)] [] R (jQ R (fh R (br R (sN (TZ (f:=LV.I) cJ aE bb R R R FI (sN (nL (f:=LV.I) cJ rj bb R R (bH R) R LC (nQ R (s0 ((Wk.trans (aQ [(0,.al 3 (p0.map aL.lv)),(1,.L p1),(7,.I n3),(9,.arr 152 v20.length)] [(152,.arr 3 1 (v20.map LV.I))]) (Wk.trans (Wk.lC (f:=LV.I) (fB:=[(0,.al 3 (p0.map aL.lv)),(1,.L p1),(7,.I n3),(9,.L v20)]) 152 3 1 v20 R R (bH R) (fK R (fK R (fK R (fZ fN))))) (Wk.eq R R R R))))))))))))) (LH.aS [(0,.al 3 (p0.map aL.lv)),(1,.L p1),(6,.L v20),(7,.I n3)] [] R (fh R (qB R zS)) (aY (au (LH.aS [(0,.al 3 (p0.map aL.lv)),(1,.L p1),(6,.L v20),(7,.I (i64 (n3+1)))] [] R (br R (sN (cI R R (bt R zS)))) ?_))))
   exact bl ⟨v20,(i64 (n3+1)),a7 ▸ h,R,R⟩ (Wk.eq R R R R)
  replace h:=aA h hT
  refine LH.exit (cD (b6 (bP (au (LH.wk (aQ [(6,.L l2)] []) (LH.seq (LH.aj [(6,.L l2),(65,.bool (decide ((l2.length:Int) > 300)))] [] R (fh R (sN (bV (f:=LV.I) cJ R (sN (jx R R zS))))) (LH.cond (t:=(decide ((l2.length:Int) > 300))) R (fun oQ=>?_) (fun oQ=>?_)))))))))
  ·replace h:=aB h oQ
   refine LH.aj [(4,.nil),(5,.I 3)] [] R (k9 R (bt R zS)) (LH.ret (aU ?_))
   obtain rfl:=oI h
   exact aN (aT Tryz.results63) (bO R (bO R (bL ⟨aM mN,R,aX R,(Sub.cV (qC (aI bm)))⟩)))
  replace h:=aA h oQ
  refine LH.skip (au (LH.aj [(4,.L l2),(5,.I 0)] [] R (fh R (qB R (bt R zS))) (LH.ret ?_)))
  obtain rfl:=oI h
  exact aN (aT Tryz.results63) (bO R (bO R (bL ⟨aM mN,R,aX R,(Sub.cV (aI (aI bm)))⟩)))
theorem Qd {F:Nat} {p0:List ax} {r:List ax × Int} (h:Cq F p0=some r):aO Tryz.prog 34 [.al 12 (p0.map ax.lv)] (Mem.of []) (.cV [.al 12 (r.1.map ax.lv),.I r.2]) (Mem.of []):=by
  unfold Cq at h
  refine bx Tryz.func34 R (nT Tryz.ntmps34 R) (LH.wk (aQ [(0,.al 12 (p0.map ax.lv))] []) (LH.aj [(0,.al 12 (p0.map ax.lv))] [] R (k9 R (bt R zS)) (LH.aj [(0,.al 12 (p0.map ax.lv)),(4,.nil)] [] R (k9 R zS) (LH.aj [(0,.al 12 (p0.map ax.lv)),(4,.nil),(5,.nil)] [] R (k9 R zS) (LH.seq (LH.aj [(0,.al 12 (p0.map ax.lv)),(4,.nil),(5,.nil),(6,.I 0)] [] R (bt R zS) (LH.block (LH.wk ((Wk.trans (aQ [(0,.al 12 (p0.map ax.lv)),(4,.nil),(5,.nil),(6,.I 0)] []) (Wk.trans (aQ [(0,.al 12 (p0.map ax.lv)),(4,.nil),(5,.nil),(6,.I 0)] []) (Wk.trans (Wk.tC (fB:=[(0,.al 12 (p0.map ax.lv)),(4,.arr 143 (List.length ([]:List aL))),(5,.nil),(6,.I 0)]) 143 61 3 R R (wK (wO (wK (wK wN))))) (Wk.trans (aQ [(0,.al 12 (p0.map ax.lv)),(4,.arr 143 (List.length ([]:List aL))),(5,.nil),(6,.I 0)] [(143,.arr 61 3 (List.map aL.lv ([]:List aL)))]) (Wk.trans (Wk.tC (fB:=[(0,.al 12 (p0.map ax.lv)),(4,.arr 143 (List.length ([]:List aL))),(5,.arr 147 (List.length ([]:List Int))),(6,.I 0)]) 147 3 1 R R (wK (wK (wO (wK wN))))) (aQ [(0,.al 12 (p0.map ax.lv)),(4,.arr 143 (List.length ([]:List aL))),(5,.arr 147 (List.length ([]:List Int))),(6,.I 0)] [(143,.arr 61 3 (List.map aL.lv ([]:List aL))),(147,.arr 3 1 (List.map LV.I ([]:List Int)))]))))))) (LH.loop (fun n e m=>∃ (n1:Int) (l2:List aL) (l3:List Int),y6 F p0 n n1 l2 l3=some r∧e=Env.of [(0,.al 12 (p0.map ax.lv)),(4,.arr 143 l2.length),(5,.arr 147 l3.length),(6,.I n1)]∧m=Mem.of [(143,.arr 61 3 (l2.map aL.lv)),(147,.arr 3 1 (l3.map LV.I))]) F ⟨0,([]:List aL),([]:List Int),h,R,R⟩ ?_)))))))))
  clear h
  rintro n e m ⟨n1,l2,l3,h,rfl,rfl⟩
  rcases n with _ | n
  · cases (show Option.none=some _ from h)
  obtain ⟨aK,a7⟩:∃ f,f=y6 F p0 n:=⟨_,rfl⟩
  replace h:GI F p0 aK n1 l2 l3=some r:=a7 ▸ h
  unfold GI at h
  refine LH.seq (LH.aj [(0,.al 12 (p0.map ax.lv)),(4,.arr 143 l2.length),(5,.arr 147 l3.length),(6,.I n1),(16,.bool (decide (n1<(p0.length:Int))))] [(143,.arr 61 3 (l2.map aL.lv)),(147,.arr 3 1 (l3.map LV.I))] R (br R (fh R (sN (bV (f:=ax.lv) fR R (sN (fy R R zS)))))) (LH.cond (t:=(decide (n1<(p0.length:Int)))) R (fun hT=>?_) (fun hT=>?_)))
  ·replace h:=aB h hT
   refine LH.skip (au (LH.wk (aQ [(0,.al 12 (p0.map ax.lv)),(4,.arr 143 l2.length),(5,.arr 147 l3.length),(6,.I n1)] [(143,.arr 61 3 (l2.map aL.lv)),(147,.arr 3 1 (l3.map LV.I))]) (LH.seq (LH.block (LH.aj [(0,.al 12 (p0.map ax.lv)),(4,.arr 143 l2.length),(5,.arr 147 l3.length),(6,.I n1),(7,.I n1)] [(143,.arr 61 3 (l2.map aL.lv)),(147,.arr 3 1 (l3.map LV.I))] R (br R (bt R zS)) (LH.seq (LH.aj [(0,.al 12 (p0.map ax.lv)),(4,.arr 143 l2.length),(5,.arr 147 l3.length),(6,.I n1),(7,.I n1),(8,.I (i64 (n1 - 1)))] [(143,.arr 61 3 (l2.map aL.lv)),(147,.arr 3 1 (l3.map LV.I))] R (br R (sN (iS R R (bt R zS)))) (LH.block (LH.loop (fun n e m=>∃ (n5:Int) (n6:Int),Bg aK F p0 n1 l2 l3 n n5 n6=some r∧e=Env.of [(0,.al 12 (p0.map ax.lv)),(4,.arr 143 l2.length),(5,.arr 147 l3.length),(6,.I n1),(7,.I n5),(8,.I n6)]∧m=Mem.of [(143,.arr 61 3 (l2.map aL.lv)),(147,.arr 3 1 (l3.map LV.I))]) F ⟨n1,(i64 (n1 - 1)),h,R,R⟩ ?_)))))))))
   clear h
   rintro n e m ⟨n5,n6,h,rfl,rfl⟩
   rcases n with _ | n
   · cases (show Option.none=some _ from h)
   obtain ⟨fv,eE⟩:∃ f,f=Bg aK F p0 n1 l2 l3 n:=⟨_,rfl⟩
   replace h:GJ aK F p0 n1 l2 l3 fv n5 n6=some r:=eE ▸ h
   unfold GJ at h
   refine LH.seq (LH.aj [(0,.al 12 (p0.map ax.lv)),(4,.arr 143 l2.length),(5,.arr 147 l3.length),(6,.I n1),(7,.I n5),(8,.I n6),(23,.bool (decide (n6 ≥ 0)))] [(143,.arr 61 3 (l2.map aL.lv)),(147,.arr 3 1 (l3.map LV.I))] R (br R (sN (pW R R zS))) (LH.cond (t:=(decide (n6 ≥ 0))) R (fun jd=>?_) (fun jd=>?_)))
   ·replace h:=aB h jd
    refine LH.skip (au (LH.wk (aQ [(0,.al 12 (p0.map ax.lv)),(4,.arr 143 l2.length),(5,.arr 147 l3.length),(6,.I n1),(7,.I n5),(8,.I n6)] [(143,.arr 61 3 (l2.map aL.lv)),(147,.arr 3 1 (l3.map LV.I))]) (LH.seq (LH.block ?_))))
    obtain ⟨x8,uD,h⟩:=ao h
    obtain ⟨x9,xn,h⟩:=ao h
    obtain ⟨dG,qu,h⟩:=ao h
    refine LH.cO mixed [] [0,0,0,0,0,0,0,0,0] [(0,.al 12 (p0.map ax.lv)),(4,.arr 143 l2.length),(5,.arr 147 l3.length),(6,.I n1),(7,.I n5),(8,.I n6),(34,.bool dG)] [(143,.arr 61 3 (l2.map aL.lv)),(147,.arr 3 1 (l3.map LV.I))] R R (by kernel_rfl) (rV R (fC R (aD (eM (f:=ax.lv) fR eo dF R R ax.ok uD R ⟨R,aD (bc R eo iX dF R R ⟨R,rV R (fC R (aD (eM (f:=ax.lv) fR eo dF R R ax.ok xn R ⟨R,aD (bc R eo iX dF R R ⟨R,aD (ej (args:=[ax.lv x8,ax.lv x9]) R Pf R (aI (aI bm)) (QC qu) R ⟨R,zM⟩)⟩)⟩)))⟩)⟩)))) (LH.cond (t:=dG) R (fun iL=>?_) (fun iL=>?_))
    ·replace h:=aB h iL
     refine LH.aS [(0,.al 12 (p0.map ax.lv)),(4,.arr 143 l2.length),(5,.arr 147 l3.length),(6,.I n1),(7,.I n6),(8,.I n6)] [(143,.arr 61 3 (l2.map aL.lv)),(147,.arr 3 1 (l3.map LV.I))] R (br R (bt R zS)) (aY (au (LH.aS [(0,.al 12 (p0.map ax.lv)),(4,.arr 143 l2.length),(5,.arr 147 l3.length),(6,.I n1),(7,.I n6),(8,.I (i64 (n6 - 1)))] [(143,.arr 61 3 (l2.map aL.lv)),(147,.arr 3 1 (l3.map LV.I))] R (br R (sN (iS R R (bt R zS)))) ?_)))
     exact bl ⟨n6,(i64 (n6 - 1)),eE ▸ h,R,R⟩ (Wk.eq R R R R)
    replace h:=aA h iL
    refine LH.skip (aY (au (LH.aS [(0,.al 12 (p0.map ax.lv)),(4,.arr 143 l2.length),(5,.arr 147 l3.length),(6,.I n1),(7,.I n5),(8,.I (i64 (n6 - 1)))] [(143,.arr 61 3 (l2.map aL.lv)),(147,.arr 3 1 (l3.map LV.I))] R (br R (sN (iS R R (bt R zS)))) ?_)))
    exact bl ⟨n5,(i64 (n6 - 1)),eE ▸ h,R,R⟩ (Wk.eq R R R R)
   replace h:=aA h jd
   refine LH.exit (cD (b6 (bP (au ?_))))
   obtain ⟨gG,pS,h⟩:=ao h
   obtain ⟨se,FG,h⟩:=ao h
   obtain ⟨kR,AS,h⟩:=ao h
   refine LH.aS [(0,.al 12 (p0.map ax.lv)),(4,.arr 143 se.length),(5,.arr 147 kR.length),(6,.I n1)] [(143,.arr 61 3 (se.map aL.lv)),(147,.arr 3 1 (kR.map LV.I))] R ?_ ?_
   ·exact jQ R (fh R (br R (sN (eM (f:=ax.lv) fR eo dF R R ax.ok pS R (sN (aw di cc b7 R R R (sN (bc R cc gp b7 R R (sN (ka (f:=aL.lv) (ys:=[gG.ar]) e6 MC b7 R R R aL.ok (sN (nL (f:=aL.lv) e6 MC b7 R R (bH R) R FG (jQ R (br R (sN (ka (f:=LV.I) (ys:=[n5]) cJ rj bb R R R mu (sN (nL (f:=LV.I) cJ rj bb R R (bH R) R AS (nQ R (nQ R zS))))))))))))))))))))
   refine aY (au (LH.aS [(0,.al 12 (p0.map ax.lv)),(4,.arr 143 se.length),(5,.arr 147 kR.length),(6,.I (i64 (n1+1)))] [(143,.arr 61 3 (se.map aL.lv)),(147,.arr 3 1 (kR.map LV.I))] R (br R (sN (cI R R (bt R zS)))) ?_))
   exact bl ⟨(i64 (n1+1)),se,kR,a7 ▸ h,R,R⟩ (Wk.eq R R R R)
  replace h:=aA h hT
  refine LH.exit (cD (b6 (bP (au (LH.wk ((Wk.trans (aQ [(0,.al 12 (p0.map ax.lv)),(4,.arr 143 l2.length),(5,.arr 147 l3.length)] [(143,.arr 61 3 (l2.map aL.lv)),(147,.arr 3 1 (l3.map LV.I))]) (Wk.trans (Wk.lC (f:=aL.lv) (fB:=[(0,.al 12 (p0.map ax.lv)),(4,.al 3 (l2.map aL.lv)),(5,.arr 147 l3.length)]) 143 61 3 l2 R R (bH R) (fK R (fZ (fK R fN)))) (Wk.trans (Wk.lC (f:=LV.I) (fB:=[(0,.al 12 (p0.map ax.lv)),(4,.al 3 (l2.map aL.lv)),(5,.L l3)]) 147 3 1 l3 R R (bH R) (fK R (fK R (fZ fN)))) (aQ [(0,.al 12 (p0.map ax.lv)),(4,.al 3 (l2.map aL.lv)),(5,.L l3)] []))))) ?_)))))
  obtain ⟨fD,td,h⟩:=ao h
  refine LH.aj [(0,.al 12 (p0.map ax.lv)),(9,.L fD.1),(10,.I fD.2)] [] R (fh R (fh R (sN (ej (args:=[.al 3 (l2.map aL.lv),.L l3]) R Pg R (aI (aI bm)) (Qb td) R (wU R (sN (fV R R (sN (fV R R (qB R (bt R zS))))))))))) (LH.seq (LH.aj [(0,.al 12 (p0.map ax.lv)),(9,.L fD.1),(10,.I fD.2),(55,.bool (fD.2 != 0))] [] R (br R (sN (iR R R zS))) (LH.cond (t:=(fD.2 != 0)) R (fun iM=>?_) (fun iM=>?_))))
  ·replace h:=aB h iM
   refine LH.aj [(2,.nil),(3,.I fD.2)] [] R (br R (k9 R (bt R zS))) (LH.ret (aU ?_))
   obtain rfl:=oI h
   exact aN (aT Tryz.results34) (bO R (bO R (bL ⟨aM mN,R,aX R,(Sub.cV (qC (aI bm)))⟩)))
  replace h:=aA h iM
  refine LH.skip (au (LH.aj [(0,.al 12 (p0.map ax.lv)),(9,.L fD.1),(11,.nil)] [] R (k9 R zS) (LH.seq (LH.aj [(0,.al 12 (p0.map ax.lv)),(9,.L fD.1),(11,.nil),(12,.I 0)] [] R (bt R zS) (LH.block (LH.wk ((Wk.trans (aQ [(0,.al 12 (p0.map ax.lv)),(9,.L fD.1),(11,.nil),(12,.I 0)] []) (Wk.trans (aQ [(0,.al 12 (p0.map ax.lv)),(9,.L fD.1),(11,.nil),(12,.I 0)] []) (Wk.trans (Wk.tC (fB:=[(0,.al 12 (p0.map ax.lv)),(9,.L fD.1),(11,.arr 172 (List.length ([]:List ax))),(12,.I 0)]) 172 63 12 R R (wK (wK (wO (wK wN))))) (aQ [(0,.al 12 (p0.map ax.lv)),(9,.L fD.1),(11,.arr 172 (List.length ([]:List ax))),(12,.I 0)] [(172,.arr 63 12 (List.map ax.lv ([]:List ax)))]))))) (LH.loop (fun n e m=>∃ (n17:Int) (xp:List ax),Bh p0 fD n n17 xp=some r∧e=Env.of [(0,.al 12 (p0.map ax.lv)),(9,.L fD.1),(11,.arr 172 xp.length),(12,.I n17)]∧m=Mem.of [(172,.arr 63 12 (xp.map ax.lv))]) F ⟨0,([]:List ax),h,R,R⟩ ?_)))))))
  clear h
  rintro n e m ⟨n17,xp,h,rfl,rfl⟩
  rcases n with _ | n
  · cases (show Option.none=some _ from h)
  obtain ⟨o9,mZ⟩:∃ f,f=Bh p0 fD n:=⟨_,rfl⟩
  replace h:GK p0 fD o9 n17 xp=some r:=mZ ▸ h
  unfold GK at h
  refine LH.seq (LH.aj [(0,.al 12 (p0.map ax.lv)),(9,.L fD.1),(11,.arr 172 xp.length),(12,.I n17),(60,.bool (decide (n17<(fD.1.length:Int))))] [(172,.arr 63 12 (xp.map ax.lv))] R (br R (fh R (sN (bV (f:=LV.I) cJ R (sN (fy R R zS)))))) (LH.cond (t:=(decide (n17<(fD.1.length:Int)))) R (fun pJ=>?_) (fun pJ=>?_)))
  ·replace h:=aB h pJ
   refine LH.skip (au (LH.wk (aQ [(0,.al 12 (p0.map ax.lv)),(9,.L fD.1),(11,.arr 172 xp.length),(12,.I n17)] [(172,.arr 63 12 (xp.map ax.lv))]) (LH.seq (LH.block ?_))))
   obtain ⟨HF,Dk,h⟩:=ao h
   obtain ⟨xt,AV,h⟩:=ao h
   obtain ⟨v22,Tl,h⟩:=ao h
   refine LH.aS [(0,.al 12 (p0.map ax.lv)),(9,.L fD.1),(11,.arr 172 v22.length),(12,.I n17)] [(172,.arr 63 12 (v22.map ax.lv))] R (jQ R (fh R (fh R (br R (sN (eM (f:=LV.I) cJ aE bb R R mu Dk R (sN (bh R aE bN (sN (eM (f:=ax.lv) fR eo dF R R ax.ok AV R (sN (bc R eo iX dF R R (sN (ka (f:=ax.lv) (ys:=[xt]) fR zF dF R R R ax.ok (sN (nL (f:=ax.lv) fR zF dF R R (bH R) R Tl (nQ R zS))))))))))))))))) (aY (au (LH.aS [(0,.al 12 (p0.map ax.lv)),(9,.L fD.1),(11,.arr 172 v22.length),(12,.I (i64 (n17+1)))] [(172,.arr 63 12 (v22.map ax.lv))] R (br R (sN (cI R R (bt R zS)))) ?_)))
   exact bl ⟨(i64 (n17+1)),v22,mZ ▸ h,R,R⟩ (Wk.eq R R R R)
  replace h:=aA h pJ
  refine LH.exit (cD (b6 (bP (au (LH.wk ((Wk.trans (aQ [(11,.arr 172 xp.length)] [(172,.arr 63 12 (xp.map ax.lv))]) (Wk.trans (Wk.lC (f:=ax.lv) (fB:=[(11,.al 12 (xp.map ax.lv))]) 172 63 12 xp R R (bH R) (fZ fN)) (aQ [(11,.al 12 (xp.map ax.lv))] [])))) (LH.aj [(2,.al 12 (xp.map ax.lv)),(3,.I 0)] [] R (fh R (qB R (bt R zS))) (LH.ret ?_)))))))
  obtain rfl:=oI h
  exact aN (aT Tryz.results34) (bO R (bO R (bL ⟨aM mN,R,aX R,(Sub.cV (aI (aI bm)))⟩)))
theorem Qc {p0:aq} {r:Bool} (h:yG p0=some r):aO Tryz.prog 84 [aq.lv p0] (Mem.of []) (.bool r) (Mem.of []):=by
  unfold yG at h
  refine bx Tryz.func84 R (nT Tryz.ntmps84 R) (LH.wk (aQ [(0,aq.lv p0)] []) (LH.aj [(1,.ag (aq.lv p0).cells)] [] R (sB (de R R R R (ct R zS))) (LH.seq (LH.aj [(1,.ag (aq.lv p0).cells),(30,.bool ((decide (p0.Max<1)) || ((decide (p0.Max > 40)) || ((decide (p0.e9<0)) || ((decide (p0.e9 ≥ 16)) || ((decide (p0.cr<0)) || (decide (p0.cr ≥ 6))))))))] [] R ?_ ?_))))
  ·refine sN (aw nu aE bb R R R (sN (bh R aE bN (sN (fy R R (bM R ?_))))))
   by_cases cE:(decide (p0.Max<1))=true
   ·exact sF R R cE (sF R R cE (sF R R cE (sN (aZ (cB cE) (v:=(.bool _)) R (bM R (sF R R R (sF R R R (sF R R R (sN (aZ R (v:=(.bool _)) R (bM R (sF R R R (sF R R R (sF R R R (sN (aZ R (v:=(.bool _)) R (bM R (sF R R R (sF R R R (sF R R R (sN (aZ R (v:=(.bool _)) R (bM R (sF R R R (sF R R R (sF R R R (sN (aZ R (v:=(.bool _)) R (s0 (Wk.to (eC R (eC (cB (pn cE)) eN)) mN R (aX R)))))))))))))))))))))))))))))))
   ·replace cE:=bF cE
    refine sT R (cB cE) (aw nu aE bb R R R (sT R (cB cE) (bh R aE bN (sT R (cB cE) (jx R R (sN (aW (cB cE) (v:=(.bool _)) R (bM R ?_))))))))
    by_cases bS:(decide (p0.Max > 40))=true
    ·exact sF R R bS (sF R R bS (sF R R bS (sN (aZ (cB bS) (v:=(.bool _)) R (bM R (sF R R R (sF R R R (sF R R R (sN (aZ R (v:=(.bool _)) R (bM R (sF R R R (sF R R R (sF R R R (sN (aZ R (v:=(.bool _)) R (bM R (sF R R R (sF R R R (sF R R R (sN (aZ R (v:=(.bool _)) R (s0 (Wk.to (eC R (eC (cB (Eq.trans (pn bS) (gQ cE))) eN)) mN R (aX R)))))))))))))))))))))))))
    ·replace bS:=bF bS
     refine sT R (cB bS) (aw qF aE bb R R R (sT R (cB bS) (bh R aE bN (sT R (cB bS) (fy R R (sN (aW (cB bS) (v:=(.bool _)) R (bM R ?_))))))))
     by_cases bG:(decide (p0.e9<0))=true
     ·exact sF R R bG (sF R R bG (sF R R bG (sN (aZ (cB bG) (v:=(.bool _)) R (bM R (sF R R R (sF R R R (sF R R R (sN (aZ R (v:=(.bool _)) R (bM R (sF R R R (sF R R R (sF R R R (sN (aZ R (v:=(.bool _)) R (s0 (Wk.to (eC R (eC (cB (Eq.trans (Eq.trans (pn bG) (gQ bS)) (gQ cE))) eN)) mN R (aX R)))))))))))))))))))
     ·replace bG:=bF bG
      refine sT R (cB bG) (aw qF aE bb R R R (sT R (cB bG) (bh R aE bN (sT R (cB bG) (pW R R (sN (aW (cB bG) (v:=(.bool _)) R (bM R ?_))))))))
      by_cases bI:(decide (p0.e9 ≥ 16))=true
      ·exact sF R R bI (sF R R bI (sF R R bI (sN (aZ (cB bI) (v:=(.bool _)) R (bM R (sF R R R (sF R R R (sF R R R (sN (aZ R (v:=(.bool _)) R (s0 (Wk.to (eC R (eC (cB (Eq.trans (Eq.trans (Eq.trans (pn bI) (gQ bG)) (gQ bS)) (gQ cE))) eN)) mN R (aX R)))))))))))))
      ·replace bI:=bF bI
       refine sT R (cB bI) (aw qG aE bb R R R (sT R (cB bI) (bh R aE bN (sT R (cB bI) (fy R R (sN (aW (cB bI) (v:=(.bool _)) R (bM R ?_))))))))
       by_cases cn:(decide (p0.cr<0))=true
       ·exact sF R R cn (sF R R cn (sF R R cn (sN (aZ (cB cn) (v:=(.bool _)) R (s0 (Wk.to (eC R (eC (cB (Eq.trans (Eq.trans (Eq.trans (Eq.trans (pn cn) (gQ bI)) (gQ bG)) (gQ bS)) (gQ cE))) eN)) mN R (aX R)))))))
       ·replace cn:=bF cn
        exact sT R (cB cn) (aw qG aE bb R R R (sT R (cB cn) (bh R aE bN (sT R (cB cn) (pW R R (sN (aW (cB cn) (v:=(.bool _)) R (s0 (Wk.to (eC R (eC (cB (Eq.trans (Eq.trans (Eq.trans (Eq.trans (gQ cn) (gQ bI)) (gQ bG)) (gQ bS)) (gQ cE))) eN)) mN R (aX R))))))))))
  refine LH.cond (t:=((decide (p0.Max<1)) || ((decide (p0.Max > 40)) || ((decide (p0.e9<0)) || ((decide (p0.e9 ≥ 16)) || ((decide (p0.cr<0)) || (decide (p0.cr ≥ 6)))))))) R (fun jd=>?_) (fun jd=>?_)
  ·replace h:=aB h jd
   refine LH.aj [(2,.bool false)] [] R (ct R zS) (LH.ret (aU ?_))
   obtain rfl:=oI h
   exact aN (aT Tryz.results84) (bO R (bL ⟨aM mN,R,aX R,Sub.rfl⟩))
  replace h:=aA h jd
  refine LH.skip (au (LH.wk (aQ [(1,.ag (aq.lv p0).cells)] []) (LH.seq (LH.aj [(1,.ag (aq.lv p0).cells),(33,.bool (p0.Kind == 1))] [] R (sN (aw pf aE bb R R R (sN (bh R aE bN (sN (gr R R zS)))))) (LH.cond (t:=(p0.Kind == 1)) R (fun kY=>?_) (fun kY=>?_))))))
  ·replace h:=aB h kY
   refine LH.aj [(2,.bool ((p0.Options == 0) && (p0.Key == 0)))] [] R ?_ ?_
   ·refine sN (aw ky aE bb R R R (sN (bh R aE bN (sN (gr R R (bM R ?_))))))
    by_cases bC:(p0.Options == 0)=true
    ·exact sT R (cB bC) (aw nv aE bb R R R (sT R (cB bC) (bh R aE bN (sT R (cB bC) (gr R R (sN (aZ (cB bC) (v:=(.bool _)) R (ct R (s0 (Wk.to (eC (cB (dP bC)) eN) mN R (aX R)))))))))))
    ·replace bC:=bF bC
     exact sF R R bC (sF R R bC (sF R R bC (sN (aW (cB bC) (v:=(.bool _)) R (ct R (s0 (Wk.to (eC (cB (kB bC)) eN) mN R (aX R))))))))
   refine LH.ret (aU ?_)
   obtain rfl:=oI h
   exact aN (aT Tryz.results84) (bO R (bL ⟨aM mN,R,aX R,Sub.rfl⟩))
  replace h:=aA h kY
  refine LH.skip (au (LH.aj [(2,.bool ((p0.Kind == 2) && ((decide (p0.Options ≥ 2)) && ((decide (p0.Options≤5)) && ((decide (p0.Key ≥ 0)) && (decide (p0.Key<p0.Options)))))))] [] R ?_ ?_))
  ·refine sN (aw pf aE bb R R R (sN (bh R aE bN (sN (gr R R (bM R ?_))))))
   by_cases dt:(p0.Kind == 2)=true
   ·refine sT R (cB dt) (aw ky aE bb R R R (sT R (cB dt) (bh R aE bN (sT R (cB dt) (pW R R (sN (aZ (cB dt) (v:=(.bool _)) R (bM R ?_))))))))
    by_cases bQ:(decide (p0.Options ≥ 2))=true
    ·refine sT R (cB bQ) (aw ky aE bb R R R (sT R (cB bQ) (bh R aE bN (sT R (cB bQ) (Im R R (sN (aZ (cB bQ) (v:=(.bool _)) R (bM R ?_))))))))
     by_cases dn:(decide (p0.Options≤5))=true
     ·refine sT R (cB dn) (aw nv aE bb R R R (sT R (cB dn) (bh R aE bN (sT R (cB dn) (pW R R (sN (aZ (cB dn) (v:=(.bool _)) R (bM R ?_))))))))
      by_cases b4:(decide (p0.Key ≥ 0))=true
      ·exact sT R (cB b4) (aw nv aE bb R R R (sT R (cB b4) (bh R aE bN (sT R (cB b4) (aw ky aE bb R R R (sT R (cB b4) (bh R aE bN (sT R (cB b4) (fy R R (sN (aZ (cB b4) (v:=(.bool _)) R (ct R (s0 (Wk.to (eC (cB (Eq.trans (Eq.trans (Eq.trans (dP b4) (dP dn)) (dP bQ)) (dP dt))) eN) mN R (aX R)))))))))))))))
      ·replace b4:=bF b4
       exact sF R R b4 (sF R R b4 (sF R R b4 (sF R R b4 (sF R R b4 (sN (aW (cB b4) (v:=(.bool _)) R (ct R (s0 (Wk.to (eC (cB (Eq.trans (Eq.trans (Eq.trans (kB b4) (dP dn)) (dP bQ)) (dP dt))) eN) mN R (aX R))))))))))
     ·replace dn:=bF dn
      exact sF R R dn (sF R R dn (sF R R dn (sN (aW (cB dn) (v:=(.bool _)) R (bM R (sF R R R (sF R R R (sF R R R (sF R R R (sF R R R (sN (aW R (v:=(.bool _)) R (ct R (s0 (Wk.to (eC (cB (Eq.trans (Eq.trans (kB dn) (dP bQ)) (dP dt))) eN) mN R (aX R))))))))))))))))
    ·replace bQ:=bF bQ
     exact sF R R bQ (sF R R bQ (sF R R bQ (sN (aW (cB bQ) (v:=(.bool _)) R (bM R (sF R R R (sF R R R (sF R R R (sN (aW R (v:=(.bool _)) R (bM R (sF R R R (sF R R R (sF R R R (sF R R R (sF R R R (sN (aW R (v:=(.bool _)) R (ct R (s0 (Wk.to (eC (cB (Eq.trans (kB bQ) (dP dt))) eN) mN R (aX R))))))))))))))))))))))
   ·replace dt:=bF dt
    exact sF R R dt (sF R R dt (sF R R dt (sN (aW (cB dt) (v:=(.bool _)) R (bM R (sF R R R (sF R R R (sF R R R (sN (aW R (v:=(.bool _)) R (bM R (sF R R R (sF R R R (sF R R R (sN (aW R (v:=(.bool _)) R (bM R (sF R R R (sF R R R (sF R R R (sF R R R (sF R R R (sN (aW R (v:=(.bool _)) R (ct R (s0 (Wk.to (eC (cB (kB dt)) eN) mN R (aX R))))))))))))))))))))))))))))
  refine LH.ret ?_
  obtain rfl:=oI h
  exact aN (aT Tryz.results84) (bO R (bL ⟨aM mN,R,aX R,Sub.rfl⟩))
set_option maxHeartbeats 4000000 in
theorem Gr {F:Nat} {p0:ai} {r:Int} (h:tK F p0=some r):aO Tryz.prog 66 [ai.lv p0] (Mem.of []) (.I r) (Mem.of []):=by
  unfold tK at h
  refine bx Tryz.func66 R (nT Tryz.ntmps66 R) (LH.wk (aQ [(0,ai.lv p0)] []) (LH.aj [(1,.ag (ai.lv p0).cells)] [] R (sB (de R R R R (bt R zS))) (LH.seq (LH.aj [(1,.ag (ai.lv p0).cells),(23,.bool ((decide (p0.ID<0)) || ((decide (p0.ID > 9999)) || ((decide (p0.Version<1)) || (decide (p0.Version > 8))))))] [] R ?_ ?_))))
  ·refine sN (aw fb aE bb R R R (sN (bh R aE bN (sN (fy R R (bM R ?_))))))
   by_cases cE:(decide (p0.ID<0))=true
   ·exact sF R R cE (sF R R cE (sF R R cE (sN (aZ (cB cE) (v:=(.bool _)) R (bM R (sF R R R (sF R R R (sF R R R (sN (aZ R (v:=(.bool _)) R (bM R (sF R R R (sF R R R (sF R R R (sN (aZ R (v:=(.bool _)) R (s0 (Wk.to (eC R (eC (cB (pn cE)) eN)) mN R (aX R)))))))))))))))))))
   ·replace cE:=bF cE
    refine sT R (cB cE) (aw fb aE bb R R R (sT R (cB cE) (bh R aE bN (sT R (cB cE) (jx R R (sN (aW (cB cE) (v:=(.bool _)) R (bM R ?_))))))))
    by_cases bS:(decide (p0.ID > 9999))=true
    ·exact sF R R bS (sF R R bS (sF R R bS (sN (aZ (cB bS) (v:=(.bool _)) R (bM R (sF R R R (sF R R R (sF R R R (sN (aZ R (v:=(.bool _)) R (s0 (Wk.to (eC R (eC (cB (Eq.trans (pn bS) (gQ cE))) eN)) mN R (aX R)))))))))))))
    ·replace bS:=bF bS
     refine sT R (cB bS) (aw fP aE bb R R R (sT R (cB bS) (bh R aE bN (sT R (cB bS) (fy R R (sN (aW (cB bS) (v:=(.bool _)) R (bM R ?_))))))))
     by_cases bG:(decide (p0.Version<1))=true
     ·exact sF R R bG (sF R R bG (sF R R bG (sN (aZ (cB bG) (v:=(.bool _)) R (s0 (Wk.to (eC R (eC (cB (Eq.trans (Eq.trans (pn bG) (gQ bS)) (gQ cE))) eN)) mN R (aX R)))))))
     ·replace bG:=bF bG
      exact sT R (cB bG) (aw fP aE bb R R R (sT R (cB bG) (bh R aE bN (sT R (cB bG) (jx R R (sN (aW (cB bG) (v:=(.bool _)) R (s0 (Wk.to (eC R (eC (cB (Eq.trans (Eq.trans (gQ bG) (gQ bS)) (gQ cE))) eN)) mN R (aX R))))))))))
  refine LH.cond (t:=((decide (p0.ID<0)) || ((decide (p0.ID > 9999)) || ((decide (p0.Version<1)) || (decide (p0.Version > 8)))))) R (fun kM=>?_) (fun kM=>?_)
  ·replace h:=aB h kM
   refine LH.aj [(2,.I 2)] [] R (bt R zS) (LH.ret (aU ?_))
   obtain rfl:=oI h
   exact aN (aT Tryz.results66) (bO R (bL ⟨aM mN,R,aX R,Sub.rfl⟩))
  replace h:=aA h kM
  refine LH.skip (au (LH.wk (aQ [(1,.ag (ai.lv p0).cells)] []) (LH.seq (LH.aj [(1,.ag (ai.lv p0).cells),(39,.bool ((decide ((p0.bJ.size:Int) > 40)) || ((decide ((p0.aH.length:Int) > 6)) || (decide ((p0.aF.length:Int) > 8)))))] [] R ?_ ?_))))
  ·refine sN (aw gY po xr R R R (sN (bh R po D3 (sX ((rW II R).ok) (sN (jx R R (bM R ?_)))))))
   by_cases ca:(decide ((p0.bJ.size:Int) > 40))=true
   ·exact sF R R ca (sF R R ca (sF R R ca (sF R R ca (sN (aZ (cB ca) (v:=(.bool _)) R (bM R (sF R R R (sF R R R (sF R R R (sF R R R (sN (aZ R (v:=(.bool _)) R (s0 (Wk.to (eC R (eC (cB (pn ca)) eN)) mN R (aX R)))))))))))))))
   ·replace ca:=bF ca
    refine sT R (cB ca) (aw c8 db fF R R R (sT R (cB ca) (bh R db iW (sT R (cB ca) (bV (f:=aq.lv) gy R (sT R (cB ca) (jx R R (sN (aW (cB ca) (v:=(.bool _)) R (bM R ?_))))))))))
    by_cases dy:(decide ((p0.aH.length:Int) > 6))=true
    ·exact sF R R dy (sF R R dy (sF R R dy (sF R R dy (sN (aZ (cB dy) (v:=(.bool _)) R (s0 (Wk.to (eC R (eC (cB (Eq.trans (pn dy) (gQ ca))) eN)) mN R (aX R))))))))
    ·replace dy:=bF dy
     exact sT R (cB dy) (aw fx eT jz R R R (sT R (cB dy) (bh R eT mI (sT R (cB dy) (bV (f:=LV.I) cJ R (sT R (cB dy) (jx R R (sN (aW (cB dy) (v:=(.bool _)) R (s0 (Wk.to (eC R (eC (cB (Eq.trans (gQ dy) (gQ ca))) eN)) mN R (aX R))))))))))))
  refine LH.cond (t:=((decide ((p0.bJ.size:Int) > 40)) || ((decide ((p0.aH.length:Int) > 6)) || (decide ((p0.aF.length:Int) > 8))))) R (fun uh=>?_) (fun uh=>?_)
  ·replace h:=aB h uh
   refine LH.aj [(2,.I 3)] [] R (bt R zS) (LH.ret (aU ?_))
   obtain rfl:=oI h
   exact aN (aT Tryz.results66) (bO R (bL ⟨aM mN,R,aX R,Sub.rfl⟩))
  replace h:=aA h uh
  refine LH.skip (au (LH.wk (aQ [(1,.ag (ai.lv p0).cells)] []) (LH.seq (LH.aj [(1,.ag (ai.lv p0).cells),(42,.bool (decide (p0.bJ=(ByteArray.mk #[]))))] [] R (sN (aw gY po xr R R R (sN (bh R po D3 (sX ((wE R R).ok) zS))))) (LH.cond (t:=(decide (p0.bJ=(ByteArray.mk #[])))) R (fun ib=>?_) (fun ib=>?_))))))
  ·replace h:=aB h ib
   refine LH.aj [(2,.I 7)] [] R (bt R zS) (LH.ret (aU ?_))
   obtain rfl:=oI h
   exact aN (aT Tryz.results66) (bO R (bL ⟨aM mN,R,aX R,Sub.rfl⟩))
  replace h:=aA h ib
  refine LH.skip (au (LH.wk (aQ [(1,.ag (ai.lv p0).cells)] []) (LH.seq (LH.aj [(1,.ag (ai.lv p0).cells),(3,.I 0)] [] R (bt R zS) (LH.block (LH.loop (fun n e m=>∃ (n11:Int),Bo F p0 n n11=some r∧e=Env.of [(1,.ag (ai.lv p0).cells),(3,.I n11)]∧m=Mem.of []) F ⟨0,h,R,R⟩ ?_))))))
  clear h
  rintro n e m ⟨n11,h,rfl,rfl⟩
  rcases n with _ | n
  · cases (show Option.none=some _ from h)
  obtain ⟨aK,a7⟩:∃ f,f=Bo F p0 n:=⟨_,rfl⟩
  replace h:yu F p0 aK n11=some r:=a7 ▸ h
  unfold yu at h
  refine LH.seq (LH.aj [(1,.ag (ai.lv p0).cells),(3,.I n11),(47,.bool (decide (n11<(p0.bJ.size:Int))))] [] R (br R (sN (aw gY po xr R R R (sN (bh R po D3 (sX ((rW II R).ok) (sN (fy R R zS)))))))) (LH.cond (t:=(decide (n11<(p0.bJ.size:Int)))) R (fun gh=>?_) (fun gh=>?_)))
  ·replace h:=aB h gh
   refine LH.skip (au (LH.wk (aQ [(1,.ag (ai.lv p0).cells),(3,.I n11)] []) (LH.seq (LH.block ?_))))
   obtain ⟨IW,hv,h⟩:=ao h
   refine LH.aj [(1,.ag (ai.lv p0).cells),(3,.I n11),(61,.bool IW)] [] R ?_ ?_
   ·refine sN (aw gY po xr R R R (sN (bh R po D3 (br R ?_))))
    obtain ⟨Km,LJ,hv⟩:=ao hv
    refine sX ((wF II R R LJ).ok) (sN (fy R R (bM R ?_)))
    by_cases gf:(decide (Km<32))=true
    ·replace hv:=aB hv gf
     refine sF R R gf (sF R R gf (sF R R gf (sF R R gf (sF R R gf (sN (aZ (cB gf) (v:=(.bool _)) R ?_))))))
     obtain rfl:=oI hv
     exact zS
    ·replace gf:=bF gf
     replace hv:=aA hv gf
     refine sT R (cB gf) (aw gY po xr R R R (sT R (cB gf) (bh R po D3 (sT R (cB gf) (oM (v:=(.int _ _)) R ?_)))))
     obtain ⟨qj,ya,hv⟩:=ao hv
     refine Mx R (cB gf) ((wF II R R ya).ok) (sT R (cB gf) (jx R R (sN (aW (cB gf) (v:=(.bool _)) R ?_))))
     obtain rfl:=oI hv
     exact zS
   clear hv
   refine LH.cond (t:=IW) R (fun km=>?_) (fun km=>?_)
   ·replace h:=aB h km
    refine LH.aj [(2,.I 7)] [] R (bt R zS) (LH.ret (bD (aU (dW (bD (aU ?_))))))
    obtain rfl:=oI h
    exact aN (aT Tryz.results66) (bO R (bL ⟨aM mN,R,aX R,Sub.rfl⟩))
   replace h:=aA h km
   refine LH.skip (aY (au (LH.aS [(1,.ag (ai.lv p0).cells),(3,.I (i64 (n11+1)))] [] R (br R (sN (cI R R (bt R zS)))) ?_)))
   exact bl ⟨(i64 (n11+1)),a7 ▸ h,R,R⟩ (Wk.eq R R R R)
  replace h:=aA h gh
  refine LH.exit (cD (b6 (bP (au (LH.wk (aQ [(1,.ag (ai.lv p0).cells)] []) (LH.seq (LH.aj [(1,.ag (ai.lv p0).cells),(65,.bool ((p0.aH.length:Int) == 0))] [] R (sN (aw c8 db fF R R R (sN (bh R db iW (sN (bV (f:=aq.lv) gy R (sN (gr R R zS)))))))) (LH.cond (t:=((p0.aH.length:Int) == 0)) R (fun pJ=>?_) (fun pJ=>?_)))))))))
  ·replace h:=aB h pJ
   refine LH.aj [(2,.I 10)] [] R (bt R zS) (LH.ret (aU ?_))
   obtain rfl:=oI h
   exact aN (aT Tryz.results66) (bO R (bL ⟨aM mN,R,aX R,Sub.rfl⟩))
  replace h:=aA h pJ
  refine LH.skip (au (LH.wk (aQ [(1,.ag (ai.lv p0).cells)] []) (LH.seq (LH.aj [(1,.ag (ai.lv p0).cells),(4,.I 0)] [] R (bt R zS) (LH.block (LH.loop (fun n e m=>∃ (n20:Int),y9 F p0 n n20=some r∧e=Env.of [(1,.ag (ai.lv p0).cells),(4,.I n20)]∧m=Mem.of []) F ⟨0,h,R,R⟩ ?_))))))
  clear h
  rintro n e m ⟨n20,h,rfl,rfl⟩
  rcases n with _ | n
  · cases (show Option.none=some _ from h)
  obtain ⟨fv,eE⟩:∃ f,f=y9 F p0 n:=⟨_,rfl⟩
  replace h:yv F p0 fv n20=some r:=eE ▸ h
  unfold yv at h
  refine LH.seq (LH.aj [(1,.ag (ai.lv p0).cells),(4,.I n20),(70,.bool (decide (n20<(p0.aH.length:Int))))] [] R (br R (sN (aw c8 db fF R R R (sN (bh R db iW (sN (bV (f:=aq.lv) gy R (sN (fy R R zS))))))))) (LH.cond (t:=(decide (n20<(p0.aH.length:Int)))) R (fun oQ=>?_) (fun oQ=>?_)))
  ·replace h:=aB h oQ
   refine LH.skip (au (LH.wk (aQ [(1,.ag (ai.lv p0).cells),(4,.I n20)] []) (LH.seq (LH.block ?_))))
   obtain ⟨Kn,H8,h⟩:=ao h
   obtain ⟨rY,Ln,h⟩:=ao h
   refine LH.aj [(1,.ag (ai.lv p0).cells),(4,.I n20),(79,.bool (!rY))] [] R (sN (aw c8 db fF R R R (sN (bh R db iW (br R (sN (eM (f:=aq.lv) gy eu dN R R aq.ok H8 R (sN (bc R eu iY dN R R (sN (ej (args:=[aq.lv Kn]) R Pv R (aI bm) (Qc Ln) R (sN (ic R zS))))))))))))) (LH.cond (t:=(!rY)) R (fun uA=>?_) (fun uA=>?_))
   ·replace h:=aB h uA
    refine LH.aj [(2,.I 1)] [] R (bt R zS) (LH.ret (bD (aU (dW (bD (aU ?_))))))
    obtain rfl:=oI h
    exact aN (aT Tryz.results66) (bO R (bL ⟨aM mN,R,aX R,Sub.rfl⟩))
   replace h:=aA h uA
   refine LH.skip (aY (au (LH.aS [(1,.ag (ai.lv p0).cells),(4,.I (i64 (n20+1)))] [] R (br R (sN (cI R R (bt R zS)))) ?_)))
   exact bl ⟨(i64 (n20+1)),eE ▸ h,R,R⟩ (Wk.eq R R R R)
  replace h:=aA h oQ
  refine LH.exit (cD (b6 (bP (au (LH.wk (aQ [(1,.ag (ai.lv p0).cells)] []) (LH.seq (LH.aj [(1,.ag (ai.lv p0).cells),(5,.I 0)] [] R (bt R zS) (LH.block (LH.loop (fun n e m=>∃ (n25:Int),za p0 n n25=some r∧e=Env.of [(1,.ag (ai.lv p0).cells),(5,.I n25)]∧m=Mem.of []) F ⟨0,h,R,R⟩ ?_)))))))))
  clear h
  rintro n e m ⟨n25,h,rfl,rfl⟩
  rcases n with _ | n
  · cases (show Option.none=some _ from h)
  obtain ⟨o9,mZ⟩:∃ f,f=za p0 n:=⟨_,rfl⟩
  replace h:yw p0 o9 n25=some r:=mZ ▸ h
  unfold yw at h
  refine LH.seq (LH.aj [(1,.ag (ai.lv p0).cells),(5,.I n25),(84,.bool (decide (n25<(p0.aF.length:Int))))] [] R (br R (sN (aw fx eT jz R R R (sN (bh R eT mI (sN (bV (f:=LV.I) cJ R (sN (fy R R zS))))))))) (LH.cond (t:=(decide (n25<(p0.aF.length:Int)))) R (fun AA=>?_) (fun AA=>?_)))
  ·replace h:=aB h AA
   refine LH.skip (au (LH.wk (aQ [(1,.ag (ai.lv p0).cells),(5,.I n25)] []) (LH.seq (LH.block ?_))))
   obtain ⟨RL,hv,h⟩:=ao h
   refine LH.cO mixed [] [0,0,0,0,0,0,0,0,0,0,0,0,0,0,0,0,0,0,0,0,0,0,0,0,0,0,0,0,0,0,0,0,0,0,0,0,0,0,0,0,0,0] [(1,.ag (ai.lv p0).cells),(5,.I n25),(128,.bool RL)] [] R R (by kernel_rfl) ?_ ?_
   ·refine aD (aw fx eT jz R R R ⟨R,aD (bh R eT mI ⟨R,fC R ?_⟩)⟩)
    obtain ⟨Na,LO,hv⟩:=ao hv
    refine aD (eM (f:=LV.I) cJ aE bb R R mu LO R ⟨R,aD (bh R aE bN ⟨R,aD (fy R R ⟨R,iQ R ?_⟩)⟩)⟩)
    by_cases mA:(decide (Na<0))=true
    ·replace hv:=aB hv mA
     refine mF R R mA (mF R R mA (mF R R mA (mF R R mA (mF R R mA (mF R R mA (aD (aZ (cB mA) (v:=(.bool _)) R ⟨R,iQ R (mF R R R (mF R R R (mF R R R (mF R R R (mF R R R (mF R R R (mF R R R (mF R R R (aD (aZ R (v:=(.bool _)) R ⟨R,iQ R (mF R R R (mF R R R (mF R R R (mU R R (mU R R (mU R R (mU R R (mU R R (mU R R (mU R R (mU R R (mU R R (mU R R (mU R R (mU R R (mF R R R (aD (aZ R (v:=(.bool _)) R ⟨R,?_⟩))))))))))))))))))⟩))))))))))⟩)))))))
     obtain rfl:=oI hv
     exact zM
    ·replace mA:=bF mA
     replace hv:=aA hv mA
     refine mT R (cB mA) (aD (aw fx eT jz R R R ⟨R,mT R (cB mA) (aD (bh R eT mI ⟨R,mT R (cB mA) (fC R ?_)⟩))⟩))
     obtain ⟨Es,Ib,hv⟩:=ao hv
     refine mT R (cB mA) (aD (eM (f:=LV.I) cJ aE bb R R mu Ib R ⟨R,mT R (cB mA) (aD (bh R aE bN ⟨R,mT R (cB mA) (aD (jx R R ⟨R,aD (aW (cB mA) (v:=(.bool _)) R ⟨R,iQ R ?_⟩)⟩))⟩))⟩))
     by_cases kC:(decide (Es > 9999))=true
     ·replace hv:=aB hv kC
      refine mF R R kC (mF R R kC (mF R R kC (mF R R kC (mF R R kC (mF R R kC (mF R R kC (mF R R kC (aD (aZ (cB kC) (v:=(.bool _)) R ⟨R,iQ R (mF R R R (mF R R R (mF R R R (mU R R (mU R R (mU R R (mU R R (mU R R (mU R R (mU R R (mU R R (mU R R (mU R R (mU R R (mU R R (mF R R R (aD (aZ R (v:=(.bool _)) R ⟨R,?_⟩))))))))))))))))))⟩)))))))))
      obtain rfl:=oI hv
      exact zM
     ·replace kC:=bF kC
      replace hv:=aA hv kC
      refine mT R (cB kC) (aD (aw fx eT jz R R R ⟨R,mT R (cB kC) (aD (bh R eT mI ⟨R,mT R (cB kC) (fC R ?_)⟩))⟩))
      obtain ⟨Uf,TB,hv⟩:=ao hv
      refine mT R (cB kC) (aD (eM (f:=LV.I) cJ aE bb R R mu TB R ⟨R,mT R (cB kC) (aD (bh R aE bN ⟨R,mT R (cB kC) (aD (aw fb aE bb R R R ⟨R,mT R (cB kC) (aD (bh R aE bN ⟨R,mT R (cB kC) (aD (gr R R ⟨R,aD (aW (cB kC) (v:=(.bool _)) R ⟨R,iQ R ?_⟩)⟩))⟩))⟩))⟩))⟩))
      by_cases nY:(Uf == p0.ID)=true
      ·replace hv:=aB hv nY
       refine mF R R nY (mF R R nY (mF R R nY (mU R R (mU R R (mU R R (mU R R (mU R R (mU R R (mU R R (mU R R (mU R R (mU R R (mU R R (mU R R (mF R R nY (aD (aZ (cB nY) (v:=(.bool _)) R ⟨R,?_⟩)))))))))))))))))
       obtain rfl:=oI hv
       exact zM
      ·replace nY:=bF nY
       replace hv:=aA hv nY
       refine mT R (cB nY) (fC R (mT R (cB nY) (aD (jx R R ⟨R,mT R (cB nY) (iQ R ?_)⟩))))
       by_cases ia:(decide (n25 > 0))=true
       ·replace hv:=aB hv ia
        refine mT R (cB ia) (aD (aw fx eT jz R R R ⟨R,mT R (cB ia) (aD (bh R eT mI ⟨R,mT R (cB ia) (fC R (mT R (cB ia) (aD (iS R R ⟨R,?_⟩))))⟩))⟩))
        obtain ⟨Vk,TD,hv⟩:=ao hv
        refine mT R (cB ia) (aD (eM (f:=LV.I) cJ aE bb R R mu TD R ⟨R,mT R (cB ia) (aD (bh R aE bN ⟨R,mT R (cB ia) (aD (aw fx eT jz R R R ⟨R,mT R (cB ia) (aD (bh R eT mI ⟨R,mT R (cB ia) (fC R ?_)⟩))⟩))⟩))⟩))
        obtain ⟨Vl,TE,hv⟩:=ao hv
        refine mT R (cB ia) (aD (eM (f:=LV.I) cJ aE bb R R mu TE R ⟨R,mT R (cB ia) (aD (bh R aE bN ⟨R,mT R (cB ia) (aD (pW R R ⟨R,mT R (cB nY) (aD (aZ (cB ia) (v:=(.bool _)) R ⟨R,aD (aW (cB nY) (v:=(.bool _)) R ⟨R,?_⟩)⟩))⟩))⟩))⟩))
        obtain rfl:=oI hv
        exact zM
       ·replace ia:=bF ia
        replace hv:=aA hv ia
        refine mF R R ia (mF R R ia (mF R R ia (mF R R ia (mF R R ia (mF R R ia (mF R R ia (mF R R ia (mF R R ia (mF R R ia (mF R R ia (mF R R ia (mT R (cB nY) (aD (aW (cB ia) (v:=(.bool _)) R ⟨R,aD (aW (cB nY) (v:=(.bool _)) R ⟨R,?_⟩)⟩))))))))))))))
        obtain rfl:=oI hv
        exact zM
   clear hv
   refine LH.cond (t:=RL) R (fun AB=>?_) (fun AB=>?_)
   ·replace h:=aB h AB
    refine LH.aj [(2,.I 9)] [] R (bt R zS) (LH.ret (bD (aU (dW (bD (aU ?_))))))
    obtain rfl:=oI h
    exact aN (aT Tryz.results66) (bO R (bL ⟨aM mN,R,aX R,Sub.rfl⟩))
   replace h:=aA h AB
   refine LH.skip (aY (au (LH.aS [(1,.ag (ai.lv p0).cells),(5,.I (i64 (n25+1)))] [] R (br R (sN (cI R R (bt R zS)))) ?_)))
   exact bl ⟨(i64 (n25+1)),mZ ▸ h,R,R⟩ (Wk.eq R R R R)
  replace h:=aA h AA
  refine LH.exit (cD (b6 (bP (au (LH.aj [(2,.I 0)] [] R (bt R zS) (LH.ret ?_))))))
  obtain rfl:=oI h
  exact aN (aT Tryz.results66) (bO R (bL ⟨aM mN,R,aX R,Sub.rfl⟩))
set_option maxHeartbeats 4000000 in
theorem Qw {F:Nat} {p0:aG} {r:Bool} (h:yX F p0=some r):aO Tryz.prog 38 [.agg [.al 5 (p0.aa.map ak.lv)]] (Mem.of []) (.bool r) (Mem.of []):=by
  unfold yX at h
  refine bx Tryz.func38 R (nT Tryz.ntmps38 R) (LH.wk (aQ [(0,.agg [.al 5 (p0.aa.map ak.lv)])] []) (LH.aj [(1,.ag [.al 5 (p0.aa.map ak.lv)])] [] R (sB (de R R R R (ct R zS))) (LH.seq (LH.aj [(1,.ag [.al 5 (p0.aa.map ak.lv)]),(10,.bool (decide ((p0.aa.length:Int) > 40)))] [] R (sN (aw bX bZ dq R R R (sN (bh R bZ e8 (sN (bV (f:=ak.lv) dE R (sN (jx R R zS)))))))) (LH.cond (t:=(decide ((p0.aa.length:Int) > 40))) R (fun jc=>?_) (fun jc=>?_))))))
  ·replace h:=aB h jc
   refine LH.aj [(2,.bool false)] [] R (ct R zS) (LH.ret (aU ?_))
   obtain rfl:=oI h
   exact aN (aT Tryz.results38) (bO R (bL ⟨aM mN,R,aX R,Sub.rfl⟩))
  replace h:=aA h jc
  refine LH.skip (au (LH.wk (aQ [(1,.ag [.al 5 (p0.aa.map ak.lv)])] []) (LH.seq (LH.aj [(1,.ag [.al 5 (p0.aa.map ak.lv)]),(3,.I 0)] [] R (bt R zS) (LH.block (LH.loop (fun n e m=>∃ (n2:Int),Cy F p0 n n2=some r∧e=Env.of [(1,.ag [.al 5 (p0.aa.map ak.lv)]),(3,.I n2)]∧m=Mem.of []) F ⟨0,h,R,R⟩ ?_))))))
  clear h
  rintro n e m ⟨n2,h,rfl,rfl⟩
  rcases n with _ | n
  · cases (show Option.none=some _ from h)
  obtain ⟨aK,a7⟩:∃ f,f=Cy F p0 n:=⟨_,rfl⟩
  replace h:yx F p0 aK n2=some r:=a7 ▸ h
  unfold yx at h
  refine LH.seq (LH.aj [(1,.ag [.al 5 (p0.aa.map ak.lv)]),(3,.I n2),(15,.bool (decide (n2<(p0.aa.length:Int))))] [] R (br R (sN (aw bX bZ dq R R R (sN (bh R bZ e8 (sN (bV (f:=ak.lv) dE R (sN (fy R R zS))))))))) (LH.cond (t:=(decide (n2<(p0.aa.length:Int)))) R (fun ix=>?_) (fun ix=>?_)))
  ·replace h:=aB h ix
   refine LH.skip (au (LH.wk (aQ [(1,.ag [.al 5 (p0.aa.map ak.lv)]),(3,.I n2)] []) (LH.seq (LH.block ?_))))
   obtain ⟨x4,AW,h⟩:=ao h
   refine LH.aj [(1,.ag [.al 5 (p0.aa.map ak.lv)]),(3,.I n2),(4,.ag (ak.lv x4).cells)] [] R (sN (aw bX bZ dq R R R (sN (bh R bZ e8 (br R (sN (eM (f:=ak.lv) dE cT cz R R ak.ok AW R (sN (bc R cT il cz R R (sN (j0 (id:=104) R qH R R (s_ (cF R R R cT cz R R R (s0 ((Wk.trans (aQ [(1,.ag [.al 5 (p0.aa.map ak.lv)]),(3,.I n2),(4,.ptr 104 0)] [(104,.box (ak.lv x4).cells)]) (Wk.trans (Wk.bk 104 (ak.lv x4).cells R R R (bH R)) (Wk.eq R R R R)))))))))))))))))) (LH.seq ?_)
   obtain ⟨w6,hv,h⟩:=ao h
   refine LH.cO mixed [] [0,0,0,0,0,0,0,0,0,0,0,0,0,0,0,0,0,0,0,0,0,0,0,0,0,0,0,0,0,0,0,0,0,0,0,0,0,0,0,0,0] [(1,.ag [.al 5 (p0.aa.map ak.lv)]),(3,.I n2),(4,.ag (ak.lv x4).cells),(63,.bool w6)] [] R R (by kernel_rfl) ?_ ?_
   ·refine fC R (aD (jx R R ⟨R,iQ R ?_⟩))
    by_cases ca:(decide (n2 > 0))=true
    ·replace hv:=aB hv ca
     refine mT R (cB ca) (aD (aw bX bZ dq R R R ⟨R,mT R (cB ca) (aD (bh R bZ e8 ⟨R,mT R (cB ca) (fC R (mT R (cB ca) (aD (iS R R ⟨R,?_⟩))))⟩))⟩))
     obtain ⟨x8,uD,hv⟩:=ao hv
     refine mT R (cB ca) (aD (eM (f:=ak.lv) dE cT cz R R ak.ok uD R ⟨R,mT R (cB ca) (aD (aw fO aE bb R R R ⟨R,mT R (cB ca) (aD (bh R aE bN ⟨R,mT R (cB ca) (aD (aw fO aE bb R R R ⟨R,mT R (cB ca) (aD (bh R aE bN ⟨R,mT R (cB ca) (aD (pW R R ⟨R,aD (aZ (cB ca) (v:=(.bool _)) R ⟨R,iQ R ?_⟩)⟩))⟩))⟩))⟩))⟩))⟩))
     by_cases cW:(decide (x8.ID ≥ x4.ID))=true
     ·replace hv:=aB hv cW
      refine mF R R cW (mF R R cW (mF R R cW (mF R R cW (aD (aZ (cB cW) (v:=(.bool _)) R ⟨R,iQ R (mF R R R (mF R R R (mF R R R (mF R R R (aD (aZ R (v:=(.bool _)) R ⟨R,iQ R (mF R R R (mF R R R (mF R R R (mF R R R (mF R R R (mF R R R (mF R R R (aD (aZ R (v:=(.bool _)) R ⟨R,iQ R (mF R R R (mF R R R (mF R R R (mF R R R (aD (aZ R (v:=(.bool _)) R ⟨R,?_⟩))))))⟩)))))))))⟩))))))⟩)))))
      obtain rfl:=oI hv
      exact zM
     ·replace cW:=bF cW
      replace hv:=aA hv cW
      refine mT R (cB cW) (aD (aw cZ c7 fE R R R ⟨R,mT R (cB cW) (aD (bh R c7 ij ⟨R,mT R (cB cW) (aD (bV (f:=ai.lv) fw R ⟨R,mT R (cB cW) (aD (fy R R ⟨R,aD (aW (cB cW) (v:=(.bool _)) R ⟨R,iQ R ?_⟩)⟩))⟩))⟩))⟩))
      by_cases bC:(decide ((x4.ab.length:Int)<1))=true
      ·replace hv:=aB hv bC
       refine mF R R bC (mF R R bC (mF R R bC (mF R R bC (aD (aZ (cB bC) (v:=(.bool _)) R ⟨R,iQ R (mF R R R (mF R R R (mF R R R (mF R R R (mF R R R (mF R R R (mF R R R (aD (aZ R (v:=(.bool _)) R ⟨R,iQ R (mF R R R (mF R R R (mF R R R (mF R R R (aD (aZ R (v:=(.bool _)) R ⟨R,?_⟩))))))⟩)))))))))⟩)))))
       obtain rfl:=oI hv
       exact zM
      ·replace bC:=bF bC
       replace hv:=aA hv bC
       refine mT R (cB bC) (aD (aw cZ c7 fE R R R ⟨R,mT R (cB bC) (aD (bh R c7 ij ⟨R,mT R (cB bC) (aD (bV (f:=ai.lv) fw R ⟨R,mT R (cB bC) (aD (jx R R ⟨R,aD (aW (cB bC) (v:=(.bool _)) R ⟨R,iQ R ?_⟩)⟩))⟩))⟩))⟩))
       by_cases eV:(decide ((x4.ab.length:Int) > 8))=true
       ·replace hv:=aB hv eV
        refine mF R R eV (mF R R eV (mF R R eV (mF R R eV (mF R R eV (mF R R eV (mF R R eV (aD (aZ (cB eV) (v:=(.bool _)) R ⟨R,iQ R (mF R R R (mF R R R (mF R R R (mF R R R (aD (aZ R (v:=(.bool _)) R ⟨R,?_⟩))))))⟩))))))))
        obtain rfl:=oI hv
        exact zM
       ·replace eV:=bF eV
        replace hv:=aA hv eV
        refine mT R (cB eV) (aD (aw dJ dZ gN R R R ⟨R,mT R (cB eV) (aD (bh R dZ lM ⟨R,mT R (cB eV) (aD (bV (f:=LV.bool) jy R ⟨R,mT R (cB eV) (aD (aw cZ c7 fE R R R ⟨R,mT R (cB eV) (aD (bh R c7 ij ⟨R,mT R (cB eV) (aD (bV (f:=ai.lv) fw R ⟨R,mT R (cB eV) (aD (iR R R ⟨R,aD (aW (cB eV) (v:=(.bool _)) R ⟨R,iQ R ?_⟩)⟩))⟩))⟩))⟩))⟩))⟩))⟩))
        by_cases dt:((x4.ah.length:Int) != (x4.ab.length:Int))=true
        ·replace hv:=aB hv dt
         refine mF R R dt (mF R R dt (mF R R dt (mF R R dt (aD (aZ (cB dt) (v:=(.bool _)) R ⟨R,?_⟩)))))
         obtain rfl:=oI hv
         exact zM
        ·replace dt:=bF dt
         replace hv:=aA hv dt
         refine mT R (cB dt) (aD (aw dK dS gZ R R R ⟨R,mT R (cB dt) (aD (bh R dS kx ⟨R,mT R (cB dt) (aD (bV (f:=ay.lv) iZ R ⟨R,mT R (cB dt) (aD (jx R R ⟨R,aD (aW (cB dt) (v:=(.bool _)) R ⟨R,?_⟩)⟩))⟩))⟩))⟩))
         obtain rfl:=oI hv
         exact zM
    ·replace ca:=bF ca
     replace hv:=aA hv ca
     refine mF R R ca (mF R R ca (mF R R ca (mF R R ca (mF R R ca (mF R R ca (mF R R ca (mF R R ca (mF R R ca (mF R R ca (aD (aW (cB ca) (v:=(.bool _)) R ⟨R,iQ R (mT R R (aD (aw cZ c7 fE R R R ⟨R,mT R R (aD (bh R c7 ij ⟨R,mT R R (aD (bV (f:=ai.lv) fw R ⟨R,mT R R (aD (fy R R ⟨R,aD (aW R (v:=(.bool _)) R ⟨R,iQ R ?_⟩)⟩))⟩))⟩))⟩)))⟩)))))))))))
     by_cases bQ:(decide ((x4.ab.length:Int)<1))=true
     ·replace hv:=aB hv bQ
      refine mF R R bQ (mF R R bQ (mF R R bQ (mF R R bQ (aD (aZ (cB bQ) (v:=(.bool _)) R ⟨R,iQ R (mF R R R (mF R R R (mF R R R (mF R R R (mF R R R (mF R R R (mF R R R (aD (aZ R (v:=(.bool _)) R ⟨R,iQ R (mF R R R (mF R R R (mF R R R (mF R R R (aD (aZ R (v:=(.bool _)) R ⟨R,?_⟩))))))⟩)))))))))⟩)))))
      obtain rfl:=oI hv
      exact zM
     ·replace bQ:=bF bQ
      replace hv:=aA hv bQ
      refine mT R (cB bQ) (aD (aw cZ c7 fE R R R ⟨R,mT R (cB bQ) (aD (bh R c7 ij ⟨R,mT R (cB bQ) (aD (bV (f:=ai.lv) fw R ⟨R,mT R (cB bQ) (aD (jx R R ⟨R,aD (aW (cB bQ) (v:=(.bool _)) R ⟨R,iQ R ?_⟩)⟩))⟩))⟩))⟩))
      by_cases dn:(decide ((x4.ab.length:Int) > 8))=true
      ·replace hv:=aB hv dn
       refine mF R R dn (mF R R dn (mF R R dn (mF R R dn (mF R R dn (mF R R dn (mF R R dn (aD (aZ (cB dn) (v:=(.bool _)) R ⟨R,iQ R (mF R R R (mF R R R (mF R R R (mF R R R (aD (aZ R (v:=(.bool _)) R ⟨R,?_⟩))))))⟩))))))))
       obtain rfl:=oI hv
       exact zM
      ·replace dn:=bF dn
       replace hv:=aA hv dn
       refine mT R (cB dn) (aD (aw dJ dZ gN R R R ⟨R,mT R (cB dn) (aD (bh R dZ lM ⟨R,mT R (cB dn) (aD (bV (f:=LV.bool) jy R ⟨R,mT R (cB dn) (aD (aw cZ c7 fE R R R ⟨R,mT R (cB dn) (aD (bh R c7 ij ⟨R,mT R (cB dn) (aD (bV (f:=ai.lv) fw R ⟨R,mT R (cB dn) (aD (iR R R ⟨R,aD (aW (cB dn) (v:=(.bool _)) R ⟨R,iQ R ?_⟩)⟩))⟩))⟩))⟩))⟩))⟩))⟩))
       by_cases b4:((x4.ah.length:Int) != (x4.ab.length:Int))=true
       ·replace hv:=aB hv b4
        refine mF R R b4 (mF R R b4 (mF R R b4 (mF R R b4 (aD (aZ (cB b4) (v:=(.bool _)) R ⟨R,?_⟩)))))
        obtain rfl:=oI hv
        exact zM
       ·replace b4:=bF b4
        replace hv:=aA hv b4
        refine mT R (cB b4) (aD (aw dK dS gZ R R R ⟨R,mT R (cB b4) (aD (bh R dS kx ⟨R,mT R (cB b4) (aD (bV (f:=ay.lv) iZ R ⟨R,mT R (cB b4) (aD (jx R R ⟨R,aD (aW (cB b4) (v:=(.bool _)) R ⟨R,?_⟩)⟩))⟩))⟩))⟩))
        obtain rfl:=oI hv
        exact zM
   clear hv
   refine LH.cond (t:=w6) R (fun iM=>?_) (fun iM=>?_)
   ·replace h:=aB h iM
    refine LH.aj [(2,.bool false)] [] R (ct R zS) (LH.ret (aU (bD (aU (dW (bD (aU ?_)))))))
    obtain rfl:=oI h
    exact aN (aT Tryz.results38) (bO R (bL ⟨aM mN,R,aX R,Sub.rfl⟩))
   replace h:=aA h iM
   refine LH.skip (au (LH.wk (aQ [(1,.ag [.al 5 (p0.aa.map ak.lv)]),(3,.I n2),(4,.ag (ak.lv x4).cells)] []) (LH.seq (LH.aj [(1,.ag [.al 5 (p0.aa.map ak.lv)]),(3,.I n2),(4,.ag (ak.lv x4).cells),(5,.I 0)] [] R (bt R zS) (LH.block (LH.loop (fun n e m=>∃ (n17:Int),zb aK F n2 x4 n n17=some r∧e=Env.of [(1,.ag [.al 5 (p0.aa.map ak.lv)]),(3,.I n2),(4,.ag (ak.lv x4).cells),(5,.I n17)]∧m=Mem.of []) F ⟨0,h,R,R⟩ ?_))))))
   clear h
   rintro n e m ⟨n17,h,rfl,rfl⟩
   rcases n with _ | n
   · cases (show Option.none=some _ from h)
   obtain ⟨fv,eE⟩:∃ f,f=zb aK F n2 x4 n:=⟨_,rfl⟩
   replace h:yy aK F n2 x4 fv n17=some r:=eE ▸ h
   unfold yy at h
   refine LH.seq (LH.aj [(1,.ag [.al 5 (p0.aa.map ak.lv)]),(3,.I n2),(4,.ag (ak.lv x4).cells),(5,.I n17),(68,.bool (decide (n17<(x4.ab.length:Int))))] [] R (br R (sN (aw cZ c7 fE R R R (sN (bh R c7 ij (sN (bV (f:=ai.lv) fw R (sN (fy R R zS))))))))) (LH.cond (t:=(decide (n17<(x4.ab.length:Int)))) R (fun km=>?_) (fun km=>?_)))
   ·replace h:=aB h km
    refine LH.skip (au (LH.wk (aQ [(1,.ag [.al 5 (p0.aa.map ak.lv)]),(3,.I n2),(4,.ag (ak.lv x4).cells),(5,.I n17)] []) (LH.seq (LH.block ?_))))
    obtain ⟨RJ,hv,h⟩:=ao h
    refine LH.cO mixed [] [0,0,0,0,0,0,0,0,0,0,0,0,0,0,0,0,0,0,0,0,0,0,0,0,0,0,0,0,0] [(1,.ag [.al 5 (p0.aa.map ak.lv)]),(3,.I n2),(4,.ag (ak.lv x4).cells),(5,.I n17),(99,.bool RJ)] [] R R (by kernel_rfl) ?_ ?_
    ·refine aD (aw cZ c7 fE R R R ⟨R,aD (bh R c7 ij ⟨R,fC R ?_⟩)⟩)
     obtain ⟨xt,AV,hv⟩:=ao hv
     refine aD (eM (f:=ai.lv) fw cv cd R R ai.ok AV R ⟨R,aD (bc R cv eZ cd R R ⟨R,?_⟩)⟩)
     obtain ⟨j6,Fv,hv⟩:=ao hv
     refine aD (ej (args:=[ai.lv xt]) R FQ R (aI bm) (Gr Fv) R ⟨R,aD (iR R R ⟨R,iQ R ?_⟩)⟩)
     by_cases jV:(j6 != 0)=true
     ·replace hv:=aB hv jV
      refine mF R R jV (mF R R jV (mF R R jV (mF R R jV (mF R R jV (mF R R jV (mF R R jV (mF R R jV (mF R R jV (aD (aZ (cB jV) (v:=(.bool _)) R ⟨R,iQ R (mF R R R (mF R R R (mF R R R (mF R R R (mF R R R (mF R R R (mF R R R (mF R R R (mF R R R (aD (aZ R (v:=(.bool _)) R ⟨R,?_⟩)))))))))))⟩))))))))))
      obtain rfl:=oI hv
      exact zM
     ·replace jV:=bF jV
      replace hv:=aA hv jV
      refine mT R (cB jV) (aD (aw cZ c7 fE R R R ⟨R,mT R (cB jV) (aD (bh R c7 ij ⟨R,mT R (cB jV) (fC R ?_)⟩))⟩))
      obtain ⟨Ud,Tz,hv⟩:=ao hv
      refine mT R (cB jV) (aD (eM (f:=ai.lv) fw cv cd R R ai.ok Tz R ⟨R,mT R (cB jV) (aD (aw fb aE bb R R R ⟨R,mT R (cB jV) (aD (bh R aE bN ⟨R,mT R (cB jV) (aD (aw fO aE bb R R R ⟨R,mT R (cB jV) (aD (bh R aE bN ⟨R,mT R (cB jV) (aD (iR R R ⟨R,aD (aW (cB jV) (v:=(.bool _)) R ⟨R,iQ R ?_⟩)⟩))⟩))⟩))⟩))⟩))⟩))
      by_cases jW:(Ud.ID != x4.ID)=true
      ·replace hv:=aB hv jW
       refine mF R R jW (mF R R jW (mF R R jW (mF R R jW (mF R R jW (mF R R jW (mF R R jW (mF R R jW (mF R R jW (aD (aZ (cB jW) (v:=(.bool _)) R ⟨R,?_⟩))))))))))
       obtain rfl:=oI hv
       exact zM
      ·replace jW:=bF jW
       replace hv:=aA hv jW
       refine mT R (cB jW) (aD (aw cZ c7 fE R R R ⟨R,mT R (cB jW) (aD (bh R c7 ij ⟨R,mT R (cB jW) (fC R ?_)⟩))⟩))
       obtain ⟨MI,LN,hv⟩:=ao hv
       refine mT R (cB jW) (aD (eM (f:=ai.lv) fw cv cd R R ai.ok LN R ⟨R,mT R (cB jW) (aD (aw fP aE bb R R R ⟨R,mT R (cB jW) (aD (bh R aE bN ⟨R,mT R (cB jW) (fC R (mT R (cB jW) (aD (cI R R ⟨R,mT R (cB jW) (aD (iR R R ⟨R,aD (aW (cB jW) (v:=(.bool _)) R ⟨R,?_⟩)⟩))⟩))))⟩))⟩))⟩))
       obtain rfl:=oI hv
       exact zM
    clear hv
    refine LH.cond (t:=RJ) R (fun sP=>?_) (fun sP=>?_)
    ·replace h:=aB h sP
     refine LH.aj [(2,.bool false)] [] R (ct R zS) (LH.ret (bD (aU (dW (bD (aU (bD (aU (dW (bD (aU ?_)))))))))))
     obtain rfl:=oI h
     exact aN (aT Tryz.results38) (bO R (bL ⟨aM mN,R,aX R,Sub.rfl⟩))
    replace h:=aA h sP
    refine LH.skip (aY (au (LH.aS [(1,.ag [.al 5 (p0.aa.map ak.lv)]),(3,.I n2),(4,.ag (ak.lv x4).cells),(5,.I (i64 (n17+1)))] [] R (br R (sN (cI R R (bt R zS)))) ?_)))
    exact bl ⟨(i64 (n17+1)),eE ▸ h,R,R⟩ (Wk.eq R R R R)
   replace h:=aA h km
   refine LH.exit (cD (b6 (bP (au (LH.aj [(1,.ag [.al 5 (p0.aa.map ak.lv)]),(3,.I n2),(4,.ag (ak.lv x4).cells),(6,.I 0)] [] R (bt R zS) (LH.block (LH.loop (fun n e m=>∃ (n28:Int),zd aK n2 x4 n n28=some r∧e=Env.of [(1,.ag [.al 5 (p0.aa.map ak.lv)]),(3,.I n2),(4,.ag (ak.lv x4).cells),(6,.I n28)]∧m=Mem.of []) F ⟨0,h,R,R⟩ ?_)))))))
   clear h
   rintro n e m ⟨n28,h,rfl,rfl⟩
   rcases n with _ | n
   · cases (show Option.none=some _ from h)
   obtain ⟨o9,mZ⟩:∃ f,f=zd aK n2 x4 n:=⟨_,rfl⟩
   replace h:yz aK n2 x4 o9 n28=some r:=mZ ▸ h
   unfold yz at h
   refine LH.seq (LH.aj [(1,.ag [.al 5 (p0.aa.map ak.lv)]),(3,.I n2),(4,.ag (ak.lv x4).cells),(6,.I n28),(104,.bool (decide (n28<(x4.Uses.length:Int))))] [] R (br R (sN (aw dK dS gZ R R R (sN (bh R dS kx (sN (bV (f:=ay.lv) iZ R (sN (fy R R zS))))))))) (LH.cond (t:=(decide (n28<(x4.Uses.length:Int)))) R (fun C1=>?_) (fun C1=>?_)))
   ·replace h:=aB h C1
    refine LH.skip (au (LH.wk (aQ [(1,.ag [.al 5 (p0.aa.map ak.lv)]),(3,.I n2),(4,.ag (ak.lv x4).cells),(6,.I n28)] []) (LH.seq (LH.block ?_))))
    obtain ⟨RM,hv,h⟩:=ao h
    refine LH.cO mixed [] [0,0,0,0,0,0,0,0,0,0,0,0,0,0,0,0,0,0,0] [(1,.ag [.al 5 (p0.aa.map ak.lv)]),(3,.I n2),(4,.ag (ak.lv x4).cells),(6,.I n28),(125,.bool RM)] [] R R (by kernel_rfl) ?_ ?_
    ·refine aD (aw dK dS gZ R R R ⟨R,aD (bh R dS kx ⟨R,fC R ?_⟩)⟩)
     obtain ⟨Ue,TA,hv⟩:=ao hv
     refine aD (eM (f:=ay.lv) iZ rN l0 R R ay.ok TA R ⟨R,aD (aw pg aE bb R R R ⟨R,aD (bh R aE bN ⟨R,aD (fy R R ⟨R,iQ R ?_⟩)⟩)⟩)⟩)
     by_cases jo:(decide (Ue.Version<1))=true
     ·replace hv:=aB hv jo
      refine mF R R jo (mF R R jo (mF R R jo (mF R R jo (mF R R jo (mF R R jo (mF R R jo (mF R R jo (mF R R jo (mF R R jo (aD (aZ (cB jo) (v:=(.bool _)) R ⟨R,?_⟩)))))))))))
      obtain rfl:=oI hv
      exact zM
     ·replace jo:=bF jo
      replace hv:=aA hv jo
      refine mT R (cB jo) (aD (aw dK dS gZ R R R ⟨R,mT R (cB jo) (aD (bh R dS kx ⟨R,mT R (cB jo) (fC R ?_)⟩))⟩))
      obtain ⟨Vj,TC,hv⟩:=ao hv
      refine mT R (cB jo) (aD (eM (f:=ay.lv) iZ rN l0 R R ay.ok TC R ⟨R,mT R (cB jo) (aD (aw pg aE bb R R R ⟨R,mT R (cB jo) (aD (bh R aE bN ⟨R,mT R (cB jo) (aD (aw cZ c7 fE R R R ⟨R,mT R (cB jo) (aD (bh R c7 ij ⟨R,mT R (cB jo) (aD (bV (f:=ai.lv) fw R ⟨R,mT R (cB jo) (aD (jx R R ⟨R,aD (aW (cB jo) (v:=(.bool _)) R ⟨R,?_⟩)⟩))⟩))⟩))⟩))⟩))⟩))⟩))
      obtain rfl:=oI hv
      exact zM
    clear hv
    refine LH.cond (t:=RM) R (fun C2=>?_) (fun C2=>?_)
    ·replace h:=aB h C2
     refine LH.aj [(2,.bool false)] [] R (ct R zS) (LH.ret (bD (aU (dW (bD (bD (aU (dW (bD (aU ?_))))))))))
     obtain rfl:=oI h
     exact aN (aT Tryz.results38) (bO R (bL ⟨aM mN,R,aX R,Sub.rfl⟩))
    replace h:=aA h C2
    refine LH.skip (aY (au (LH.aS [(1,.ag [.al 5 (p0.aa.map ak.lv)]),(3,.I n2),(4,.ag (ak.lv x4).cells),(6,.I (i64 (n28+1)))] [] R (br R (sN (cI R R (bt R zS)))) ?_)))
    exact bl ⟨(i64 (n28+1)),mZ ▸ h,R,R⟩ (Wk.eq R R R R)
   replace h:=aA h C1
   refine LH.exit (cD (b6 (bP (aY (au (LH.aS [(1,.ag [.al 5 (p0.aa.map ak.lv)]),(3,.I (i64 (n2+1)))] [] R (br R (sN (cI R R (bt R zS)))) ?_))))))
   exact bl ⟨(i64 (n2+1)),a7 ▸ h,R,R⟩ (Wk.eq R R R R)
  replace h:=aA h ix
  refine LH.exit (cD (b6 (bP (au (LH.aj [(2,.bool true)] [] R (ct R zS) (LH.ret ?_))))))
  obtain rfl:=oI h
  exact aN (aT Tryz.results38) (bO R (bL ⟨aM mN,R,aX R,Sub.rfl⟩))
end Go.Proofs.YtmollikhdbaikaaGreat
