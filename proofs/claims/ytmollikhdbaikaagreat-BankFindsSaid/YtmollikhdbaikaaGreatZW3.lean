import Derived.Test.YtmollikhdbaikaaGreatZW2
set_option linter.unusedVariables false
set_option linter.unusedSimpArgs false
set_option maxRecDepth 100000
set_option maxHeartbeats 1000000
namespace Go.Proofs.YtmollikhdbaikaaGreat
open Go.L Go.Sh
set_option maxHeartbeats 4000000 in
theorem Qe {F:Nat} {p0:List ax} {p1:Int} {r:aK × List cj × Int} (h:k7 F p0 p1=some r):aM Tryz.prog 10 [.ak 12 (p0.map ax.lv),.I p1] (Mem.of []) (.cX [.agg [.ak 5 (r.1.aa.map al.lv)],.ak 3 (r.2.1.map cj.lv),.I r.2.2]) (Mem.of []):=by
  unfold k7 at h
  refine br Tryz.func10 R (nT Tryz.ntmps10 R) (LH.wk (aS [(0,.ak 12 (p0.map ax.lv)),(1,.I p1)] []) (LH.aj [(0,.ak 12 (p0.map ax.lv)),(1,.I p1),(4,.ptr 104 0)] [(104,.box [.nil])] R (sN (iE (id:=104) R fM R R (kX R (bo R zS)))) ?_))
  obtain ⟨r1,ee,h⟩:=ao h
  refine LH.aj [(1,.I p1),(4,.ptr 104 0),(7,.ak 12 (r1.1.map ax.lv)),(8,.I r1.2)] [(104,.box [.nil])] R (fp R (sN (dQ (args:=[.ak 12 (p0.map ax.lv)]) R Oo R (aH bn) (PJ ee) R (rR R (sN (gy R R (sN (gy R R (qR R (bo R zS)))))))))) (LH.seq (LH.aj [(1,.I p1),(4,.ptr 104 0),(7,.ak 12 (r1.1.map ax.lv)),(8,.I r1.2),(23,.bool (r1.2 != 0))] [(104,.box [.nil])] R (bj R (sN (jR R R zS))) (LH.cond (t:=(r1.2 != 0)) R (fun eZ=>?_) (fun eZ=>?_))))
  ·replace h:=aB h eZ
   refine LH.aj [(4,.ag [.nil]),(5,.nil),(6,.I r1.2)] [] R (sN (fU (vs:=[]) ly fM R fT (bj R (s_ (cG R R R bw bx R R R (kX R (bo R (s0 ((Wk.trans (aS [(4,.ptr 104 0),(5,.nil),(6,.I r1.2)] [(104,.box [.nil])]) (Wk.trans (Wk.bg 104 [.nil] R R R (bM R)) (Wk.eq R R R R)))))))))))) (LH.ret (aW ?_))
   obtain rfl:=oI h
   exact aO (aT Tryz.results10) (cT R bw cF bx R R (bU R (bU R (bS ⟨aN mN,R,aZ R,(Sub.cX (o7 (Sub.agg (oV bn)) (oV (aH bn))))⟩))))
  replace h:=aA h eZ
  refine LH.skip (au (LH.aj [(1,.I p1),(4,.ptr 104 0),(7,.ak 12 (r1.1.map ax.lv)),(9,.ptr 811 0)] [(104,.box [.nil]),(811,.box [.arr 812 (List.length ([]:List al))]),(812,du (List.map al.lv ([]:List al)))] R (sX (LG 711 R fM R R) (s0 ((Wk.trans (aS [(1,.I p1),(4,.ptr 104 0),(7,.ak 12 (r1.1.map ax.lv)),(9,.ptr 811 0)] [(104,.box [.nil]),(811,.box [.nil])]) (Wk.trans (aS [(1,.I p1),(4,.ptr 104 0),(7,.ak 12 (r1.1.map ax.lv)),(9,.ptr 811 0)] [(104,.box [.nil]),(811,.box [.nil])]) (Wk.trans (Wk.LW 812 49 5 [(1,54,5),(2,4,1),(3,88,3)] 811 0 R R R R R (bM R)) (Wk.eq R R R R))))))) (LH.aj [(1,.I p1),(4,.ptr 104 0),(7,.ak 12 (r1.1.map ax.lv)),(9,.ptr 811 0),(10,.nil)] [(104,.box [.nil]),(811,.box [.arr 812 (List.length ([]:List al))]),(812,du (List.map al.lv ([]:List al)))] R (kX R zS) (LH.aj [(1,.I p1),(4,.ptr 104 0),(7,.ak 12 (r1.1.map ax.lv)),(9,.ptr 811 0),(10,.nil),(11,.mp 10301)] [(104,.box [.nil]),(811,.box [.arr 812 (List.length ([]:List al))]),(812,du (List.map al.lv ([]:List al))),(10301,.map 3 78 (ec LV.I bL bm))] R (sN (eX (args:=[]) (ml:=[]) (de:=[(10301,.map 3 78 (ec LV.I bL bm))]) R Oq R bn (PR (F:=F) (r:=bm) R) mN (AK R cz) R (sN (oA (v:=(.mp _)) R zS)))) (LH.seq (LH.aj [(1,.I p1),(4,.ptr 104 0),(9,.ptr 811 0),(10,.nil),(11,.mp 10301),(27,.ak 12 (r1.1.map ax.lv)),(28,.I (r1.1.length:Int)),(29,.I 0)] [(104,.box [.nil]),(811,.box [.arr 812 (List.length ([]:List al))]),(812,du (List.map al.lv ([]:List al))),(10301,.map 3 78 (ec LV.I bL bm))] R (fp R (sN (bW (f:=ax.lv) gA R (bj R zS)))) (LH.block (LH.wk ((Wk.trans (aS [(1,.I p1),(4,.ptr 104 0),(9,.ptr 811 0),(10,.nil),(11,.mp 10301),(27,.ak 12 (r1.1.map ax.lv)),(28,.I (r1.1.length:Int)),(29,.I 0)] [(104,.box [.nil]),(811,.box [.arr 812 (List.length ([]:List al))]),(812,du (List.map al.lv ([]:List al))),(10301,.map 3 78 (ec LV.I bL bm))]) (Wk.trans (aS [(1,.I p1),(4,.ptr 104 0),(9,.ptr 811 0),(10,.nil),(11,.mp 10301),(27,.ak 12 (r1.1.map ax.lv)),(28,.I (r1.1.length:Int)),(29,.I 0)] [(104,.box [.nil]),(811,.box [.arr 812 (List.length ([]:List al))]),(812,du (List.map al.lv ([]:List al))),(10301,.map 3 78 (ec LV.I bL bm))]) (Wk.trans (Wk.tt (fy:=[(1,.I p1),(4,.ptr 104 0),(9,.ptr 811 0),(10,.arr 162 (List.length ([]:List cj))),(11,.mp 10301),(27,.ak 12 (r1.1.map ax.lv)),(28,.I (r1.1.length:Int)),(29,.I 0)]) 162 84 3 R R (wK (wK (wK (wO (wK (wK (wK (wK wN))))))))) (aS [(1,.I p1),(4,.ptr 104 0),(9,.ptr 811 0),(10,.arr 162 (List.length ([]:List cj))),(11,.mp 10301),(27,.ak 12 (r1.1.map ax.lv)),(28,.I (r1.1.length:Int)),(29,.I 0)] [(104,.box [.nil]),(162,.arr 84 3 (List.map cj.lv ([]:List cj))),(811,.box [.arr 812 (List.length ([]:List al))]),(812,du (List.map al.lv ([]:List al))),(10301,.map 3 78 (ec LV.I bL bm))]))))) (LH.loop (fun n e m=>∃ (n3:Int) (l4:List cj) (l5:List al),wv F p1 r1 n n3 l4 l5=some r∧e=Env.of [(1,.I p1),(4,.ptr 104 0),(9,.ptr 811 0),(10,.arr 162 l4.length),(11,.mp 10301),(27,.ak 12 (r1.1.map ax.lv)),(28,.I (r1.1.length:Int)),(29,.I n3)]∧m=Mem.of [(104,.box [.nil]),(162,.arr 84 3 (l4.map cj.lv)),(811,.box [.arr 812 l5.length]),(812,du (l5.map al.lv)),(10301,.map 3 78 (ec LV.I bL bm))]) F ⟨0,([]:List cj),([]:List al),h,R,R⟩ ?_)))))))))
  clear h
  rintro n e m ⟨n3,l4,l5,h,rfl,rfl⟩
  rcases n with _ | n
  · cases (show Option.none=some _ from h)
  obtain ⟨aJ,a7⟩:∃ f,f=wv F p1 r1 n:=⟨_,rfl⟩
  replace h:yr F p1 r1 aJ n3 l4 l5=some r:=a7 ▸ h
  unfold yr at h
  refine LH.aj [(1,.I p1),(4,.ptr 104 0),(9,.ptr 811 0),(10,.arr 162 l4.length),(11,.mp 10301),(27,.ak 12 (r1.1.map ax.lv)),(28,.I (r1.1.length:Int)),(29,.I n3),(30,.bool (decide (n3<(r1.1.length:Int))))] [(104,.box [.nil]),(162,.arr 84 3 (l4.map cj.lv)),(811,.box [.arr 812 l5.length]),(812,du (l5.map al.lv)),(10301,.map 3 78 (ec LV.I bL bm))] R (sN (fi R R zS)) (LH.seq (LH.cond (t:=(decide (n3<(r1.1.length:Int)))) R (fun fP=>?_) (fun fP=>?_)))
  ·replace h:=aB h fP
   refine LH.skip (au (LH.wk (aS [(1,.I p1),(4,.ptr 104 0),(9,.ptr 811 0),(10,.arr 162 l4.length),(11,.mp 10301),(27,.ak 12 (r1.1.map ax.lv)),(28,.I (r1.1.length:Int)),(29,.I n3)] [(104,.box [.nil]),(162,.arr 84 3 (l4.map cj.lv)),(811,.box [.arr 812 l5.length]),(812,du (l5.map al.lv)),(10301,.map 3 78 (ec LV.I bL bm))]) (LH.seq (LH.block ?_))))
   obtain ⟨x7,AF,h⟩:=ao h
   refine LH.aj [(1,.I p1),(4,.ptr 104 0),(9,.ptr 811 0),(10,.arr 162 l4.length),(11,.mp 10301),(13,.ag (ax.lv x7).cells),(27,.ak 12 (r1.1.map ax.lv)),(28,.I (r1.1.length:Int)),(29,.I n3)] [(104,.box [.nil]),(162,.arr 84 3 (l4.map cj.lv)),(811,.box [.arr 812 l5.length]),(812,du (l5.map al.lv)),(10301,.map 3 78 (ec LV.I bL bm))] R (sN (eG (f:=ax.lv) gA fB eA R R ax.ok AF R (sN (bd R fB mq eA R R (sN (iE (id:=113) R zn R R (s_ (cG R R R fB eA R R R (s0 ((Wk.trans (aS [(1,.I p1),(4,.ptr 104 0),(9,.ptr 811 0),(10,.arr 162 l4.length),(11,.mp 10301),(13,.ptr 113 0),(27,.ak 12 (r1.1.map ax.lv)),(28,.I (r1.1.length:Int)),(29,.I n3)] [(104,.box [.nil]),(113,.box (ax.lv x7).cells),(162,.arr 84 3 (l4.map cj.lv)),(811,.box [.arr 812 l5.length]),(812,du (l5.map al.lv)),(10301,.map 3 78 (ec LV.I bL bm))]) (Wk.trans (Wk.bg 113 (ax.lv x7).cells R R R (bM R)) (Wk.eq R R R R))))))))))))) (LH.seq (LH.aj [(1,.I p1),(4,.ptr 104 0),(9,.ptr 811 0),(10,.arr 162 l4.length),(11,.mp 10301),(13,.ag (ax.lv x7).cells),(27,.ak 12 (r1.1.map ax.lv)),(28,.I (r1.1.length:Int)),(29,.I n3),(37,.bool (decide (x7.ar.Time > p1)))] [(104,.box [.nil]),(162,.arr 84 3 (l4.map cj.lv)),(811,.box [.arr 812 l5.length]),(812,du (l5.map al.lv)),(10301,.map 3 78 (ec LV.I bL bm))] R (sN (aw dh cg b7 R R R (sN (aw fa aD ba R R R (sN (bb R aD bQ (bj R (sN (iP R R zS))))))))) (LH.cond (t:=(decide (x7.ar.Time > p1))) R (fun kS=>?_) (fun kS=>?_))))
   ·replace h:=aB h kS
    refine LH.exit (cw (zU R (cw (bY (bO (au (LH.wk ((Wk.trans (aS [(4,.ptr 104 0),(9,.ptr 811 0),(10,.arr 162 l4.length)] [(104,.box [.nil]),(162,.arr 84 3 (l4.map cj.lv)),(811,.box [.arr 812 l5.length]),(812,du (l5.map al.lv))]) (Wk.trans (Wk.lk (f:=cj.lv) (fy:=[(4,.ptr 104 0),(9,.ptr 811 0),(10,.ak 3 (l4.map cj.lv))]) 162 84 3 l4 R R (bM R) (fK R (fK R (fZ fN)))) (aS [(4,.ptr 104 0),(9,.ptr 811 0),(10,.ak 3 (l4.map cj.lv))] [(104,.box [.nil]),(811,.box [.arr 812 l5.length]),(812,du (l5.map al.lv))])))) (LH.aj [(4,.ag [.ak 5 (l5.map al.lv)]),(5,.ak 3 (l4.map cj.lv)),(6,.I 0)] [] R (cV.wk (aS [(4,.ptr 104 0),(9,.ptr 811 0),(10,.ak 3 (l4.map cj.lv))] [(104,.box [.nil]),(811,.box [.arr 812 l5.length]),(812,du (l5.map al.lv))]) (cV.wk (Wk.trans (Wk.trans (Wk.Ha (f:=al.lv) 812 49 5 [(1,54,5),(2,4,1),(3,88,3)] l5 R al.ok) (aS [(4,.ptr 104 0),(9,.ptr 811 0),(10,.ak 3 (l4.map cj.lv))] [(104,.box [.nil]),(811,.box [.arr 812 l5.length]),(812,.arr 49 5 (l5.map al.lv))])) (Wk.trans (Wk.fY (f:=al.lv) 812 49 5 l5 811 R R R (kb ka) R R (bM R)) (aS [(4,.ptr 104 0),(9,.ptr 811 0),(10,.ak 3 (l4.map cj.lv))] [(104,.box [.nil]),(811,.box [.ak 5 (l5.map al.lv)])]))) (sN (tg R R R bw cF bx R R (fp R (s_ (cG R R R bw bx R R R (qR R (bo R (s0 ((Wk.trans (aS [(4,.ptr 104 0),(5,.ak 3 (l4.map cj.lv)),(6,.I 0)] [(104,.box [.ak 5 (l5.map al.lv)])]) (Wk.trans (Wk.bg 104 [.ak 5 (l5.map al.lv)] R R R (bM R)) (Wk.eq R R R R)))))))))))))) (LH.ret ?_)))))))))
    obtain rfl:=oI h
    exact aO (aT Tryz.results10) (cT R bw cF bx R R (bU R (bU R (bS ⟨aN mN,R,aZ R,(Sub.cX (aH (aH (aH bn))))⟩))))
   replace h:=aA h kS
   refine LH.skip (au (LH.aj [(1,.I p1),(4,.ptr 104 0),(9,.ptr 811 0),(10,.arr 162 l4.length),(11,.mp 10301),(13,.ag (ax.lv x7).cells),(14,.I 2),(27,.ak 12 (r1.1.map ax.lv)),(28,.I (r1.1.length:Int)),(29,.I n3)] [(104,.box [.nil]),(162,.arr 84 3 (l4.map cj.lv)),(811,.box [.arr 812 l5.length]),(812,du (l5.map al.lv)),(10301,.map 3 78 (ec LV.I bL bm))] R (bo R zS) (LH.seq ?_)))
   by_cases Mu:(x7.Kind == 1)=true
   ·replace h:=aB h Mu
    refine LH.aj [(1,.I p1),(4,.ptr 104 0),(9,.ptr 811 0),(10,.arr 162 l4.length),(11,.mp 10301),(13,.ag (ax.lv x7).cells),(14,.I 2),(15,.fn 57 []),(16,.bool true),(27,.ak 12 (r1.1.map ax.lv)),(28,.I (r1.1.length:Int)),(29,.I n3)] [(104,.box [.nil]),(162,.arr 84 3 (l4.map cj.lv)),(811,.box [.arr 812 l5.length]),(812,du (l5.map al.lv)),(10301,.map 3 78 (ec LV.I bL bm))] R (sN (oM (v:=(.mp _)) R (sN (aw fb aD ba R R R (sN (bb R aD bQ (sX ((kj (f:=LV.I) (g:=bL) (xs:=bm) (key:=1) (z:=0) (o:=some 1) qp qc C5 R R (congrArg LV.I (eq_of_beq Mu)) Bn R).ok) (rR R (sN (gy R R (sN (gy R R (sN (oA (v:=(.fn _ _)) R (b4 R zS))))))))))))))) (LH.aj [(1,.I p1),(4,.ptr 104 0),(9,.ptr 811 0),(10,.arr 162 l4.length),(11,.mp 10301),(13,.ag (ax.lv x7).cells),(14,.I 2),(15,.fn 57 []),(27,.ak 12 (r1.1.map ax.lv)),(28,.I (r1.1.length:Int)),(29,.I n3),(45,.bool true)] [(104,.box [.nil]),(162,.arr 84 3 (l4.map cj.lv)),(811,.box [.arr 812 l5.length]),(812,du (l5.map al.lv)),(10301,.map 3 78 (ec LV.I bL bm))] R (bD R zS) (LH.cond (t:=true) R (fun hY=>?_) (fun hY=>?_)))
    ·obtain ⟨cM,lH,h⟩:=ao h
     refine LH.aU [(1,.I p1),(4,.ptr 104 0),(9,.ptr 811 0),(10,.arr 162 l4.length),(11,.mp 10301),(13,.ag (ax.lv x7).cells),(14,.I cM.1),(27,.ak 12 (r1.1.map ax.lv)),(28,.I (r1.1.length:Int)),(29,.I n3)] [(104,.box [.nil]),(162,.arr 84 3 (l4.map cj.lv)),(811,.box [.arr 812 cM.2.aa.length]),(812,du (cM.2.aa.map al.lv)),(10301,.map 3 78 (ec LV.I bL bm))] R (sN (oM (v:=(.fn _ _)) R (sN (bd R fB mq eA R R (sN (eX (args:=[.ptr 811 0,ax.lv x7]) (ml:=[(811,.box [.arr 812 l5.length]),(812,du (l5.map al.lv))]) (de:=[(811,.box [.arr 812 cM.2.aa.length]),(812,du (cM.2.aa.map al.lv))]) R OJ R (aH (aH bn)) (P7 lH) ⟨R,R,trivial⟩ (cn R (cn R cz)) R (bo R zS))))))) (au (LH.aj [(1,.I p1),(4,.ptr 104 0),(9,.ptr 811 0),(10,.arr 162 l4.length),(11,.mp 10301),(13,.ag (ax.lv x7).cells),(14,.I cM.1),(27,.ak 12 (r1.1.map ax.lv)),(28,.I (r1.1.length:Int)),(29,.I n3),(50,.bool (cM.1 != 0))] [(104,.box [.nil]),(162,.arr 84 3 (l4.map cj.lv)),(811,.box [.arr 812 cM.2.aa.length]),(812,du (cM.2.aa.map al.lv)),(10301,.map 3 78 (ec LV.I bL bm))] R (bj R (sN (jR R R zS))) (LH.cond (t:=(cM.1 != 0)) R (fun gP=>?_) (fun gP=>?_))))
     ·replace h:=aB h gP
      obtain ⟨rU,Fu,h⟩:=ao h
      refine LH.aU [(1,.I p1),(4,.ptr 104 0),(9,.ptr 811 0),(10,.arr 162 rU.length),(11,.mp 10301),(27,.ak 12 (r1.1.map ax.lv)),(28,.I (r1.1.length:Int)),(29,.I n3)] [(104,.box [.nil]),(162,.arr 84 3 (rU.map cj.lv)),(811,.box [.arr 812 cM.2.aa.length]),(812,du (cM.2.aa.map al.lv)),(10301,.map 3 78 (ec LV.I bL bm))] R (j0 R (sN (aw dh cg b7 R R R (sN (aw eu aD ba R R R (sN (bb R aD bQ (sN (aw dh cg b7 R R R (sN (aw dI aD ba R R R (sN (bb R aD bQ (sN (fU (vs:=[(0,.I x7.ar.Source),(1,.I x7.ar.Seq)]) zl zo R (lf mP ba aD R R R (lf mQ ba aD R R R fT)) (bj R (sN (fU (vs:=[(0,.agg [.I x7.ar.Source,.I x7.ar.Seq]),(1,.I cM.1)]) zm zp R (lf mR zk zf R R R (lf mV zj ze R R R fT)) (sN (jZ (f:=cj.lv) (ys:=[(cj.mk (rX.mk x7.ar.Source x7.ar.Seq) cM.1)]) mO nN nO R R R cj.ok (sN (nw (f:=cj.lv) mO nN nO R R (bM R) R Fu (nM R zS))))))))))))))))))))))) (aY (au (LH.aU [(1,.I p1),(4,.ptr 104 0),(9,.ptr 811 0),(10,.arr 162 rU.length),(11,.mp 10301),(27,.ak 12 (r1.1.map ax.lv)),(28,.I (r1.1.length:Int)),(29,.I (i64 (n3+1)))] [(104,.box [.nil]),(162,.arr 84 3 (rU.map cj.lv)),(811,.box [.arr 812 cM.2.aa.length]),(812,du (cM.2.aa.map al.lv)),(10301,.map 3 78 (ec LV.I bL bm))] R (sN (cD R R (bj R zS))) ?_)))
      exact bh ⟨(i64 (n3+1)),rU,cM.2.aa,a7 ▸ h,R,R⟩ (Wk.eq R R R R)
     replace h:=aA h gP
     refine LH.skip (aY (au (LH.aU [(1,.I p1),(4,.ptr 104 0),(9,.ptr 811 0),(10,.arr 162 l4.length),(11,.mp 10301),(27,.ak 12 (r1.1.map ax.lv)),(28,.I (r1.1.length:Int)),(29,.I (i64 (n3+1)))] [(104,.box [.nil]),(162,.arr 84 3 (l4.map cj.lv)),(811,.box [.arr 812 cM.2.aa.length]),(812,du (cM.2.aa.map al.lv)),(10301,.map 3 78 (ec LV.I bL bm))] R (sN (cD R R (bj R zS))) ?_)))
     exact bh ⟨(i64 (n3+1)),l4,cM.2.aa,a7 ▸ h,R,R⟩ (Wk.eq R R R R)
    ·cases hY
   replace Mu:=bF Mu
   replace h:=aA h Mu
   by_cases CU:(x7.Kind == 2)=true
   ·replace h:=aB h CU
    refine LH.aj [(1,.I p1),(4,.ptr 104 0),(9,.ptr 811 0),(10,.arr 162 l4.length),(11,.mp 10301),(13,.ag (ax.lv x7).cells),(14,.I 2),(15,.fn 58 []),(16,.bool true),(27,.ak 12 (r1.1.map ax.lv)),(28,.I (r1.1.length:Int)),(29,.I n3)] [(104,.box [.nil]),(162,.arr 84 3 (l4.map cj.lv)),(811,.box [.arr 812 l5.length]),(812,du (l5.map al.lv)),(10301,.map 3 78 (ec LV.I bL bm))] R (sN (oM (v:=(.mp _)) R (sN (aw fb aD ba R R R (sN (bb R aD bQ (sX ((kj (f:=LV.I) (g:=bL) (xs:=bm) (key:=2) (z:=0) (o:=some 2) qp qc C5 R R (congrArg LV.I (eq_of_beq CU)) Bn R).ok) (rR R (sN (gy R R (sN (gy R R (sN (oA (v:=(.fn _ _)) R (b4 R zS))))))))))))))) (LH.aj [(1,.I p1),(4,.ptr 104 0),(9,.ptr 811 0),(10,.arr 162 l4.length),(11,.mp 10301),(13,.ag (ax.lv x7).cells),(14,.I 2),(15,.fn 58 []),(27,.ak 12 (r1.1.map ax.lv)),(28,.I (r1.1.length:Int)),(29,.I n3),(45,.bool true)] [(104,.box [.nil]),(162,.arr 84 3 (l4.map cj.lv)),(811,.box [.arr 812 l5.length]),(812,du (l5.map al.lv)),(10301,.map 3 78 (ec LV.I bL bm))] R (bD R zS) (LH.cond (t:=true) R (fun kx=>?_) (fun kx=>?_)))
    ·obtain ⟨jT,Fh,h⟩:=ao h
     refine LH.aU [(1,.I p1),(4,.ptr 104 0),(9,.ptr 811 0),(10,.arr 162 l4.length),(11,.mp 10301),(13,.ag (ax.lv x7).cells),(14,.I jT.1),(27,.ak 12 (r1.1.map ax.lv)),(28,.I (r1.1.length:Int)),(29,.I n3)] [(104,.box [.nil]),(162,.arr 84 3 (l4.map cj.lv)),(811,.box [.arr 812 jT.2.aa.length]),(812,du (jT.2.aa.map al.lv)),(10301,.map 3 78 (ec LV.I bL bm))] R (sN (oM (v:=(.fn _ _)) R (sN (bd R fB mq eA R R (sN (eX (args:=[.ptr 811 0,ax.lv x7]) (ml:=[(811,.box [.arr 812 l5.length]),(812,du (l5.map al.lv))]) (de:=[(811,.box [.arr 812 jT.2.aa.length]),(812,du (jT.2.aa.map al.lv))]) R OK R (aH (aH bn)) (P2 Fh) ⟨R,R,trivial⟩ (cn R (cn R cz)) R (bo R zS))))))) (au (LH.aj [(1,.I p1),(4,.ptr 104 0),(9,.ptr 811 0),(10,.arr 162 l4.length),(11,.mp 10301),(13,.ag (ax.lv x7).cells),(14,.I jT.1),(27,.ak 12 (r1.1.map ax.lv)),(28,.I (r1.1.length:Int)),(29,.I n3),(50,.bool (jT.1 != 0))] [(104,.box [.nil]),(162,.arr 84 3 (l4.map cj.lv)),(811,.box [.arr 812 jT.2.aa.length]),(812,du (jT.2.aa.map al.lv)),(10301,.map 3 78 (ec LV.I bL bm))] R (bj R (sN (jR R R zS))) (LH.cond (t:=(jT.1 != 0)) R (fun lF=>?_) (fun lF=>?_))))
     ·replace h:=aB h lF
      obtain ⟨pV,Fv,h⟩:=ao h
      refine LH.aU [(1,.I p1),(4,.ptr 104 0),(9,.ptr 811 0),(10,.arr 162 pV.length),(11,.mp 10301),(27,.ak 12 (r1.1.map ax.lv)),(28,.I (r1.1.length:Int)),(29,.I n3)] [(104,.box [.nil]),(162,.arr 84 3 (pV.map cj.lv)),(811,.box [.arr 812 jT.2.aa.length]),(812,du (jT.2.aa.map al.lv)),(10301,.map 3 78 (ec LV.I bL bm))] R (j0 R (sN (aw dh cg b7 R R R (sN (aw eu aD ba R R R (sN (bb R aD bQ (sN (aw dh cg b7 R R R (sN (aw dI aD ba R R R (sN (bb R aD bQ (sN (fU (vs:=[(0,.I x7.ar.Source),(1,.I x7.ar.Seq)]) zl zo R (lf mP ba aD R R R (lf mQ ba aD R R R fT)) (bj R (sN (fU (vs:=[(0,.agg [.I x7.ar.Source,.I x7.ar.Seq]),(1,.I jT.1)]) zm zp R (lf mR zk zf R R R (lf mV zj ze R R R fT)) (sN (jZ (f:=cj.lv) (ys:=[(cj.mk (rX.mk x7.ar.Source x7.ar.Seq) jT.1)]) mO nN nO R R R cj.ok (sN (nw (f:=cj.lv) mO nN nO R R (bM R) R Fv (nM R zS))))))))))))))))))))))) (aY (au (LH.aU [(1,.I p1),(4,.ptr 104 0),(9,.ptr 811 0),(10,.arr 162 pV.length),(11,.mp 10301),(27,.ak 12 (r1.1.map ax.lv)),(28,.I (r1.1.length:Int)),(29,.I (i64 (n3+1)))] [(104,.box [.nil]),(162,.arr 84 3 (pV.map cj.lv)),(811,.box [.arr 812 jT.2.aa.length]),(812,du (jT.2.aa.map al.lv)),(10301,.map 3 78 (ec LV.I bL bm))] R (sN (cD R R (bj R zS))) ?_)))
      exact bh ⟨(i64 (n3+1)),pV,jT.2.aa,a7 ▸ h,R,R⟩ (Wk.eq R R R R)
     replace h:=aA h lF
     refine LH.skip (aY (au (LH.aU [(1,.I p1),(4,.ptr 104 0),(9,.ptr 811 0),(10,.arr 162 l4.length),(11,.mp 10301),(27,.ak 12 (r1.1.map ax.lv)),(28,.I (r1.1.length:Int)),(29,.I (i64 (n3+1)))] [(104,.box [.nil]),(162,.arr 84 3 (l4.map cj.lv)),(811,.box [.arr 812 jT.2.aa.length]),(812,du (jT.2.aa.map al.lv)),(10301,.map 3 78 (ec LV.I bL bm))] R (sN (cD R R (bj R zS))) ?_)))
     exact bh ⟨(i64 (n3+1)),l4,jT.2.aa,a7 ▸ h,R,R⟩ (Wk.eq R R R R)
    ·cases kx
   replace CU:=bF CU
   replace h:=aA h CU
   by_cases CV:(x7.Kind == 3)=true
   ·replace h:=aB h CV
    refine LH.aj [(1,.I p1),(4,.ptr 104 0),(9,.ptr 811 0),(10,.arr 162 l4.length),(11,.mp 10301),(13,.ag (ax.lv x7).cells),(14,.I 2),(15,.fn 59 []),(16,.bool true),(27,.ak 12 (r1.1.map ax.lv)),(28,.I (r1.1.length:Int)),(29,.I n3)] [(104,.box [.nil]),(162,.arr 84 3 (l4.map cj.lv)),(811,.box [.arr 812 l5.length]),(812,du (l5.map al.lv)),(10301,.map 3 78 (ec LV.I bL bm))] R (sN (oM (v:=(.mp _)) R (sN (aw fb aD ba R R R (sN (bb R aD bQ (sX ((kj (f:=LV.I) (g:=bL) (xs:=bm) (key:=3) (z:=0) (o:=some 3) qp qc C5 R R (congrArg LV.I (eq_of_beq CV)) Bn R).ok) (rR R (sN (gy R R (sN (gy R R (sN (oA (v:=(.fn _ _)) R (b4 R zS))))))))))))))) (LH.aj [(1,.I p1),(4,.ptr 104 0),(9,.ptr 811 0),(10,.arr 162 l4.length),(11,.mp 10301),(13,.ag (ax.lv x7).cells),(14,.I 2),(15,.fn 59 []),(27,.ak 12 (r1.1.map ax.lv)),(28,.I (r1.1.length:Int)),(29,.I n3),(45,.bool true)] [(104,.box [.nil]),(162,.arr 84 3 (l4.map cj.lv)),(811,.box [.arr 812 l5.length]),(812,du (l5.map al.lv)),(10301,.map 3 78 (ec LV.I bL bm))] R (bD R zS) (LH.cond (t:=true) R (fun ky=>?_) (fun ky=>?_)))
    ·obtain ⟨hT,Aw,h⟩:=ao h
     refine LH.aU [(1,.I p1),(4,.ptr 104 0),(9,.ptr 811 0),(10,.arr 162 l4.length),(11,.mp 10301),(13,.ag (ax.lv x7).cells),(14,.I hT.1),(27,.ak 12 (r1.1.map ax.lv)),(28,.I (r1.1.length:Int)),(29,.I n3)] [(104,.box [.nil]),(162,.arr 84 3 (l4.map cj.lv)),(811,.box [.arr 812 hT.2.aa.length]),(812,du (hT.2.aa.map al.lv)),(10301,.map 3 78 (ec LV.I bL bm))] R (sN (oM (v:=(.fn _ _)) R (sN (bd R fB mq eA R R (sN (eX (args:=[.ptr 811 0,ax.lv x7]) (ml:=[(811,.box [.arr 812 l5.length]),(812,du (l5.map al.lv))]) (de:=[(811,.box [.arr 812 hT.2.aa.length]),(812,du (hT.2.aa.map al.lv))]) R OL R (aH (aH bn)) (PW Aw) ⟨R,R,trivial⟩ (cn R (cn R cz)) R (bo R zS))))))) (au (LH.aj [(1,.I p1),(4,.ptr 104 0),(9,.ptr 811 0),(10,.arr 162 l4.length),(11,.mp 10301),(13,.ag (ax.lv x7).cells),(14,.I hT.1),(27,.ak 12 (r1.1.map ax.lv)),(28,.I (r1.1.length:Int)),(29,.I n3),(50,.bool (hT.1 != 0))] [(104,.box [.nil]),(162,.arr 84 3 (l4.map cj.lv)),(811,.box [.arr 812 hT.2.aa.length]),(812,du (hT.2.aa.map al.lv)),(10301,.map 3 78 (ec LV.I bL bm))] R (bj R (sN (jR R R zS))) (LH.cond (t:=(hT.1 != 0)) R (fun lG=>?_) (fun lG=>?_))))
     ·replace h:=aB h lG
      obtain ⟨v23,AD,h⟩:=ao h
      refine LH.aU [(1,.I p1),(4,.ptr 104 0),(9,.ptr 811 0),(10,.arr 162 v23.length),(11,.mp 10301),(27,.ak 12 (r1.1.map ax.lv)),(28,.I (r1.1.length:Int)),(29,.I n3)] [(104,.box [.nil]),(162,.arr 84 3 (v23.map cj.lv)),(811,.box [.arr 812 hT.2.aa.length]),(812,du (hT.2.aa.map al.lv)),(10301,.map 3 78 (ec LV.I bL bm))] R (j0 R (sN (aw dh cg b7 R R R (sN (aw eu aD ba R R R (sN (bb R aD bQ (sN (aw dh cg b7 R R R (sN (aw dI aD ba R R R (sN (bb R aD bQ (sN (fU (vs:=[(0,.I x7.ar.Source),(1,.I x7.ar.Seq)]) zl zo R (lf mP ba aD R R R (lf mQ ba aD R R R fT)) (bj R (sN (fU (vs:=[(0,.agg [.I x7.ar.Source,.I x7.ar.Seq]),(1,.I hT.1)]) zm zp R (lf mR zk zf R R R (lf mV zj ze R R R fT)) (sN (jZ (f:=cj.lv) (ys:=[(cj.mk (rX.mk x7.ar.Source x7.ar.Seq) hT.1)]) mO nN nO R R R cj.ok (sN (nw (f:=cj.lv) mO nN nO R R (bM R) R AD (nM R zS))))))))))))))))))))))) (aY (au (LH.aU [(1,.I p1),(4,.ptr 104 0),(9,.ptr 811 0),(10,.arr 162 v23.length),(11,.mp 10301),(27,.ak 12 (r1.1.map ax.lv)),(28,.I (r1.1.length:Int)),(29,.I (i64 (n3+1)))] [(104,.box [.nil]),(162,.arr 84 3 (v23.map cj.lv)),(811,.box [.arr 812 hT.2.aa.length]),(812,du (hT.2.aa.map al.lv)),(10301,.map 3 78 (ec LV.I bL bm))] R (sN (cD R R (bj R zS))) ?_)))
      exact bh ⟨(i64 (n3+1)),v23,hT.2.aa,a7 ▸ h,R,R⟩ (Wk.eq R R R R)
     replace h:=aA h lG
     refine LH.skip (aY (au (LH.aU [(1,.I p1),(4,.ptr 104 0),(9,.ptr 811 0),(10,.arr 162 l4.length),(11,.mp 10301),(27,.ak 12 (r1.1.map ax.lv)),(28,.I (r1.1.length:Int)),(29,.I (i64 (n3+1)))] [(104,.box [.nil]),(162,.arr 84 3 (l4.map cj.lv)),(811,.box [.arr 812 hT.2.aa.length]),(812,du (hT.2.aa.map al.lv)),(10301,.map 3 78 (ec LV.I bL bm))] R (sN (cD R R (bj R zS))) ?_)))
     exact bh ⟨(i64 (n3+1)),l4,hT.2.aa,a7 ▸ h,R,R⟩ (Wk.eq R R R R)
    ·cases ky
   replace CV:=bF CV
   replace h:=aA h CV
   by_cases CW:(x7.Kind == 4)=true
   ·replace h:=aB h CW
    refine LH.aj [(1,.I p1),(4,.ptr 104 0),(9,.ptr 811 0),(10,.arr 162 l4.length),(11,.mp 10301),(13,.ag (ax.lv x7).cells),(14,.I 2),(15,.fn 60 []),(16,.bool true),(27,.ak 12 (r1.1.map ax.lv)),(28,.I (r1.1.length:Int)),(29,.I n3)] [(104,.box [.nil]),(162,.arr 84 3 (l4.map cj.lv)),(811,.box [.arr 812 l5.length]),(812,du (l5.map al.lv)),(10301,.map 3 78 (ec LV.I bL bm))] R (sN (oM (v:=(.mp _)) R (sN (aw fb aD ba R R R (sN (bb R aD bQ (sX ((kj (f:=LV.I) (g:=bL) (xs:=bm) (key:=4) (z:=0) (o:=some 4) qp qc C5 R R (congrArg LV.I (eq_of_beq CW)) Bn R).ok) (rR R (sN (gy R R (sN (gy R R (sN (oA (v:=(.fn _ _)) R (b4 R zS))))))))))))))) (LH.aj [(1,.I p1),(4,.ptr 104 0),(9,.ptr 811 0),(10,.arr 162 l4.length),(11,.mp 10301),(13,.ag (ax.lv x7).cells),(14,.I 2),(15,.fn 60 []),(27,.ak 12 (r1.1.map ax.lv)),(28,.I (r1.1.length:Int)),(29,.I n3),(45,.bool true)] [(104,.box [.nil]),(162,.arr 84 3 (l4.map cj.lv)),(811,.box [.arr 812 l5.length]),(812,du (l5.map al.lv)),(10301,.map 3 78 (ec LV.I bL bm))] R (bD R zS) (LH.cond (t:=true) R (fun M4=>?_) (fun M4=>?_)))
    ·obtain ⟨rz,Ss,h⟩:=ao h
     refine LH.aU [(1,.I p1),(4,.ptr 104 0),(9,.ptr 811 0),(10,.arr 162 l4.length),(11,.mp 10301),(13,.ag (ax.lv x7).cells),(14,.I rz.1),(27,.ak 12 (r1.1.map ax.lv)),(28,.I (r1.1.length:Int)),(29,.I n3)] [(104,.box [.nil]),(162,.arr 84 3 (l4.map cj.lv)),(811,.box [.arr 812 rz.2.aa.length]),(812,du (rz.2.aa.map al.lv)),(10301,.map 3 78 (ec LV.I bL bm))] R (sN (oM (v:=(.fn _ _)) R (sN (bd R fB mq eA R R (sN (eX (args:=[.ptr 811 0,ax.lv x7]) (ml:=[(811,.box [.arr 812 l5.length]),(812,du (l5.map al.lv))]) (de:=[(811,.box [.arr 812 rz.2.aa.length]),(812,du (rz.2.aa.map al.lv))]) R OM R (aH (aH bn)) (Qh Ss) ⟨R,R,trivial⟩ (cn R (cn R cz)) R (bo R zS))))))) (au (LH.aj [(1,.I p1),(4,.ptr 104 0),(9,.ptr 811 0),(10,.arr 162 l4.length),(11,.mp 10301),(13,.ag (ax.lv x7).cells),(14,.I rz.1),(27,.ak 12 (r1.1.map ax.lv)),(28,.I (r1.1.length:Int)),(29,.I n3),(50,.bool (rz.1 != 0))] [(104,.box [.nil]),(162,.arr 84 3 (l4.map cj.lv)),(811,.box [.arr 812 rz.2.aa.length]),(812,du (rz.2.aa.map al.lv)),(10301,.map 3 78 (ec LV.I bL bm))] R (bj R (sN (jR R R zS))) (LH.cond (t:=(rz.1 != 0)) R (fun Af=>?_) (fun Af=>?_))))
     ·replace h:=aB h Af
      obtain ⟨v28,SZ,h⟩:=ao h
      refine LH.aU [(1,.I p1),(4,.ptr 104 0),(9,.ptr 811 0),(10,.arr 162 v28.length),(11,.mp 10301),(27,.ak 12 (r1.1.map ax.lv)),(28,.I (r1.1.length:Int)),(29,.I n3)] [(104,.box [.nil]),(162,.arr 84 3 (v28.map cj.lv)),(811,.box [.arr 812 rz.2.aa.length]),(812,du (rz.2.aa.map al.lv)),(10301,.map 3 78 (ec LV.I bL bm))] R (j0 R (sN (aw dh cg b7 R R R (sN (aw eu aD ba R R R (sN (bb R aD bQ (sN (aw dh cg b7 R R R (sN (aw dI aD ba R R R (sN (bb R aD bQ (sN (fU (vs:=[(0,.I x7.ar.Source),(1,.I x7.ar.Seq)]) zl zo R (lf mP ba aD R R R (lf mQ ba aD R R R fT)) (bj R (sN (fU (vs:=[(0,.agg [.I x7.ar.Source,.I x7.ar.Seq]),(1,.I rz.1)]) zm zp R (lf mR zk zf R R R (lf mV zj ze R R R fT)) (sN (jZ (f:=cj.lv) (ys:=[(cj.mk (rX.mk x7.ar.Source x7.ar.Seq) rz.1)]) mO nN nO R R R cj.ok (sN (nw (f:=cj.lv) mO nN nO R R (bM R) R SZ (nM R zS))))))))))))))))))))))) (aY (au (LH.aU [(1,.I p1),(4,.ptr 104 0),(9,.ptr 811 0),(10,.arr 162 v28.length),(11,.mp 10301),(27,.ak 12 (r1.1.map ax.lv)),(28,.I (r1.1.length:Int)),(29,.I (i64 (n3+1)))] [(104,.box [.nil]),(162,.arr 84 3 (v28.map cj.lv)),(811,.box [.arr 812 rz.2.aa.length]),(812,du (rz.2.aa.map al.lv)),(10301,.map 3 78 (ec LV.I bL bm))] R (sN (cD R R (bj R zS))) ?_)))
      exact bh ⟨(i64 (n3+1)),v28,rz.2.aa,a7 ▸ h,R,R⟩ (Wk.eq R R R R)
     replace h:=aA h Af
     refine LH.skip (aY (au (LH.aU [(1,.I p1),(4,.ptr 104 0),(9,.ptr 811 0),(10,.arr 162 l4.length),(11,.mp 10301),(27,.ak 12 (r1.1.map ax.lv)),(28,.I (r1.1.length:Int)),(29,.I (i64 (n3+1)))] [(104,.box [.nil]),(162,.arr 84 3 (l4.map cj.lv)),(811,.box [.arr 812 rz.2.aa.length]),(812,du (rz.2.aa.map al.lv)),(10301,.map 3 78 (ec LV.I bL bm))] R (sN (cD R R (bj R zS))) ?_)))
     exact bh ⟨(i64 (n3+1)),l4,rz.2.aa,a7 ▸ h,R,R⟩ (Wk.eq R R R R)
    ·cases M4
   replace CW:=bF CW
   replace h:=aA h CW
   by_cases CX:(x7.Kind == 5)=true
   ·replace h:=aB h CX
    refine LH.aj [(1,.I p1),(4,.ptr 104 0),(9,.ptr 811 0),(10,.arr 162 l4.length),(11,.mp 10301),(13,.ag (ax.lv x7).cells),(14,.I 2),(15,.fn 81 [.ag [.bool true]]),(16,.bool true),(27,.ak 12 (r1.1.map ax.lv)),(28,.I (r1.1.length:Int)),(29,.I n3)] [(104,.box [.nil]),(162,.arr 84 3 (l4.map cj.lv)),(811,.box [.arr 812 l5.length]),(812,du (l5.map al.lv)),(10301,.map 3 78 (ec LV.I bL bm))] R (sN (oM (v:=(.mp _)) R (sN (aw fb aD ba R R R (sN (bb R aD bQ (sX ((kj (f:=LV.I) (g:=bL) (xs:=bm) (key:=5) (z:=0) (o:=some 5) qp qc C5 R R (congrArg LV.I (eq_of_beq CX)) Bn R).ok) (rR R (sN (gy R R (sN (gy R R (sN (oA (v:=(.fn _ _)) R (b4 R zS))))))))))))))) (LH.aj [(1,.I p1),(4,.ptr 104 0),(9,.ptr 811 0),(10,.arr 162 l4.length),(11,.mp 10301),(13,.ag (ax.lv x7).cells),(14,.I 2),(15,.fn 81 [.ag [.bool true]]),(27,.ak 12 (r1.1.map ax.lv)),(28,.I (r1.1.length:Int)),(29,.I n3),(45,.bool true)] [(104,.box [.nil]),(162,.arr 84 3 (l4.map cj.lv)),(811,.box [.arr 812 l5.length]),(812,du (l5.map al.lv)),(10301,.map 3 78 (ec LV.I bL bm))] R (bD R zS) (LH.cond (t:=true) R (fun pt=>?_) (fun pt=>?_)))
    ·obtain ⟨dg,Fj,h⟩:=ao h
     refine LH.aU [(1,.I p1),(4,.ptr 104 0),(9,.ptr 811 0),(10,.arr 162 l4.length),(11,.mp 10301),(13,.ag (ax.lv x7).cells),(14,.I dg.1),(27,.ak 12 (r1.1.map ax.lv)),(28,.I (r1.1.length:Int)),(29,.I n3)] [(104,.box [.nil]),(162,.arr 84 3 (l4.map cj.lv)),(811,.box [.arr 812 dg.2.aa.length]),(812,du (dg.2.aa.map al.lv)),(10301,.map 3 78 (ec LV.I bL bm))] R (sN (oM (v:=(.fn _ _)) R (sN (bd R fB mq eA R R (sN (eX (args:=[.ptr 811 0,ax.lv x7,.ag [.bool true]]) (ml:=[(811,.box [.arr 812 l5.length]),(812,du (l5.map al.lv))]) (de:=[(811,.box [.arr 812 dg.2.aa.length]),(812,du (dg.2.aa.map al.lv))]) R Jq R (aH (aH (aH bn))) (JD Fj) ⟨R,R,trivial⟩ (cn R (cn R cz)) R (bo R zS))))))) (au (LH.aj [(1,.I p1),(4,.ptr 104 0),(9,.ptr 811 0),(10,.arr 162 l4.length),(11,.mp 10301),(13,.ag (ax.lv x7).cells),(14,.I dg.1),(27,.ak 12 (r1.1.map ax.lv)),(28,.I (r1.1.length:Int)),(29,.I n3),(50,.bool (dg.1 != 0))] [(104,.box [.nil]),(162,.arr 84 3 (l4.map cj.lv)),(811,.box [.arr 812 dg.2.aa.length]),(812,du (dg.2.aa.map al.lv)),(10301,.map 3 78 (ec LV.I bL bm))] R (bj R (sN (jR R R zS))) (LH.cond (t:=(dg.1 != 0)) R (fun Ag=>?_) (fun Ag=>?_))))
     ·replace h:=aB h Ag
      obtain ⟨v33,S0,h⟩:=ao h
      refine LH.aU [(1,.I p1),(4,.ptr 104 0),(9,.ptr 811 0),(10,.arr 162 v33.length),(11,.mp 10301),(27,.ak 12 (r1.1.map ax.lv)),(28,.I (r1.1.length:Int)),(29,.I n3)] [(104,.box [.nil]),(162,.arr 84 3 (v33.map cj.lv)),(811,.box [.arr 812 dg.2.aa.length]),(812,du (dg.2.aa.map al.lv)),(10301,.map 3 78 (ec LV.I bL bm))] R (j0 R (sN (aw dh cg b7 R R R (sN (aw eu aD ba R R R (sN (bb R aD bQ (sN (aw dh cg b7 R R R (sN (aw dI aD ba R R R (sN (bb R aD bQ (sN (fU (vs:=[(0,.I x7.ar.Source),(1,.I x7.ar.Seq)]) zl zo R (lf mP ba aD R R R (lf mQ ba aD R R R fT)) (bj R (sN (fU (vs:=[(0,.agg [.I x7.ar.Source,.I x7.ar.Seq]),(1,.I dg.1)]) zm zp R (lf mR zk zf R R R (lf mV zj ze R R R fT)) (sN (jZ (f:=cj.lv) (ys:=[(cj.mk (rX.mk x7.ar.Source x7.ar.Seq) dg.1)]) mO nN nO R R R cj.ok (sN (nw (f:=cj.lv) mO nN nO R R (bM R) R S0 (nM R zS))))))))))))))))))))))) (aY (au (LH.aU [(1,.I p1),(4,.ptr 104 0),(9,.ptr 811 0),(10,.arr 162 v33.length),(11,.mp 10301),(27,.ak 12 (r1.1.map ax.lv)),(28,.I (r1.1.length:Int)),(29,.I (i64 (n3+1)))] [(104,.box [.nil]),(162,.arr 84 3 (v33.map cj.lv)),(811,.box [.arr 812 dg.2.aa.length]),(812,du (dg.2.aa.map al.lv)),(10301,.map 3 78 (ec LV.I bL bm))] R (sN (cD R R (bj R zS))) ?_)))
      exact bh ⟨(i64 (n3+1)),v33,dg.2.aa,a7 ▸ h,R,R⟩ (Wk.eq R R R R)
     replace h:=aA h Ag
     refine LH.skip (aY (au (LH.aU [(1,.I p1),(4,.ptr 104 0),(9,.ptr 811 0),(10,.arr 162 l4.length),(11,.mp 10301),(27,.ak 12 (r1.1.map ax.lv)),(28,.I (r1.1.length:Int)),(29,.I (i64 (n3+1)))] [(104,.box [.nil]),(162,.arr 84 3 (l4.map cj.lv)),(811,.box [.arr 812 dg.2.aa.length]),(812,du (dg.2.aa.map al.lv)),(10301,.map 3 78 (ec LV.I bL bm))] R (sN (cD R R (bj R zS))) ?_)))
     exact bh ⟨(i64 (n3+1)),l4,dg.2.aa,a7 ▸ h,R,R⟩ (Wk.eq R R R R)
    ·cases pt
   replace CX:=bF CX
   replace h:=aA h CX
   by_cases CY:(x7.Kind == 6)=true
   ·replace h:=aB h CY
    refine LH.aj [(1,.I p1),(4,.ptr 104 0),(9,.ptr 811 0),(10,.arr 162 l4.length),(11,.mp 10301),(13,.ag (ax.lv x7).cells),(14,.I 2),(15,.fn 81 [.ag [.bool false]]),(16,.bool true),(27,.ak 12 (r1.1.map ax.lv)),(28,.I (r1.1.length:Int)),(29,.I n3)] [(104,.box [.nil]),(162,.arr 84 3 (l4.map cj.lv)),(811,.box [.arr 812 l5.length]),(812,du (l5.map al.lv)),(10301,.map 3 78 (ec LV.I bL bm))] R (sN (oM (v:=(.mp _)) R (sN (aw fb aD ba R R R (sN (bb R aD bQ (sX ((kj (f:=LV.I) (g:=bL) (xs:=bm) (key:=6) (z:=0) (o:=some 6) qp qc C5 R R (congrArg LV.I (eq_of_beq CY)) Bn R).ok) (rR R (sN (gy R R (sN (gy R R (sN (oA (v:=(.fn _ _)) R (b4 R zS))))))))))))))) (LH.aj [(1,.I p1),(4,.ptr 104 0),(9,.ptr 811 0),(10,.arr 162 l4.length),(11,.mp 10301),(13,.ag (ax.lv x7).cells),(14,.I 2),(15,.fn 81 [.ag [.bool false]]),(27,.ak 12 (r1.1.map ax.lv)),(28,.I (r1.1.length:Int)),(29,.I n3),(45,.bool true)] [(104,.box [.nil]),(162,.arr 84 3 (l4.map cj.lv)),(811,.box [.arr 812 l5.length]),(812,du (l5.map al.lv)),(10301,.map 3 78 (ec LV.I bL bm))] R (bD R zS) (LH.cond (t:=true) R (fun CM=>?_) (fun CM=>?_)))
    ·obtain ⟨rA,Sx,h⟩:=ao h
     refine LH.aU [(1,.I p1),(4,.ptr 104 0),(9,.ptr 811 0),(10,.arr 162 l4.length),(11,.mp 10301),(13,.ag (ax.lv x7).cells),(14,.I rA.1),(27,.ak 12 (r1.1.map ax.lv)),(28,.I (r1.1.length:Int)),(29,.I n3)] [(104,.box [.nil]),(162,.arr 84 3 (l4.map cj.lv)),(811,.box [.arr 812 rA.2.aa.length]),(812,du (rA.2.aa.map al.lv)),(10301,.map 3 78 (ec LV.I bL bm))] R (sN (oM (v:=(.fn _ _)) R (sN (bd R fB mq eA R R (sN (eX (args:=[.ptr 811 0,ax.lv x7,.ag [.bool false]]) (ml:=[(811,.box [.arr 812 l5.length]),(812,du (l5.map al.lv))]) (de:=[(811,.box [.arr 812 rA.2.aa.length]),(812,du (rA.2.aa.map al.lv))]) R Jq R (aH (aH (aH bn))) (JD Sx) ⟨R,R,trivial⟩ (cn R (cn R cz)) R (bo R zS))))))) (au (LH.aj [(1,.I p1),(4,.ptr 104 0),(9,.ptr 811 0),(10,.arr 162 l4.length),(11,.mp 10301),(13,.ag (ax.lv x7).cells),(14,.I rA.1),(27,.ak 12 (r1.1.map ax.lv)),(28,.I (r1.1.length:Int)),(29,.I n3),(50,.bool (rA.1 != 0))] [(104,.box [.nil]),(162,.arr 84 3 (l4.map cj.lv)),(811,.box [.arr 812 rA.2.aa.length]),(812,du (rA.2.aa.map al.lv)),(10301,.map 3 78 (ec LV.I bL bm))] R (bj R (sN (jR R R zS))) (LH.cond (t:=(rA.1 != 0)) R (fun Kp=>?_) (fun Kp=>?_))))
     ·replace h:=aB h Kp
      obtain ⟨Me,S4,h⟩:=ao h
      refine LH.aU [(1,.I p1),(4,.ptr 104 0),(9,.ptr 811 0),(10,.arr 162 Me.length),(11,.mp 10301),(27,.ak 12 (r1.1.map ax.lv)),(28,.I (r1.1.length:Int)),(29,.I n3)] [(104,.box [.nil]),(162,.arr 84 3 (Me.map cj.lv)),(811,.box [.arr 812 rA.2.aa.length]),(812,du (rA.2.aa.map al.lv)),(10301,.map 3 78 (ec LV.I bL bm))] R (j0 R (sN (aw dh cg b7 R R R (sN (aw eu aD ba R R R (sN (bb R aD bQ (sN (aw dh cg b7 R R R (sN (aw dI aD ba R R R (sN (bb R aD bQ (sN (fU (vs:=[(0,.I x7.ar.Source),(1,.I x7.ar.Seq)]) zl zo R (lf mP ba aD R R R (lf mQ ba aD R R R fT)) (bj R (sN (fU (vs:=[(0,.agg [.I x7.ar.Source,.I x7.ar.Seq]),(1,.I rA.1)]) zm zp R (lf mR zk zf R R R (lf mV zj ze R R R fT)) (sN (jZ (f:=cj.lv) (ys:=[(cj.mk (rX.mk x7.ar.Source x7.ar.Seq) rA.1)]) mO nN nO R R R cj.ok (sN (nw (f:=cj.lv) mO nN nO R R (bM R) R S4 (nM R zS))))))))))))))))))))))) (aY (au (LH.aU [(1,.I p1),(4,.ptr 104 0),(9,.ptr 811 0),(10,.arr 162 Me.length),(11,.mp 10301),(27,.ak 12 (r1.1.map ax.lv)),(28,.I (r1.1.length:Int)),(29,.I (i64 (n3+1)))] [(104,.box [.nil]),(162,.arr 84 3 (Me.map cj.lv)),(811,.box [.arr 812 rA.2.aa.length]),(812,du (rA.2.aa.map al.lv)),(10301,.map 3 78 (ec LV.I bL bm))] R (sN (cD R R (bj R zS))) ?_)))
      exact bh ⟨(i64 (n3+1)),Me,rA.2.aa,a7 ▸ h,R,R⟩ (Wk.eq R R R R)
     replace h:=aA h Kp
     refine LH.skip (aY (au (LH.aU [(1,.I p1),(4,.ptr 104 0),(9,.ptr 811 0),(10,.arr 162 l4.length),(11,.mp 10301),(27,.ak 12 (r1.1.map ax.lv)),(28,.I (r1.1.length:Int)),(29,.I (i64 (n3+1)))] [(104,.box [.nil]),(162,.arr 84 3 (l4.map cj.lv)),(811,.box [.arr 812 rA.2.aa.length]),(812,du (rA.2.aa.map al.lv)),(10301,.map 3 78 (ec LV.I bL bm))] R (sN (cD R R (bj R zS))) ?_)))
     exact bh ⟨(i64 (n3+1)),l4,rA.2.aa,a7 ▸ h,R,R⟩ (Wk.eq R R R R)
    ·cases CM
   replace CY:=bF CY
   replace h:=aA h CY
   refine LH.aj [(1,.I p1),(4,.ptr 104 0),(9,.ptr 811 0),(10,.arr 162 l4.length),(11,.mp 10301),(13,.ag (ax.lv x7).cells),(14,.I 2),(15,.mj),(16,.bool false),(27,.ak 12 (r1.1.map ax.lv)),(28,.I (r1.1.length:Int)),(29,.I n3)] [(104,.box [.nil]),(162,.arr 84 3 (l4.map cj.lv)),(811,.box [.arr 812 l5.length]),(812,du (l5.map al.lv)),(10301,.map 3 78 (ec LV.I bL bm))] R (sN (oM (v:=(.mp _)) R (sN (aw fb aD ba R R R (sN (bb R aD bQ (sX ((kj (f:=LV.I) (g:=bL) (xs:=bm) (key:=x7.Kind) (z:=0) (o:=none) qp qc C5 R R R Bn (MC Mu (MC CU (MC CV (MC CW (MC CX (MC CY R))))))).ok) (rR R (sN (gy R R (sN (gy R R (sN (oA (v:=.mj) R (b4 R zS))))))))))))))) (LH.aj [(1,.I p1),(4,.ptr 104 0),(9,.ptr 811 0),(10,.arr 162 l4.length),(11,.mp 10301),(13,.ag (ax.lv x7).cells),(14,.I 2),(15,.mj),(27,.ak 12 (r1.1.map ax.lv)),(28,.I (r1.1.length:Int)),(29,.I n3),(45,.bool false)] [(104,.box [.nil]),(162,.arr 84 3 (l4.map cj.lv)),(811,.box [.arr 812 l5.length]),(812,du (l5.map al.lv)),(10301,.map 3 78 (ec LV.I bL bm))] R (bD R zS) (LH.cond (t:=false) R (fun CN=>?_) (fun CN=>?_)))
   ·cases CN
   refine LH.skip (au (LH.aj [(1,.I p1),(4,.ptr 104 0),(9,.ptr 811 0),(10,.arr 162 l4.length),(11,.mp 10301),(13,.ag (ax.lv x7).cells),(14,.I 2),(27,.ak 12 (r1.1.map ax.lv)),(28,.I (r1.1.length:Int)),(29,.I n3),(50,.bool (2 != 0))] [(104,.box [.nil]),(162,.arr 84 3 (l4.map cj.lv)),(811,.box [.arr 812 l5.length]),(812,du (l5.map al.lv)),(10301,.map 3 78 (ec LV.I bL bm))] R (bj R (sN (jR R R zS))) (LH.cond (t:=(2 != 0)) R (fun Ai=>?_) (fun Ai=>?_))))
   ·replace h:=aB h Ai
    obtain ⟨v41,Ld,h⟩:=ao h
    refine LH.aU [(1,.I p1),(4,.ptr 104 0),(9,.ptr 811 0),(10,.arr 162 v41.length),(11,.mp 10301),(27,.ak 12 (r1.1.map ax.lv)),(28,.I (r1.1.length:Int)),(29,.I n3)] [(104,.box [.nil]),(162,.arr 84 3 (v41.map cj.lv)),(811,.box [.arr 812 l5.length]),(812,du (l5.map al.lv)),(10301,.map 3 78 (ec LV.I bL bm))] R (j0 R (sN (aw dh cg b7 R R R (sN (aw eu aD ba R R R (sN (bb R aD bQ (sN (aw dh cg b7 R R R (sN (aw dI aD ba R R R (sN (bb R aD bQ (sN (fU (vs:=[(0,.I x7.ar.Source),(1,.I x7.ar.Seq)]) zl zo R (lf mP ba aD R R R (lf mQ ba aD R R R fT)) (bj R (sN (fU (vs:=[(0,.agg [.I x7.ar.Source,.I x7.ar.Seq]),(1,.I 2)]) zm zp R (lf mR zk zf R R R (lf mV zj ze R R R fT)) (sN (jZ (f:=cj.lv) (ys:=[(cj.mk (rX.mk x7.ar.Source x7.ar.Seq) 2)]) mO nN nO R R R cj.ok (sN (nw (f:=cj.lv) mO nN nO R R (bM R) R Ld (nM R zS))))))))))))))))))))))) (aY (au (LH.aU [(1,.I p1),(4,.ptr 104 0),(9,.ptr 811 0),(10,.arr 162 v41.length),(11,.mp 10301),(27,.ak 12 (r1.1.map ax.lv)),(28,.I (r1.1.length:Int)),(29,.I (i64 (n3+1)))] [(104,.box [.nil]),(162,.arr 84 3 (v41.map cj.lv)),(811,.box [.arr 812 l5.length]),(812,du (l5.map al.lv)),(10301,.map 3 78 (ec LV.I bL bm))] R (sN (cD R R (bj R zS))) ?_)))
    exact bh ⟨(i64 (n3+1)),v41,l5,a7 ▸ h,R,R⟩ (Wk.eq R R R R)
   replace h:=aA h Ai
   refine LH.skip (aY (au (LH.aU [(1,.I p1),(4,.ptr 104 0),(9,.ptr 811 0),(10,.arr 162 l4.length),(11,.mp 10301),(27,.ak 12 (r1.1.map ax.lv)),(28,.I (r1.1.length:Int)),(29,.I (i64 (n3+1)))] [(104,.box [.nil]),(162,.arr 84 3 (l4.map cj.lv)),(811,.box [.arr 812 l5.length]),(812,du (l5.map al.lv)),(10301,.map 3 78 (ec LV.I bL bm))] R (sN (cD R R (bj R zS))) ?_)))
   exact bh ⟨(i64 (n3+1)),l4,l5,a7 ▸ h,R,R⟩ (Wk.eq R R R R)
  replace h:=aA h fP
  refine LH.exit (cw (bY (bO (au (LH.wk ((Wk.trans (aS [(4,.ptr 104 0),(9,.ptr 811 0),(10,.arr 162 l4.length)] [(104,.box [.nil]),(162,.arr 84 3 (l4.map cj.lv)),(811,.box [.arr 812 l5.length]),(812,du (l5.map al.lv))]) (Wk.trans (Wk.lk (f:=cj.lv) (fy:=[(4,.ptr 104 0),(9,.ptr 811 0),(10,.ak 3 (l4.map cj.lv))]) 162 84 3 l4 R R (bM R) (fK R (fK R (fZ fN)))) (aS [(4,.ptr 104 0),(9,.ptr 811 0),(10,.ak 3 (l4.map cj.lv))] [(104,.box [.nil]),(811,.box [.arr 812 l5.length]),(812,du (l5.map al.lv))])))) (LH.aj [(4,.ag [.ak 5 (l5.map al.lv)]),(5,.ak 3 (l4.map cj.lv)),(6,.I 0)] [] R (cV.wk (aS [(4,.ptr 104 0),(9,.ptr 811 0),(10,.ak 3 (l4.map cj.lv))] [(104,.box [.nil]),(811,.box [.arr 812 l5.length]),(812,du (l5.map al.lv))]) (cV.wk (Wk.trans (Wk.trans (Wk.Ha (f:=al.lv) 812 49 5 [(1,54,5),(2,4,1),(3,88,3)] l5 R al.ok) (aS [(4,.ptr 104 0),(9,.ptr 811 0),(10,.ak 3 (l4.map cj.lv))] [(104,.box [.nil]),(811,.box [.arr 812 l5.length]),(812,.arr 49 5 (l5.map al.lv))])) (Wk.trans (Wk.fY (f:=al.lv) 812 49 5 l5 811 R R R (kb ka) R R (bM R)) (aS [(4,.ptr 104 0),(9,.ptr 811 0),(10,.ak 3 (l4.map cj.lv))] [(104,.box [.nil]),(811,.box [.ak 5 (l5.map al.lv)])]))) (sN (tg R R R bw cF bx R R (fp R (s_ (cG R R R bw bx R R R (qR R (bo R (s0 ((Wk.trans (aS [(4,.ptr 104 0),(5,.ak 3 (l4.map cj.lv)),(6,.I 0)] [(104,.box [.ak 5 (l5.map al.lv)])]) (Wk.trans (Wk.bg 104 [.ak 5 (l5.map al.lv)] R R R (bM R)) (Wk.eq R R R R)))))))))))))) (LH.ret ?_)))))))
  obtain rfl:=oI h
  exact aO (aT Tryz.results10) (cT R bw cF bx R R (bU R (bU R (bS ⟨aN mN,R,aZ R,(Sub.cX (aH (aH (aH bn))))⟩))))
theorem PN {F:Nat} {p0:ai} {p1:ai} {r:List Int} (h:Cc F p0 p1=some r):aM Tryz.prog 42 [ai.lv p0,ai.lv p1] (Mem.of []) (.L r) (Mem.of []):=by
  unfold Cc at h
  refine br Tryz.func42 R (nT Tryz.ntmps42 R) (LH.wk (aS [(0,ai.lv p0),(1,ai.lv p1)] []) (LH.aj [(2,.ag (ai.lv p0).cells),(3,.ag (ai.lv p1).cells)] [] R (sB (c7 R R R R (sB (c7 R R R R (kX R zS))))) (LH.aj [(2,.ag (ai.lv p0).cells),(3,.ag (ai.lv p1).cells),(5,.nil)] [] R (kX R zS) (LH.seq (LH.aj [(2,.ag (ai.lv p0).cells),(3,.ag (ai.lv p1).cells),(5,.nil),(6,.I 0)] [] R (bo R zS) (LH.block (LH.wk ((Wk.trans (aS [(2,.ag (ai.lv p0).cells),(3,.ag (ai.lv p1).cells),(5,.nil),(6,.I 0)] []) (Wk.trans (aS [(2,.ag (ai.lv p0).cells),(3,.ag (ai.lv p1).cells),(5,.nil),(6,.I 0)] []) (Wk.trans (Wk.tt (fy:=[(2,.ag (ai.lv p0).cells),(3,.ag (ai.lv p1).cells),(5,.arr 146 (List.length ([]:List Int))),(6,.I 0)]) 146 3 1 R R (wK (wK (wO (wK wN))))) (aS [(2,.ag (ai.lv p0).cells),(3,.ag (ai.lv p1).cells),(5,.arr 146 (List.length ([]:List Int))),(6,.I 0)] [(146,.arr 3 1 (List.map LV.I ([]:List Int)))]))))) (LH.loop (fun n e m=>∃ (n1:Int) (l2:List Int),A4 p0 p1 n n1 l2=some r∧e=Env.of [(2,.ag (ai.lv p0).cells),(3,.ag (ai.lv p1).cells),(5,.arr 146 l2.length),(6,.I n1)]∧m=Mem.of [(146,.arr 3 1 (l2.map LV.I))]) F ⟨0,([]:List Int),h,R,R⟩ ?_))))))))
  clear h
  rintro n e m ⟨n1,l2,h,rfl,rfl⟩
  rcases n with _ | n
  · cases (show Option.none=some _ from h)
  obtain ⟨aJ,a7⟩:∃ f,f=A4 p0 p1 n:=⟨_,rfl⟩
  replace h:GC p0 p1 aJ n1 l2=some r:=a7 ▸ h
  unfold GC at h
  refine LH.seq (LH.aj [(2,.ag (ai.lv p0).cells),(3,.ag (ai.lv p1).cells),(5,.arr 146 l2.length),(6,.I n1),(15,.bool (decide (n1<(max (p0.aG.length:Int) (p1.aG.length:Int)))))] [(146,.arr 3 1 (l2.map LV.I))] R (bj R (sN (aw cZ c8 fC R R R (sN (bb R c8 iT (sN (bW (f:=aq.lv) gu R (sN (aw cZ c8 fC R R R (sN (bb R c8 iT (sN (bW (f:=aq.lv) gu R (sX ((F2 R R).ok) (sN (fi R R zS)))))))))))))))) (LH.cond (t:=(decide (n1<(max (p0.aG.length:Int) (p1.aG.length:Int))))) R (fun iK=>?_) (fun iK=>?_)))
  ·replace h:=aB h iK
   refine LH.skip (au (LH.wk (aS [(2,.ag (ai.lv p0).cells),(3,.ag (ai.lv p1).cells),(5,.arr 146 l2.length),(6,.I n1)] [(146,.arr 3 1 (l2.map LV.I))]) (LH.seq (LH.block ?_))))
   obtain ⟨w5,hv,h⟩:=ao h
   refine LH.di mixed [] [0,0,0,0,0,0,0,0,0,0,0,0,0,0,0,0,0,0,0,0,0,0,0,0,0] [(2,.ag (ai.lv p0).cells),(3,.ag (ai.lv p1).cells),(5,.arr 146 l2.length),(6,.I n1),(42,.bool w5)] [(146,.arr 3 1 (l2.map LV.I))] R R (by kernel_rfl) ?_ ?_
   ·refine fF R (aF (aw cZ c8 fC R R R ⟨R,aF (bb R c8 iT ⟨R,aF (bW (f:=aq.lv) gu R ⟨R,aF (pJ R R ⟨R,iO R ?_⟩)⟩)⟩)⟩))
    by_cases b3:(decide (n1 ≥ (p0.aG.length:Int)))=true
    ·replace hv:=aB hv b3
     refine mF R R b3 (mF R R b3 (mF R R b3 (mF R R b3 (mF R R b3 (aF (aX (cB b3) (v:=(.bool _)) R ⟨R,iO R (mF R R R (mF R R R (mF R R R (mF R R R (mF R R R (mF R R R (mF R R R (mF R R R (mF R R R (mF R R R (mF R R R (aF (aX R (v:=(.bool _)) R ⟨R,?_⟩)))))))))))))⟩))))))
     obtain rfl:=oI hv
     exact zM
    ·replace b3:=bF b3
     replace hv:=aA hv b3
     refine mT R (cB b3) (fF R (mT R (cB b3) (aF (aw cZ c8 fC R R R ⟨R,mT R (cB b3) (aF (bb R c8 iT ⟨R,mT R (cB b3) (aF (bW (f:=aq.lv) gu R ⟨R,mT R (cB b3) (aF (pJ R R ⟨R,aF (aQ (cB b3) (v:=(.bool _)) R ⟨R,iO R ?_⟩)⟩))⟩))⟩))⟩))))
     by_cases cc:(decide (n1 ≥ (p1.aG.length:Int)))=true
     ·replace hv:=aB hv cc
      refine mF R R cc (mF R R cc (mF R R cc (mF R R cc (mF R R cc (mF R R cc (mF R R cc (mF R R cc (mF R R cc (mF R R cc (mF R R cc (aF (aX (cB cc) (v:=(.bool _)) R ⟨R,?_⟩))))))))))))
      obtain rfl:=oI hv
      exact zM
     ·replace cc:=bF cc
      replace hv:=aA hv cc
      refine mT R (cB cc) (aF (aw cZ c8 fC R R R ⟨R,mT R (cB cc) (aF (bb R c8 iT ⟨R,mT R (cB cc) (fF R ?_)⟩))⟩))
      obtain ⟨x8,s6,hv⟩:=ao hv
      refine mT R (cB cc) (aF (eG (f:=aq.lv) gu ek dJ R R aq.ok s6 R ⟨R,mT R (cB cc) (aF (bd R ek iU dJ R R ⟨R,mT R (cB cc) (aF (aw cZ c8 fC R R R ⟨R,mT R (cB cc) (aF (bb R c8 iT ⟨R,mT R (cB cc) (fF R ?_)⟩))⟩))⟩))⟩))
      obtain ⟨x9,wZ,hv⟩:=ao hv
      refine mT R (cB cc) (aF (eG (f:=aq.lv) gu ek dJ R R aq.ok wZ R ⟨R,mT R (cB cc) (aF (bd R ek iU dJ R R ⟨R,mT R (cB cc) (aF (Ic R R (MK x8 x9) ⟨R,aF (aQ (cB cc) (v:=(.bool _)) R ⟨R,?_⟩)⟩))⟩))⟩))
      obtain rfl:=oI hv
      exact zM
   clear hv
   refine LH.cond (t:=w5) R (fun hY=>?_) (fun hY=>?_)
   ·replace h:=aB h hY
    obtain ⟨v11,La,h⟩:=ao h
    refine LH.aU [(2,.ag (ai.lv p0).cells),(3,.ag (ai.lv p1).cells),(5,.arr 146 v11.length),(6,.I n1)] [(146,.arr 3 1 (v11.map LV.I))] R (j0 R (bj R (sN (jZ (f:=LV.I) (ys:=[n1]) cE qV ba R R R lY (sN (nw (f:=LV.I) cE qV ba R R (bM R) R La (nM R zS))))))) (aY (au (LH.aU [(2,.ag (ai.lv p0).cells),(3,.ag (ai.lv p1).cells),(5,.arr 146 v11.length),(6,.I (i64 (n1+1)))] [(146,.arr 3 1 (v11.map LV.I))] R (bj R (sN (cD R R (bo R zS)))) ?_)))
    exact bh ⟨(i64 (n1+1)),v11,a7 ▸ h,R,R⟩ (Wk.eq R R R R)
   replace h:=aA h hY
   refine LH.skip (aY (au (LH.aU [(2,.ag (ai.lv p0).cells),(3,.ag (ai.lv p1).cells),(5,.arr 146 l2.length),(6,.I (i64 (n1+1)))] [(146,.arr 3 1 (l2.map LV.I))] R (bj R (sN (cD R R (bo R zS)))) ?_)))
   exact bh ⟨(i64 (n1+1)),l2,a7 ▸ h,R,R⟩ (Wk.eq R R R R)
  replace h:=aA h iK
  refine LH.exit (cw (bY (bO (au (LH.wk ((Wk.trans (aS [(5,.arr 146 l2.length)] [(146,.arr 3 1 (l2.map LV.I))]) (Wk.trans (Wk.lk (f:=LV.I) (fy:=[(5,.L l2)]) 146 3 1 l2 R R (bM R) (fZ fN)) (aS [(5,.L l2)] [])))) (LH.aj [(4,.L l2)] [] R (fp R (qR R zS)) (LH.ret ?_)))))))
  obtain rfl:=oI h
  exact aO (aT Tryz.results42) (bU R (bS ⟨aN mN,R,aZ R,Sub.rfl⟩))
theorem Qa {F:Nat} {p0:List Int} {p1:List Int} {r:Bool} (h:vo F p0 p1=some r):aM Tryz.prog 43 [.L p0,.L p1] (Mem.of []) (.bool r) (Mem.of []):=by
  unfold vo at h
  refine br Tryz.func43 R (nT Tryz.ntmps43 R) (LH.wk (aS [(0,.L p0),(1,.L p1)] []) (LH.aj [(0,.L p0),(1,.L p1)] [] R (b4 R zS) (LH.seq (LH.aj [(0,.L p0),(1,.L p1),(10,.bool ((p0.length:Int) != (p1.length:Int)))] [] R (fp R (sN (bW (f:=LV.I) cE R (fp R (sN (bW (f:=LV.I) cE R (sN (jR R R zS)))))))) (LH.cond (t:=((p0.length:Int) != (p1.length:Int))) R (fun jF=>?_) (fun jF=>?_))))))
  ·replace h:=aB h jF
   refine LH.aj [(4,.bool false)] [] R (b4 R zS) (LH.ret (aW ?_))
   obtain rfl:=oI h
   exact aO (aT Tryz.results43) (bU R (bS ⟨aN mN,R,aZ R,Sub.rfl⟩))
  replace h:=aA h jF
  refine LH.skip (au (LH.wk (aS [(0,.L p0),(1,.L p1)] []) (LH.seq (LH.aj [(0,.L p0),(1,.L p1),(5,.I 0)] [] R (bo R zS) (LH.block (LH.loop (fun n e m=>∃ (n2:Int),ve p0 p1 n n2=some r∧e=Env.of [(0,.L p0),(1,.L p1),(5,.I n2)]∧m=Mem.of []) F ⟨0,h,R,R⟩ ?_))))))
  clear h
  rintro n e m ⟨n2,h,rfl,rfl⟩
  rcases n with _ | n
  · cases (show Option.none=some _ from h)
  obtain ⟨aJ,a7⟩:∃ f,f=ve p0 p1 n:=⟨_,rfl⟩
  replace h:B8 p0 p1 aJ n2=some r:=a7 ▸ h
  unfold B8 at h
  refine LH.seq (LH.aj [(0,.L p0),(1,.L p1),(5,.I n2),(14,.bool (decide (n2<(p0.length:Int))))] [] R (bj R (fp R (sN (bW (f:=LV.I) cE R (sN (fi R R zS)))))) (LH.cond (t:=(decide (n2<(p0.length:Int)))) R (fun iK=>?_) (fun iK=>?_)))
  ·replace h:=aB h iK
   refine LH.skip (au (LH.wk (aS [(0,.L p0),(1,.L p1),(5,.I n2)] []) (LH.seq (LH.block ?_))))
   obtain ⟨x4,C2,h⟩:=ao h
   obtain ⟨x5,nJ,h⟩:=ao h
   refine LH.di mixed [] [0,0,0,0,0,0,0,0,0] [(0,.L p0),(1,.L p1),(5,.I n2),(25,.bool (x4 != x5))] [] R R (by kernel_rfl) (rM R (fF R (aF (eG (f:=LV.I) cE aD ba R R lY C2 R ⟨R,aF (bb R aD bQ ⟨R,rM R (fF R (aF (eG (f:=LV.I) cE aD ba R R lY nJ R ⟨R,aF (bb R aD bQ ⟨R,aF (jR R R ⟨R,zM⟩)⟩)⟩)))⟩)⟩)))) (LH.cond (t:=(x4 != x5)) R (fun fP=>?_) (fun fP=>?_))
   ·replace h:=aB h fP
    refine LH.aj [(4,.bool false)] [] R (b4 R zS) (LH.ret (bB (aW (dF (bB (aW ?_))))))
    obtain rfl:=oI h
    exact aO (aT Tryz.results43) (bU R (bS ⟨aN mN,R,aZ R,Sub.rfl⟩))
   replace h:=aA h fP
   refine LH.skip (aY (au (LH.aU [(0,.L p0),(1,.L p1),(5,.I (i64 (n2+1)))] [] R (bj R (sN (cD R R (bo R zS)))) ?_)))
   exact bh ⟨(i64 (n2+1)),a7 ▸ h,R,R⟩ (Wk.eq R R R R)
  replace h:=aA h iK
  refine LH.exit (cw (bY (bO (au (LH.aj [(4,.bool true)] [] R (b4 R zS) (LH.ret ?_))))))
  obtain rfl:=oI h
  exact aO (aT Tryz.results43) (bU R (bS ⟨aN mN,R,aZ R,Sub.rfl⟩))
theorem Cd {F:Nat} {p0:ai} {p1:ai} {r:Bool} (h:qM F p0 p1=some r):aM Tryz.prog 24 [ai.lv p0,ai.lv p1] (Mem.of []) (.bool r) (Mem.of []):=by
  unfold qM at h
  refine br Tryz.func24 R (nT Tryz.ntmps24 R) (LH.wk (aS [(0,ai.lv p0),(1,ai.lv p1)] []) (LH.aj [(2,.ag (ai.lv p0).cells),(3,.ag (ai.lv p1).cells)] [] R (sB (c7 R R R R (sB (c7 R R R R (b4 R zS))))) ?_))
  obtain ⟨w2,hv,h⟩:=ao h
  refine LH.aj [(4,.bool w2)] [] R ?_ ?_
  ·refine sN (aw e9 aD ba R R R (sN (bb R aD bQ (sN (aw e9 aD ba R R R (sN (bb R aD bQ (sN (gp R R (bD R ?_))))))))))
   by_cases bP:(p0.ID == p1.ID)=true
   ·replace hv:=aB hv bP
    refine sT R (cB bP) (aw fL aD ba R R R (sT R (cB bP) (bb R aD bQ (sT R (cB bP) (aw fL aD ba R R R (sT R (cB bP) (bb R aD bQ (sT R (cB bP) (gp R R (sN (aX (cB bP) (v:=(.bool _)) R (bD R ?_))))))))))))
    by_cases bu:(p0.Version == p1.Version)=true
    ·replace hv:=aB hv bu
     refine sT R (cB bu) (aw gV o8 xc R R R (sT R (cB bu) (bb R o8 DP (sT R (cB bu) (aw gV o8 xc R R R (sT R (cB bu) (bb R o8 DP (L4 R (cB bu) ((wm R R).ok) (sN (aX (cB bu) (v:=(.bool _)) R (bD R ?_)))))))))))
     by_cases bH:(decide (p0.bI=p1.bI))=true
     ·replace hv:=aB hv bH
      refine sT R (cB bH) (aw cZ c8 fC R R R (sT R (cB bH) (bb R c8 iT (sT R (cB bH) (bW (f:=aq.lv) gu R (sT R (cB bH) (aw cZ c8 fC R R R (sT R (cB bH) (bb R c8 iT (sT R (cB bH) (bW (f:=aq.lv) gu R (sT R (cB bH) (gp R R (sN (aX (cB bH) (v:=(.bool _)) R (bD R ?_))))))))))))))))
      by_cases b3:((p0.aG.length:Int) == (p1.aG.length:Int))=true
      ·replace hv:=aB hv b3
       refine sT R (cB b3) (bd R bT dO bN R R (sT R (cB b3) (bd R bT dO bN R R ?_)))
       obtain ⟨r7,Az,hv⟩:=ao hv
       refine sT R (cB b3) (dQ (args:=[ai.lv p0,ai.lv p1]) R Oy R (aH (aH bn)) (PN Az) R (sT R (cB b3) (bW (f:=LV.I) cE R (sT R (cB b3) (gp R R (sN (aX (cB b3) (v:=(.bool _)) R (bD R ?_))))))))
       by_cases dt:((r7.length:Int) == 0)=true
       ·replace hv:=aB hv dt
        refine sT R (cB dt) (aw fq eM jq R R R (sT R (cB dt) (bb R eM mo (sT R (cB dt) (aw fq eM jq R R R (sT R (cB dt) (bb R eM mo ?_)))))))
        obtain ⟨r9,AA,hv⟩:=ao hv
        refine sT R (cB dt) (dQ (args:=[.L p0.aE,.L p1.aE]) R Oz R (aH (aH bn)) (Qa AA) R (sN (aX (cB dt) (v:=(.bool _)) R (b4 R ?_))))
        obtain rfl:=oI hv
        exact zS
       ·replace dt:=bF dt
        replace hv:=aA hv dt
        refine sF R R dt (sF R R dt (sF R R dt (sF R R dt (sF R R dt (sN (aQ (cB dt) (v:=(.bool _)) R (b4 R ?_)))))))
        obtain rfl:=oI hv
        exact zS
      ·replace b3:=bF b3
       replace hv:=aA hv b3
       refine sF R R b3 (sF R R b3 (sF R R b3 (sF R R b3 (sF R R b3 (sN (aQ (cB b3) (v:=(.bool _)) R (bD R (sF R R R (sF R R R (sF R R R (sF R R R (sF R R R (sN (aQ R (v:=(.bool _)) R (b4 R ?_)))))))))))))))
       obtain rfl:=oI hv
       exact zS
     ·replace bH:=bF bH
      replace hv:=aA hv bH
      refine sF R R bH (sF R R bH (sF R R bH (sF R R bH (sF R R bH (sF R R bH (sF R R bH (sN (aQ (cB bH) (v:=(.bool _)) R (bD R (sF R R R (sF R R R (sF R R R (sF R R R (sF R R R (sN (aQ R (v:=(.bool _)) R (bD R (sF R R R (sF R R R (sF R R R (sF R R R (sF R R R (sN (aQ R (v:=(.bool _)) R (b4 R ?_)))))))))))))))))))))))))
      obtain rfl:=oI hv
      exact zS
    ·replace bu:=bF bu
     replace hv:=aA hv bu
     refine sF R R bu (sF R R bu (sF R R bu (sF R R bu (sF R R bu (sN (aQ (cB bu) (v:=(.bool _)) R (bD R (sF R R R (sF R R R (sF R R R (sF R R R (sF R R R (sF R R R (sF R R R (sN (aQ R (v:=(.bool _)) R (bD R (sF R R R (sF R R R (sF R R R (sF R R R (sF R R R (sN (aQ R (v:=(.bool _)) R (bD R (sF R R R (sF R R R (sF R R R (sF R R R (sF R R R (sN (aQ R (v:=(.bool _)) R (b4 R ?_)))))))))))))))))))))))))))))))))
     obtain rfl:=oI hv
     exact zS
   ·replace bP:=bF bP
    replace hv:=aA hv bP
    refine sF R R bP (sF R R bP (sF R R bP (sF R R bP (sF R R bP (sN (aQ (cB bP) (v:=(.bool _)) R (bD R (sF R R R (sF R R R (sF R R R (sF R R R (sF R R R (sN (aQ R (v:=(.bool _)) R (bD R (sF R R R (sF R R R (sF R R R (sF R R R (sF R R R (sF R R R (sF R R R (sN (aQ R (v:=(.bool _)) R (bD R (sF R R R (sF R R R (sF R R R (sF R R R (sF R R R (sN (aQ R (v:=(.bool _)) R (bD R (sF R R R (sF R R R (sF R R R (sF R R R (sF R R R (sN (aQ R (v:=(.bool _)) R (b4 R ?_)))))))))))))))))))))))))))))))))))))))))
    obtain rfl:=oI hv
    exact zS
  clear hv
  refine LH.ret ?_
  obtain rfl:=oI h
  exact aO (aT Tryz.results24) (bU R (bS ⟨aN mN,R,aZ R,Sub.rfl⟩))
theorem Qb {F:Nat} {p0:ax} {p1:ax} {r:Bool} (h:yO F p0 p1=some r):aM Tryz.prog 62 [ax.lv p0,ax.lv p1] (Mem.of []) (.bool r) (Mem.of []):=by
  unfold yO at h
  refine br Tryz.func62 R (nT Tryz.ntmps62 R) (LH.wk (aS [(0,ax.lv p0),(1,ax.lv p1)] []) (LH.aj [(2,.ag (ax.lv p0).cells),(3,.ag (ax.lv p1).cells)] [] R (sB (c7 R R R R (sB (c7 R R R R (b4 R zS))))) ?_))
  obtain ⟨w2,hv,h⟩:=ao h
  refine LH.aj [(4,.bool w2)] [] R ?_ ?_
  ·refine sN (aw dh cg b7 R R R (sN (bd R cg gj b7 R R (sN (aw dh cg b7 R R R (sN (bd R cg gj b7 R R (sN (Da R R (Et p0.ar p1.ar) (bD R ?_))))))))))
   by_cases bP:(decide (p0.ar=p1.ar))=true
   ·replace hv:=aB hv bP
    refine sT R (cB bP) (aw fb aD ba R R R (sT R (cB bP) (bb R aD bQ (sT R (cB bP) (aw fb aD ba R R R (sT R (cB bP) (bb R aD bQ (sT R (cB bP) (gp R R (sN (aX (cB bP) (v:=(.bool _)) R (bD R ?_))))))))))))
    by_cases bu:(p0.Kind == p1.Kind)=true
    ·replace hv:=aB hv bu
     refine sT R (cB bu) (aw eV gH gv R R R (sT R (cB bu) (bd R gH wL gv R R (sT R (cB bu) (aw eV gH gv R R R (sT R (cB bu) (bd R gH wL gv R R (sT R (cB bu) (Da R R (J6 p0.Ref p1.Ref) (sN (aX (cB bu) (v:=(.bool _)) R (bD R ?_))))))))))))
     by_cases bH:(decide (p0.Ref=p1.Ref))=true
     ·replace hv:=aB hv bH
      refine sT R (cB bH) (aw kY aD ba R R R (sT R (cB bH) (bb R aD bQ (sT R (cB bH) (aw kY aD ba R R R (sT R (cB bH) (bb R aD bQ (sT R (cB bH) (gp R R (sN (aX (cB bH) (v:=(.bool _)) R (bD R ?_))))))))))))
      by_cases b3:(p0.Form == p1.Form)=true
      ·replace hv:=aB hv b3
       refine sT R (cB b3) (aw fc bT bN R R R (sT R (cB b3) (bd R bT dO bN R R (sT R (cB b3) (aw fc bT bN R R R (sT R (cB b3) (bd R bT dO bN R R ?_)))))))
       obtain ⟨r7,Az,hv⟩:=ao hv
       refine sT R (cB b3) (dQ (args:=[ai.lv p0.Item,ai.lv p1.Item]) R BU R (aH (aH bn)) (Cd Az) R (sN (aX (cB b3) (v:=(.bool _)) R (b4 R ?_))))
       obtain rfl:=oI hv
       exact zS
      ·replace b3:=bF b3
       replace hv:=aA hv b3
       refine sF R R b3 (sF R R b3 (sF R R b3 (sF R R b3 (sF R R b3 (sN (aQ (cB b3) (v:=(.bool _)) R (b4 R ?_)))))))
       obtain rfl:=oI hv
       exact zS
     ·replace bH:=bF bH
      replace hv:=aA hv bH
      refine sF R R bH (sF R R bH (sF R R bH (sF R R bH (sF R R bH (sN (aQ (cB bH) (v:=(.bool _)) R (bD R (sF R R R (sF R R R (sF R R R (sF R R R (sF R R R (sN (aQ R (v:=(.bool _)) R (b4 R ?_)))))))))))))))
      obtain rfl:=oI hv
      exact zS
    ·replace bu:=bF bu
     replace hv:=aA hv bu
     refine sF R R bu (sF R R bu (sF R R bu (sF R R bu (sF R R bu (sN (aQ (cB bu) (v:=(.bool _)) R (bD R (sF R R R (sF R R R (sF R R R (sF R R R (sF R R R (sN (aQ R (v:=(.bool _)) R (bD R (sF R R R (sF R R R (sF R R R (sF R R R (sF R R R (sN (aQ R (v:=(.bool _)) R (b4 R ?_)))))))))))))))))))))))
     obtain rfl:=oI hv
     exact zS
   ·replace bP:=bF bP
    replace hv:=aA hv bP
    refine sF R R bP (sF R R bP (sF R R bP (sF R R bP (sF R R bP (sN (aQ (cB bP) (v:=(.bool _)) R (bD R (sF R R R (sF R R R (sF R R R (sF R R R (sF R R R (sN (aQ R (v:=(.bool _)) R (bD R (sF R R R (sF R R R (sF R R R (sF R R R (sF R R R (sN (aQ R (v:=(.bool _)) R (bD R (sF R R R (sF R R R (sF R R R (sF R R R (sF R R R (sN (aQ R (v:=(.bool _)) R (b4 R ?_)))))))))))))))))))))))))))))))
    obtain rfl:=oI hv
    exact zS
  clear hv
  refine LH.ret ?_
  obtain rfl:=oI h
  exact aO (aT Tryz.results62) (bU R (bS ⟨aN mN,R,aZ R,Sub.rfl⟩))
theorem JN {p0:aL} {r:Bool} (h:yG p0=some r):aM Tryz.prog 100 [.agg [.I p0.Time,.I p0.Source,.I p0.Seq]] (Mem.of []) (.bool r) (Mem.of []):=by
  unfold yG at h
  refine br Tryz.func100 R (nT Tryz.ntmps100 R) (LH.wk (aS [(0,.agg [.I p0.Time,.I p0.Source,.I p0.Seq])] []) (LH.aj [(1,.ag [.I p0.Time,.I p0.Source,.I p0.Seq])] [] R (sB (c7 R R R R (b4 R zS))) (LH.aj [(2,.bool ((decide (p0.Time ≥ 0)) && ((decide (p0.Time≤1000000)) && ((decide (p0.Source ≥ 0)) && ((decide (p0.Source≤99)) && ((decide (p0.Seq ≥ 0)) && (decide (p0.Seq≤9999))))))))] [] R ?_ ?_)))
  ·refine sN (aw fa aD ba R R R (sN (bb R aD bQ (sN (pJ R R (bD R ?_))))))
   by_cases cA:(decide (p0.Time ≥ 0))=true
   ·refine sT R (cB cA) (aw fa aD ba R R R (sT R (cB cA) (bb R aD bQ (sT R (cB cA) (Ib R R (sN (aX (cB cA) (v:=(.bool _)) R (bD R ?_))))))))
    by_cases bP:(decide (p0.Time≤1000000))=true
    ·refine sT R (cB bP) (aw eu aD ba R R R (sT R (cB bP) (bb R aD bQ (sT R (cB bP) (pJ R R (sN (aX (cB bP) (v:=(.bool _)) R (bD R ?_))))))))
     by_cases bu:(decide (p0.Source ≥ 0))=true
     ·refine sT R (cB bu) (aw eu aD ba R R R (sT R (cB bu) (bb R aD bQ (sT R (cB bu) (Ib R R (sN (aX (cB bu) (v:=(.bool _)) R (bD R ?_))))))))
      by_cases bH:(decide (p0.Source≤99))=true
      ·refine sT R (cB bH) (aw dI aD ba R R R (sT R (cB bH) (bb R aD bQ (sT R (cB bH) (pJ R R (sN (aX (cB bH) (v:=(.bool _)) R (bD R ?_))))))))
       by_cases b3:(decide (p0.Seq ≥ 0))=true
       ·exact sT R (cB b3) (aw dI aD ba R R R (sT R (cB b3) (bb R aD bQ (sT R (cB b3) (Ib R R (sN (aX (cB b3) (v:=(.bool _)) R (b4 R (s0 (Wk.to (eC (cB (Eq.trans (Eq.trans (Eq.trans (Eq.trans (dK b3) (dK bH)) (dK bu)) (dK bP)) (dK cA))) eN) mN R (aZ R)))))))))))
       ·replace b3:=bF b3
        exact sF R R b3 (sF R R b3 (sF R R b3 (sN (aQ (cB b3) (v:=(.bool _)) R (b4 R (s0 (Wk.to (eC (cB (Eq.trans (Eq.trans (Eq.trans (Eq.trans (ks b3) (dK bH)) (dK bu)) (dK bP)) (dK cA))) eN) mN R (aZ R))))))))
      ·replace bH:=bF bH
       exact sF R R bH (sF R R bH (sF R R bH (sN (aQ (cB bH) (v:=(.bool _)) R (bD R (sF R R R (sF R R R (sF R R R (sN (aQ R (v:=(.bool _)) R (b4 R (s0 (Wk.to (eC (cB (Eq.trans (Eq.trans (Eq.trans (ks bH) (dK bu)) (dK bP)) (dK cA))) eN) mN R (aZ R))))))))))))))
     ·replace bu:=bF bu
      exact sF R R bu (sF R R bu (sF R R bu (sN (aQ (cB bu) (v:=(.bool _)) R (bD R (sF R R R (sF R R R (sF R R R (sN (aQ R (v:=(.bool _)) R (bD R (sF R R R (sF R R R (sF R R R (sN (aQ R (v:=(.bool _)) R (b4 R (s0 (Wk.to (eC (cB (Eq.trans (Eq.trans (ks bu) (dK bP)) (dK cA))) eN) mN R (aZ R))))))))))))))))))))
    ·replace bP:=bF bP
     exact sF R R bP (sF R R bP (sF R R bP (sN (aQ (cB bP) (v:=(.bool _)) R (bD R (sF R R R (sF R R R (sF R R R (sN (aQ R (v:=(.bool _)) R (bD R (sF R R R (sF R R R (sF R R R (sN (aQ R (v:=(.bool _)) R (bD R (sF R R R (sF R R R (sF R R R (sN (aQ R (v:=(.bool _)) R (b4 R (s0 (Wk.to (eC (cB (Eq.trans (ks bP) (dK cA))) eN) mN R (aZ R))))))))))))))))))))))))))
   ·replace cA:=bF cA
    exact sF R R cA (sF R R cA (sF R R cA (sN (aQ (cB cA) (v:=(.bool _)) R (bD R (sF R R R (sF R R R (sF R R R (sN (aQ R (v:=(.bool _)) R (bD R (sF R R R (sF R R R (sF R R R (sN (aQ R (v:=(.bool _)) R (bD R (sF R R R (sF R R R (sF R R R (sN (aQ R (v:=(.bool _)) R (bD R (sF R R R (sF R R R (sF R R R (sN (aQ R (v:=(.bool _)) R (b4 R (s0 (Wk.to (eC (cB (ks cA)) eN) mN R (aZ R))))))))))))))))))))))))))))))))
  refine LH.ret ?_
  obtain rfl:=oI h
  exact aO (aT Tryz.results100) (bU R (bS ⟨aN mN,R,aZ R,Sub.rfl⟩))
theorem PM {p0:aL} {p1:aL} {p2:Int} {p3:Int} {r:Bool} (h:Ca p0 p1 p2 p3=some r):aM Tryz.prog 101 [.agg [.I p0.Time,.I p0.Source,.I p0.Seq],.agg [.I p1.Time,.I p1.Source,.I p1.Seq],.I p2,.I p3] (Mem.of []) (.bool r) (Mem.of []):=by
  unfold Ca at h
  refine br Tryz.func101 R (nT Tryz.ntmps101 R) (LH.wk (aS [(0,.agg [.I p0.Time,.I p0.Source,.I p0.Seq]),(1,.agg [.I p1.Time,.I p1.Source,.I p1.Seq]),(2,.I p2),(3,.I p3)] []) (LH.aj [(2,.I p2),(3,.I p3),(4,.ag [.I p0.Time,.I p0.Source,.I p0.Seq]),(5,.ag [.I p1.Time,.I p1.Source,.I p1.Seq])] [] R (sB (c7 R R R R (sB (c7 R R R R (b4 R zS))))) (LH.aj [(8,.bool ((p0.Source == p1.Source) && ((p0.Seq == p1.Seq) && ((p0.Time != p1.Time) || (p2 != p3)))))] [] R ?_ ?_)))
  ·refine sN (aw eu aD ba R R R (sN (bb R aD bQ (sN (aw eu aD ba R R R (sN (bb R aD bQ (sN (gp R R (bD R ?_))))))))))
   by_cases cA:(p0.Source == p1.Source)=true
   ·refine sT R (cB cA) (aw dI aD ba R R R (sT R (cB cA) (bb R aD bQ (sT R (cB cA) (aw dI aD ba R R R (sT R (cB cA) (bb R aD bQ (sT R (cB cA) (gp R R (sN (aX (cB cA) (v:=(.bool _)) R (bD R ?_))))))))))))
    by_cases bP:(p0.Seq == p1.Seq)=true
    ·refine sT R (cB bP) (aw fa aD ba R R R (sT R (cB bP) (bb R aD bQ (sT R (cB bP) (aw fa aD ba R R R (sT R (cB bP) (bb R aD bQ (sT R (cB bP) (jR R R (sT R (cB bP) (oM (v:=(.bool _)) R ?_)))))))))))
     by_cases bu:(p0.Time != p1.Time)=true
     ·exact sF R R bu (sF R R bu (sF R R bu (sT R (cB bP) (aX (cB bu) (v:=(.bool _)) R (sN (aX (cB bP) (v:=(.bool _)) R (b4 R (s0 (Wk.to (eC (cB (Eq.trans (Eq.trans (nL bu) (dK bP)) (dK cA))) eN) mN R (aZ R))))))))))
     ·replace bu:=bF bu
      exact sT R (cB bu) (oM (v:=(.int _ _)) R (sT R (cB bu) (oM (v:=(.int _ _)) R (sT R (cB bu) (jR R R (sT R (cB bP) (aQ (cB bu) (v:=(.bool _)) R (sN (aX (cB bP) (v:=(.bool _)) R (b4 R (s0 (Wk.to (eC (cB (Eq.trans (Eq.trans (gz bu) (dK bP)) (dK cA))) eN) mN R (aZ R)))))))))))))
    ·replace bP:=bF bP
     exact sF R R bP (sF R R bP (sF R R bP (sF R R bP (sF R R bP (sF R R bP (sU R R (sU R R (sU R R (sF R R bP (sN (aQ (cB bP) (v:=(.bool _)) R (b4 R (s0 (Wk.to (eC (cB (Eq.trans (ks bP) (dK cA))) eN) mN R (aZ R)))))))))))))))
   ·replace cA:=bF cA
    exact sF R R cA (sF R R cA (sF R R cA (sF R R cA (sF R R cA (sN (aQ (cB cA) (v:=(.bool _)) R (bD R (sF R R R (sF R R R (sF R R R (sF R R R (sF R R R (sF R R R (sU R R (sU R R (sU R R (sF R R R (sN (aQ R (v:=(.bool _)) R (b4 R (s0 (Wk.to (eC (cB (ks cA)) eN) mN R (aZ R)))))))))))))))))))))))
  refine LH.ret ?_
  obtain rfl:=oI h
  exact aO (aT Tryz.results101) (bU R (bS ⟨aN mN,R,aZ R,Sub.rfl⟩))
theorem PY {F:Nat} {p0:List aL} {p1:List Int} {p2:Int} {r:Bool} (h:yC F p0 p1 p2=some r):aM Tryz.prog 82 [.ak 3 (p0.map aL.lv),.L p1,.I p2] (Mem.of []) (.bool r) (Mem.of []):=by
  unfold yC at h
  refine br Tryz.func82 R (nT Tryz.ntmps82 R) (LH.wk (aS [(0,.ak 3 (p0.map aL.lv)),(1,.L p1),(2,.I p2)] []) (LH.aj [(0,.ak 3 (p0.map aL.lv)),(1,.L p1),(2,.I p2)] [] R (b4 R zS) (LH.seq ?_)))
  obtain ⟨x1,My,h⟩:=ao h
  obtain ⟨r2,fD,h⟩:=ao h
  refine LH.aj [(0,.ak 3 (p0.map aL.lv)),(1,.L p1),(2,.I p2),(13,.bool (!r2))] [] R (fp R (bj R (sN (eG (f:=aL.lv) eW cg b7 R R aL.ok My R (sN (bd R cg gj b7 R R (sN (dQ (args:=[.agg [.I x1.Time,.I x1.Source,.I x1.Seq]]) R FB R (aH bn) (JN fD) R (sN (kB R zS)))))))))) (LH.cond (t:=(!r2)) R (fun iK=>?_) (fun iK=>?_))
  ·replace h:=aB h iK
   refine LH.aj [(6,.bool false)] [] R (b4 R zS) (LH.ret (aW ?_))
   obtain rfl:=oI h
   exact aO (aT Tryz.results82) (bU R (bS ⟨aN mN,R,aZ R,Sub.rfl⟩))
  replace h:=aA h iK
  refine LH.skip (au (LH.wk (aS [(0,.ak 3 (p0.map aL.lv)),(1,.L p1),(2,.I p2)] []) (LH.seq (LH.aj [(0,.ak 3 (p0.map aL.lv)),(1,.L p1),(2,.I p2),(7,.I 0)] [] R (bo R zS) (LH.block (LH.loop (fun n e m=>∃ (n4:Int),Dx p0 p1 p2 n n4=some r∧e=Env.of [(0,.ak 3 (p0.map aL.lv)),(1,.L p1),(2,.I p2),(7,.I n4)]∧m=Mem.of []) F ⟨0,h,R,R⟩ ?_))))))
  clear h
  rintro n e m ⟨n4,h,rfl,rfl⟩
  rcases n with _ | n
  · cases (show Option.none=some _ from h)
  obtain ⟨aJ,a7⟩:∃ f,f=Dx p0 p1 p2 n:=⟨_,rfl⟩
  replace h:Ds p0 p1 p2 aJ n4=some r:=a7 ▸ h
  unfold Ds at h
  refine LH.seq (LH.aj [(0,.ak 3 (p0.map aL.lv)),(1,.L p1),(2,.I p2),(7,.I n4),(17,.bool (decide (n4<(p0.length:Int))))] [] R (bj R (fp R (sN (bW (f:=aL.lv) eW R (sN (fi R R zS)))))) (LH.cond (t:=(decide (n4<(p0.length:Int)))) R (fun jY=>?_) (fun jY=>?_)))
  ·replace h:=aB h jY
   refine LH.skip (au (LH.wk (aS [(0,.ak 3 (p0.map aL.lv)),(1,.L p1),(2,.I p2),(7,.I n4)] []) (LH.seq (LH.block ?_))))
   obtain ⟨w7,hv,h⟩:=ao h
   refine LH.di mixed [] [0,0,0,0,0,0,0,0,0,0,0,0,0,0,0,0,0,0,0,0,0,0,0,0,0,0,0,0,0,0,0,0,0,0,0,0,0,0,0,0] [(0,.ak 3 (p0.map aL.lv)),(1,.L p1),(2,.I p2),(7,.I n4),(59,.bool w7)] [] R R (by kernel_rfl) ?_ ?_
   ·refine rM R (fF R ?_)
    obtain ⟨x8,s6,hv⟩:=ao hv
    refine aF (eG (f:=aL.lv) eW cg b7 R R aL.ok s6 R ⟨R,aF (bd R cg gj b7 R R ⟨R,?_⟩)⟩)
    obtain ⟨r9,AA,hv⟩:=ao hv
    refine aF (dQ (args:=[.agg [.I x8.Time,.I x8.Source,.I x8.Seq]]) R FB R (aH bn) (JN AA) R ⟨R,iO R ?_⟩)
    by_cases bC:r9=true
    ·replace hv:=aB hv bC
     refine mT R (cB bC) (rM R (mT R (cB bC) (fF R ?_)))
     obtain ⟨bc,xI,hv⟩:=ao hv
     refine mT R (cB bC) (aF (eG (f:=aL.lv) eW cg b7 R R aL.ok xI R ⟨R,mT R (cB bC) (aF (bd R cg gj b7 R R ⟨R,mT R (cB bC) (rM R (mT R (cB bC) (fF R ?_)))⟩))⟩))
     obtain ⟨gC,pF,hv⟩:=ao hv
     refine mT R (cB bC) (aF (eG (f:=aL.lv) eW cg b7 R R aL.ok pF R ⟨R,mT R (cB bC) (aF (bd R cg gj b7 R R ⟨R,mT R (cB bC) (rM R (mT R (cB bC) (fF R ?_)))⟩))⟩))
     obtain ⟨fe,nI,hv⟩:=ao hv
     refine mT R (cB bC) (aF (eG (f:=LV.I) cE aD ba R R lY nI R ⟨R,mT R (cB bC) (aF (bb R aD bQ ⟨R,mT R (cB bC) (rM R (mT R (cB bC) (fF R ?_)))⟩))⟩))
     obtain ⟨nP,FA,hv⟩:=ao hv
     refine mT R (cB bC) (aF (eG (f:=LV.I) cE aD ba R R lY FA R ⟨R,mT R (cB bC) (aF (bb R aD bQ ⟨R,?_⟩))⟩))
     obtain ⟨gq,vY,hv⟩:=ao hv
     refine mT R (cB bC) (aF (dQ (args:=[.agg [.I bc.Time,.I bc.Source,.I bc.Seq],.agg [.I gC.Time,.I gC.Source,.I gC.Seq],.I fe,.I nP]) R Ly R (aH (aH (aH (aH bn)))) (PM vY) R ⟨R,mT R (cB bC) (iO R ?_)⟩))
     by_cases ga:gq=true
     ·replace hv:=aB hv ga
      refine mF R R ga (mF R R ga (mF R R ga (mF R R ga (mU R R (mU R R (mU R R (mU R R (mU R R (mU R R (mU R R (mU R R (mU R R (mF R R ga (mT R (cB bC) (aF (aX (cB ga) (v:=(.bool _)) R ⟨R,aF (aX (cB bC) (v:=(.bool _)) R ⟨R,?_⟩)⟩))))))))))))))))
      obtain rfl:=oI hv
      exact zM
     ·replace ga:=bF ga
      replace hv:=aA hv ga
      refine mT R (cB ga) (fF R (mT R (cB ga) (fF R (mT R (cB ga) (aF (fi R R ⟨R,mT R (cB ga) (iO R ?_)⟩))))))
      by_cases fE:(decide (n4<p2))=true
      ·replace hv:=aB hv fE
       refine mT R (cB fE) (rM R (mT R (cB fE) (fF R ?_)))
       obtain ⟨IL,Lj,hv⟩:=ao hv
       refine mT R (cB fE) (aF (eG (f:=aL.lv) eW cg b7 R R aL.ok Lj R ⟨R,mT R (cB fE) (aF (bd R cg gj b7 R R ⟨R,mT R (cB fE) (rM R (mT R (cB fE) (fF R ?_)))⟩))⟩))
       obtain ⟨Hw,Lk,hv⟩:=ao hv
       refine mT R (cB fE) (aF (eG (f:=aL.lv) eW cg b7 R R aL.ok Lk R ⟨R,mT R (cB fE) (aF (bd R cg gj b7 R R ⟨R,mT R (cB fE) (aF (Da R R (Et IL Hw) ⟨R,mT R (cB ga) (aF (aX (cB fE) (v:=(.bool _)) R ⟨R,mT R (cB bC) (aF (aQ (cB ga) (v:=(.bool _)) R ⟨R,aF (aX (cB bC) (v:=(.bool _)) R ⟨R,?_⟩)⟩))⟩))⟩))⟩))⟩))
       obtain rfl:=oI hv
       exact zM
      ·replace fE:=bF fE
       replace hv:=aA hv fE
       refine mF R R fE (mF R R fE (mF R R fE (mF R R fE (mF R R fE (mF R R fE (mF R R fE (mF R R fE (mF R R fE (mT R (cB ga) (aF (aQ (cB fE) (v:=(.bool _)) R ⟨R,mT R (cB bC) (aF (aQ (cB ga) (v:=(.bool _)) R ⟨R,aF (aX (cB bC) (v:=(.bool _)) R ⟨R,?_⟩)⟩))⟩)))))))))))
       obtain rfl:=oI hv
       exact zM
    ·replace bC:=bF bC
     replace hv:=aA hv bC
     refine mF R R bC (mF R R bC (mF R R bC (mF R R bC (mF R R bC (mF R R bC (mF R R bC (mF R R bC (mF R R bC (mF R R bC (mF R R bC (mF R R bC (mF R R bC (mF R R bC (mF R R bC (mF R R bC (mF R R bC (mF R R bC (mU R R (mU R R (mU R R (mU R R (mU R R (mU R R (mU R R (mU R R (mU R R (mU R R (mU R R (mU R R (mU R R (mU R R (mF R R bC (aF (aQ (cB bC) (v:=(.bool _)) R ⟨R,?_⟩))))))))))))))))))))))))))))))))))
     obtain rfl:=oI hv
     exact zM
   clear hv
   refine LH.cond (t:=w7) R (fun ky=>?_) (fun ky=>?_)
   ·replace h:=aB h ky
    refine LH.aj [(6,.bool false)] [] R (b4 R zS) (LH.ret (bB (aW (dF (bB (aW ?_))))))
    obtain rfl:=oI h
    exact aO (aT Tryz.results82) (bU R (bS ⟨aN mN,R,aZ R,Sub.rfl⟩))
   replace h:=aA h ky
   refine LH.skip (aY (au (LH.aU [(0,.ak 3 (p0.map aL.lv)),(1,.L p1),(2,.I p2),(7,.I (i64 (n4+1)))] [] R (bj R (sN (cD R R (bo R zS)))) ?_)))
   exact bh ⟨(i64 (n4+1)),a7 ▸ h,R,R⟩ (Wk.eq R R R R)
  replace h:=aA h jY
  refine LH.exit (cw (bY (bO (au (LH.aj [(6,.bool true)] [] R (b4 R zS) (LH.ret ?_))))))
  obtain rfl:=oI h
  exact aO (aT Tryz.results82) (bU R (bS ⟨aN mN,R,aZ R,Sub.rfl⟩))
theorem Cb {p0:Int} {p1:Int} {r:Int} (h:yV p0 p1=some r):aM Tryz.prog 102 [.I p0,.I p1] (Mem.of []) (.I r) (Mem.of []):=by
  unfold yV at h
  refine br Tryz.func102 R (nT Tryz.ntmps102 R) (LH.wk (aS [(0,.I p0),(1,.I p1)] []) (LH.aj [(0,.I p0),(1,.I p1)] [] R (bo R zS) (LH.seq (LH.aj [(0,.I p0),(1,.I p1),(7,.bool (decide (p0<p1)))] [] R (bj R (bj R (sN (fi R R zS)))) (LH.cond (t:=(decide (p0<p1))) R (fun jF=>?_) (fun jF=>?_))))))
  ·replace h:=aB h jF
   refine LH.aj [(4,.I (-1))] [] R (bo R zS) (LH.ret (aW ?_))
   obtain rfl:=oI h
   exact aO (aT Tryz.results102) (bU R (bS ⟨aN mN,R,aZ R,Sub.rfl⟩))
  replace h:=aA h jF
  refine LH.skip (au (LH.wk (aS [(0,.I p0),(1,.I p1)] []) (LH.seq (LH.aj [(10,.bool (decide (p0 > p1)))] [] R (bj R (bj R (sN (iP R R zS)))) (LH.cond (t:=(decide (p0 > p1))) R (fun eZ=>?_) (fun eZ=>?_))))))
  ·replace h:=aB h eZ
   refine LH.aj [(4,.I 1)] [] R (bo R zS) (LH.ret (aW ?_))
   obtain rfl:=oI h
   exact aO (aT Tryz.results102) (bU R (bS ⟨aN mN,R,aZ R,Sub.rfl⟩))
  replace h:=aA h eZ
  refine LH.skip (au (LH.aj [(4,.I 0)] [] R (bo R zS) (LH.ret ?_)))
  obtain rfl:=oI h
  exact aO (aT Tryz.results102) (bU R (bS ⟨aN mN,R,aZ R,Sub.rfl⟩))
theorem PT {p0:aL} {p1:aL} {r:Int} (h:yy p0 p1=some r):aM Tryz.prog 83 [.agg [.I p0.Time,.I p0.Source,.I p0.Seq],.agg [.I p1.Time,.I p1.Source,.I p1.Seq]] (Mem.of []) (.I r) (Mem.of []):=by
  unfold yy at h
  refine br Tryz.func83 R (nT Tryz.ntmps83 R) (LH.wk (aS [(0,.agg [.I p0.Time,.I p0.Source,.I p0.Seq]),(1,.agg [.I p1.Time,.I p1.Source,.I p1.Seq])] []) (LH.aj [(2,.ag [.I p0.Time,.I p0.Source,.I p0.Seq]),(3,.ag [.I p1.Time,.I p1.Source,.I p1.Seq])] [] R (sB (c7 R R R R (sB (c7 R R R R (bo R zS))))) ?_))
  obtain ⟨r1,ee,h⟩:=ao h
  refine LH.aj [(2,.ag [.I p0.Time,.I p0.Source,.I p0.Seq]),(3,.ag [.I p1.Time,.I p1.Source,.I p1.Seq]),(5,.I r1)] [] R (sN (aw fa aD ba R R R (sN (bb R aD bQ (sN (aw fa aD ba R R R (sN (bb R aD bQ (sN (dQ (args:=[.I p0.Time,.I p1.Time]) R wc R (aH (aH bn)) (Cb ee) R (bo R zS))))))))))) (LH.seq (LH.aj [(2,.ag [.I p0.Time,.I p0.Source,.I p0.Seq]),(3,.ag [.I p1.Time,.I p1.Source,.I p1.Seq]),(5,.I r1),(12,.bool (r1 == 0))] [] R (bj R (sN (gp R R zS))) (LH.cond (t:=(r1 == 0)) R (fun eZ=>?_) (fun eZ=>?_))))
  ·replace h:=aB h eZ
   obtain ⟨r3,nW,h⟩:=ao h
   refine LH.aU [(2,.ag [.I p0.Time,.I p0.Source,.I p0.Seq]),(3,.ag [.I p1.Time,.I p1.Source,.I p1.Seq]),(5,.I r3)] [] R (sN (aw eu aD ba R R R (sN (bb R aD bQ (sN (aw eu aD ba R R R (sN (bb R aD bQ (sN (dQ (args:=[.I p0.Source,.I p1.Source]) R wc R (aH (aH bn)) (Cb nW) R (bo R zS))))))))))) (au (LH.seq (LH.aj [(2,.ag [.I p0.Time,.I p0.Source,.I p0.Seq]),(3,.ag [.I p1.Time,.I p1.Source,.I p1.Seq]),(5,.I r3),(19,.bool (r3 == 0))] [] R (bj R (sN (gp R R zS))) (LH.cond (t:=(r3 == 0)) R (fun im=>?_) (fun im=>?_)))))
   ·replace h:=aB h im
    obtain ⟨r5,Ay,h⟩:=ao h
    refine LH.aU [(5,.I r5)] [] R (sN (aw dI aD ba R R R (sN (bb R aD bQ (sN (aw dI aD ba R R R (sN (bb R aD bQ (sN (dQ (args:=[.I p0.Seq,.I p1.Seq]) R wc R (aH (aH bn)) (Cb Ay) R (bo R zS))))))))))) (au (LH.aj [(4,.I r5)] [] R (bj R (bo R zS)) (LH.ret ?_)))
    obtain rfl:=oI h
    exact aO (aT Tryz.results83) (bU R (bS ⟨aN mN,R,aZ R,Sub.rfl⟩))
   replace h:=aA h im
   refine LH.skip (au (LH.aj [(4,.I r3)] [] R (bj R (bo R zS)) (LH.ret ?_)))
   obtain rfl:=oI h
   exact aO (aT Tryz.results83) (bU R (bS ⟨aN mN,R,aZ R,Sub.rfl⟩))
  replace h:=aA h eZ
  refine LH.skip (au (LH.wk (aS [(2,.ag [.I p0.Time,.I p0.Source,.I p0.Seq]),(3,.ag [.I p1.Time,.I p1.Source,.I p1.Seq]),(5,.I r1)] []) (LH.seq (LH.aj [(2,.ag [.I p0.Time,.I p0.Source,.I p0.Seq]),(3,.ag [.I p1.Time,.I p1.Source,.I p1.Seq]),(5,.I r1),(19,.bool (r1 == 0))] [] R (bj R (sN (gp R R zS))) (LH.cond (t:=(r1 == 0)) R (fun fP=>?_) (fun fP=>?_))))))
  ·replace h:=aB h fP
   obtain ⟨r7,Az,h⟩:=ao h
   refine LH.aU [(5,.I r7)] [] R (sN (aw dI aD ba R R R (sN (bb R aD bQ (sN (aw dI aD ba R R R (sN (bb R aD bQ (sN (dQ (args:=[.I p0.Seq,.I p1.Seq]) R wc R (aH (aH bn)) (Cb Az) R (bo R zS))))))))))) (au (LH.aj [(4,.I r7)] [] R (bj R (bo R zS)) (LH.ret ?_)))
   obtain rfl:=oI h
   exact aO (aT Tryz.results83) (bU R (bS ⟨aN mN,R,aZ R,Sub.rfl⟩))
  replace h:=aA h fP
  refine LH.skip (au (LH.aj [(4,.I r1)] [] R (bj R (bo R zS)) (LH.ret ?_)))
  obtain rfl:=oI h
  exact aO (aT Tryz.results83) (bU R (bS ⟨aN mN,R,aZ R,Sub.rfl⟩))
theorem PF {F:Nat} {p0:List aL} {p1:List Int} {r:List Int × Int} (h:Dw F p0 p1=some r):aM Tryz.prog 63 [.ak 3 (p0.map aL.lv),.L p1] (Mem.of []) (.cX [.L r.1,.I r.2]) (Mem.of []):=by
  unfold Dw at h
  refine br Tryz.func63 R (nT Tryz.ntmps63 R) (LH.wk (aS [(0,.ak 3 (p0.map aL.lv)),(1,.L p1)] []) (LH.aj [(0,.ak 3 (p0.map aL.lv)),(1,.L p1)] [] R (kX R (bo R zS)) (LH.seq (LH.aj [(0,.ak 3 (p0.map aL.lv)),(1,.L p1),(14,.bool ((p1.length:Int) != (p0.length:Int)))] [] R (fp R (sN (bW (f:=LV.I) cE R (fp R (sN (bW (f:=aL.lv) eW R (sN (jR R R zS)))))))) (LH.cond (t:=((p1.length:Int) != (p0.length:Int))) R (fun jF=>?_) (fun jF=>?_))))))
  ·replace h:=aB h jF
   refine LH.aj [(4,.nil),(5,.I 1)] [] R (kX R (bo R zS)) (LH.ret (aW ?_))
   obtain rfl:=oI h
   exact aO (aT Tryz.results63) (bU R (bU R (bS ⟨aN mN,R,aZ R,(Sub.cX (oV (aH bn)))⟩)))
  replace h:=aA h jF
  refine LH.skip (au (LH.aj [(0,.ak 3 (p0.map aL.lv)),(1,.L p1),(6,.nil)] [] R (kX R zS) (LH.seq (LH.aj [(0,.ak 3 (p0.map aL.lv)),(1,.L p1),(6,.nil),(7,.I 0)] [] R (bo R zS) (LH.block (LH.wk (Wk.to (el:=[(0,.ak 3 (p0.map aL.lv)),(1,.L p1),(6,.L ([]:List Int)),(7,.I 0)]) (ml:=[]) (eC R (eC R (eL R (eC R eN)))) mN R (aZ R)) (LH.loop (fun n e m=>∃ (l2:List Int) (n3:Int),Dp F p0 p1 n l2 n3=some r∧e=Env.of [(0,.ak 3 (p0.map aL.lv)),(1,.L p1),(6,.L l2),(7,.I n3)]∧m=Mem.of []) F ⟨([]:List Int),0,h,R,R⟩ ?_)))))))
  clear h
  rintro n e m ⟨l2,n3,h,rfl,rfl⟩
  rcases n with _ | n
  · cases (show Option.none=some _ from h)
  obtain ⟨aJ,a7⟩:∃ f,f=Dp F p0 p1 n:=⟨_,rfl⟩
  replace h:Gu F p0 p1 aJ l2 n3=some r:=a7 ▸ h
  unfold Gu at h
  refine LH.seq (LH.aj [(0,.ak 3 (p0.map aL.lv)),(1,.L p1),(6,.L l2),(7,.I n3),(18,.bool (decide (n3<(p0.length:Int))))] [] R (bj R (fp R (sN (bW (f:=aL.lv) eW R (sN (fi R R zS)))))) (LH.cond (t:=(decide (n3<(p0.length:Int)))) R (fun im=>?_) (fun im=>?_)))
  ·replace h:=aB h im
   refine LH.skip (au (LH.wk (aS [(0,.ak 3 (p0.map aL.lv)),(1,.L p1),(6,.L l2),(7,.I n3)] []) (LH.seq (LH.block (LH.seq ?_)))))
   obtain ⟨r5,Ay,h⟩:=ao h
   refine LH.aj [(0,.ak 3 (p0.map aL.lv)),(1,.L p1),(6,.L l2),(7,.I n3),(25,.bool (!r5))] [] R (fp R (fp R (bj R (sN (dQ (args:=[.ak 3 (p0.map aL.lv),.L p1,.I n3]) R O0 R (aH (aH (aH bn))) (PY Ay) R (sN (kB R zS))))))) (LH.cond (t:=(!r5)) R (fun fP=>?_) (fun fP=>?_))
   ·replace h:=aB h fP
    refine LH.exit (cw (bO (au (LH.aU [(0,.ak 3 (p0.map aL.lv)),(1,.L p1),(6,.L l2),(7,.I (i64 (n3+1)))] [] R (bj R (sN (cD R R (bo R zS)))) ?_))))
    exact bh ⟨l2,(i64 (n3+1)),a7 ▸ h,R,R⟩ (Wk.eq R R R R)
   replace h:=aA h fP
   refine LH.skip (au (LH.aj [(0,.ak 3 (p0.map aL.lv)),(1,.L p1),(6,.L l2),(7,.I n3),(8,.I (l2.length:Int))] [] R (fp R (sN (bW (f:=LV.I) cE R (bo R zS)))) (LH.seq (LH.block (LH.loop (fun n e m=>∃ (n7:Int),Dq aJ p0 l2 n3 n n7=some r∧e=Env.of [(0,.ak 3 (p0.map aL.lv)),(1,.L p1),(6,.L l2),(7,.I n3),(8,.I n7)]∧m=Mem.of []) F ⟨(l2.length:Int),h,R,R⟩ ?_)))))
   clear h
   rintro n e m ⟨n7,h,rfl,rfl⟩
   rcases n with _ | n
   · cases (show Option.none=some _ from h)
   obtain ⟨fo,eB⟩:∃ f,f=Dq aJ p0 l2 n3 n:=⟨_,rfl⟩
   replace h:Gv aJ p0 l2 n3 fo n7=some r:=eB ▸ h
   unfold Gv at h
   refine LH.seq ?_
   obtain ⟨w9,hv,h⟩:=ao h
   refine LH.di mixed [] [0,0,0,0,0,0,0,0,0,0,0,0,0,0,0,0,0,0] [(0,.ak 3 (p0.map aL.lv)),(1,.L p1),(6,.L l2),(7,.I n3),(8,.I n7),(45,.bool w9)] [] R R (by kernel_rfl) ?_ ?_
   ·refine fF R (aF (iP R R ⟨R,iO R ?_⟩))
    by_cases bC:(decide (n7 > 0))=true
    ·replace hv:=aB hv bC
     refine mT R (cB bC) (rM R (mT R (cB bC) (rM R (mT R (cB bC) (fF R (mT R (cB bC) (aF (iA R R ⟨R,?_⟩))))))))
     obtain ⟨bc,xI,hv⟩:=ao hv
     refine mT R (cB bC) (aF (eG (f:=LV.I) cE aD ba R R lY xI R ⟨R,mT R (cB bC) (aF (bb R aD bQ ⟨R,?_⟩))⟩))
     obtain ⟨gC,pF,hv⟩:=ao hv
     refine mT R (cB bC) (aF (eG (f:=aL.lv) eW cg b7 R R aL.ok pF R ⟨R,mT R (cB bC) (aF (bd R cg gj b7 R R ⟨R,mT R (cB bC) (rM R (mT R (cB bC) (fF R ?_)))⟩))⟩))
     obtain ⟨fe,nI,hv⟩:=ao hv
     refine mT R (cB bC) (aF (eG (f:=aL.lv) eW cg b7 R R aL.ok nI R ⟨R,mT R (cB bC) (aF (bd R cg gj b7 R R ⟨R,?_⟩))⟩))
     obtain ⟨fg,vX,hv⟩:=ao hv
     refine mT R (cB bC) (aF (dQ (args:=[.agg [.I gC.Time,.I gC.Source,.I gC.Seq],.agg [.I fe.Time,.I fe.Source,.I fe.Seq]]) R O1 R (aH (aH bn)) (PT vX) R ⟨R,mT R (cB bC) (aF (iP R R ⟨R,aF (aX (cB bC) (v:=(.bool _)) R ⟨R,?_⟩)⟩))⟩))
     obtain rfl:=oI hv
     exact zM
    ·replace bC:=bF bC
     replace hv:=aA hv bC
     refine mF R R bC (mF R R bC (mF R R bC (mF R R bC (mF R R bC (mF R R bC (mF R R bC (mF R R bC (mF R R bC (mF R R bC (mF R R bC (mF R R bC (mF R R bC (mF R R bC (aF (aQ (cB bC) (v:=(.bool _)) R ⟨R,?_⟩)))))))))))))))
     obtain rfl:=oI hv
     exact zM
   clear hv
   refine LH.cond (t:=w9) R (fun kx=>?_) (fun kx=>?_)
   ·replace h:=aB h kx
    refine LH.skip (au (LH.wk (aS [(0,.ak 3 (p0.map aL.lv)),(1,.L p1),(6,.L l2),(7,.I n3),(8,.I n7)] []) (LH.block (LH.aU [(0,.ak 3 (p0.map aL.lv)),(1,.L p1),(6,.L l2),(7,.I n3),(8,.I (i64 (n7 - 1)))] [] R (bj R (sN (iA R R (bo R zS)))) (aY ?_)))))
    exact bh ⟨(i64 (n7 - 1)),eB ▸ h,R,R⟩ (Wk.eq R R R R)
   replace h:=aA h kx
   refine LH.exit (cw (bY (bO (au (LH.aj [(0,.ak 3 (p0.map aL.lv)),(1,.L p1),(6,.L l2),(7,.I n3),(8,.I n7),(9,.nil)] [] R (kX R zS) ?_)))))
   obtain ⟨Ec,Lb,h⟩:=ao h
   obtain ⟨v17,SR,h⟩:=ao h
   refine LH.aj [(0,.ak 3 (p0.map aL.lv)),(1,.L p1),(6,.L l2),(7,.I n3),(8,.I n7),(9,.arr 152 v17.length)] [(152,.arr 3 1 (v17.map LV.I))] R (Iv R (fp R (bj R (sN (TE (f:=LV.I) cE aD ba R R R Lb (sN (C9 (f:=LV.I) (id:=152) R cE qV ba R R SR R (nM R zS)))))))) ?_
   obtain ⟨pV,Fv,h⟩:=ao h
   refine LH.aj [(0,.ak 3 (p0.map aL.lv)),(1,.L p1),(6,.L l2),(7,.I n3),(8,.I n7),(9,.arr 152 pV.length)] [(152,.arr 3 1 (pV.map LV.I))] R (j0 R (bj R (sN (jZ (f:=LV.I) (ys:=[n3]) cE qV ba R R R lY (sN (nw (f:=LV.I) cE qV ba R R (bM R) R Fv (nM R zS))))))) ?_
   obtain ⟨qY,Fw,h⟩:=ao h
   obtain ⟨v20,Lc,h⟩:=ao h
   refine LH.aj [(0,.ak 3 (p0.map aL.lv)),(1,.L p1),(7,.I n3),(9,.L v20)] [] R (j0 R (fp R (bj R (sN (TE (f:=LV.I) cE aD ba R R R Fw (sN (nw (f:=LV.I) cE qV ba R R (bM R) R Lc (nM R (s0 ((Wk.trans (aS [(0,.ak 3 (p0.map aL.lv)),(1,.L p1),(7,.I n3),(9,.arr 152 v20.length)] [(152,.arr 3 1 (v20.map LV.I))]) (Wk.trans (Wk.lk (f:=LV.I) (fy:=[(0,.ak 3 (p0.map aL.lv)),(1,.L p1),(7,.I n3),(9,.L v20)]) 152 3 1 v20 R R (bM R) (fK R (fK R (fK R (fZ fN))))) (Wk.eq R R R R))))))))))))) (LH.aU [(0,.ak 3 (p0.map aL.lv)),(1,.L p1),(6,.L v20),(7,.I n3)] [] R (fp R (qR R zS)) (aY (au (LH.aU [(0,.ak 3 (p0.map aL.lv)),(1,.L p1),(6,.L v20),(7,.I (i64 (n3+1)))] [] R (bj R (sN (cD R R (bo R zS)))) ?_))))
   exact bh ⟨v20,(i64 (n3+1)),a7 ▸ h,R,R⟩ (Wk.eq R R R R)
  replace h:=aA h im
  refine LH.exit (cw (bY (bO (au (LH.wk (aS [(6,.L l2)] []) (LH.seq (LH.aj [(6,.L l2),(65,.bool (decide ((l2.length:Int) > 300)))] [] R (fp R (sN (bW (f:=LV.I) cE R (sN (iP R R zS))))) (LH.cond (t:=(decide ((l2.length:Int) > 300))) R (fun ov=>?_) (fun ov=>?_)))))))))
  ·replace h:=aB h ov
   refine LH.aj [(4,.nil),(5,.I 3)] [] R (kX R (bo R zS)) (LH.ret (aW ?_))
   obtain rfl:=oI h
   exact aO (aT Tryz.results63) (bU R (bU R (bS ⟨aN mN,R,aZ R,(Sub.cX (oV (aH bn)))⟩)))
  replace h:=aA h ov
  refine LH.skip (au (LH.aj [(4,.L l2),(5,.I 0)] [] R (fp R (qR R (bo R zS))) (LH.ret ?_)))
  obtain rfl:=oI h
  exact aO (aT Tryz.results63) (bU R (bU R (bS ⟨aN mN,R,aZ R,(Sub.cX (aH (aH bn)))⟩)))
theorem PH {F:Nat} {p0:List ax} {r:List ax × Int} (h:B9 F p0=some r):aM Tryz.prog 34 [.ak 12 (p0.map ax.lv)] (Mem.of []) (.cX [.ak 12 (r.1.map ax.lv),.I r.2]) (Mem.of []):=by
  unfold B9 at h
  refine br Tryz.func34 R (nT Tryz.ntmps34 R) (LH.wk (aS [(0,.ak 12 (p0.map ax.lv))] []) (LH.aj [(0,.ak 12 (p0.map ax.lv))] [] R (kX R (bo R zS)) (LH.aj [(0,.ak 12 (p0.map ax.lv)),(4,.nil)] [] R (kX R zS) (LH.aj [(0,.ak 12 (p0.map ax.lv)),(4,.nil),(5,.nil)] [] R (kX R zS) (LH.seq (LH.aj [(0,.ak 12 (p0.map ax.lv)),(4,.nil),(5,.nil),(6,.I 0)] [] R (bo R zS) (LH.block (LH.wk ((Wk.trans (aS [(0,.ak 12 (p0.map ax.lv)),(4,.nil),(5,.nil),(6,.I 0)] []) (Wk.trans (aS [(0,.ak 12 (p0.map ax.lv)),(4,.nil),(5,.nil),(6,.I 0)] []) (Wk.trans (Wk.tt (fy:=[(0,.ak 12 (p0.map ax.lv)),(4,.arr 143 (List.length ([]:List aL))),(5,.nil),(6,.I 0)]) 143 61 3 R R (wK (wO (wK (wK wN))))) (Wk.trans (aS [(0,.ak 12 (p0.map ax.lv)),(4,.arr 143 (List.length ([]:List aL))),(5,.nil),(6,.I 0)] [(143,.arr 61 3 (List.map aL.lv ([]:List aL)))]) (Wk.trans (Wk.tt (fy:=[(0,.ak 12 (p0.map ax.lv)),(4,.arr 143 (List.length ([]:List aL))),(5,.arr 147 (List.length ([]:List Int))),(6,.I 0)]) 147 3 1 R R (wK (wK (wO (wK wN))))) (aS [(0,.ak 12 (p0.map ax.lv)),(4,.arr 143 (List.length ([]:List aL))),(5,.arr 147 (List.length ([]:List Int))),(6,.I 0)] [(143,.arr 61 3 (List.map aL.lv ([]:List aL))),(147,.arr 3 1 (List.map LV.I ([]:List Int)))]))))))) (LH.loop (fun n e m=>∃ (n1:Int) (l2:List aL) (l3:List Int),yP F p0 n n1 l2 l3=some r∧e=Env.of [(0,.ak 12 (p0.map ax.lv)),(4,.arr 143 l2.length),(5,.arr 147 l3.length),(6,.I n1)]∧m=Mem.of [(143,.arr 61 3 (l2.map aL.lv)),(147,.arr 3 1 (l3.map LV.I))]) F ⟨0,([]:List aL),([]:List Int),h,R,R⟩ ?_)))))))))
  clear h
  rintro n e m ⟨n1,l2,l3,h,rfl,rfl⟩
  rcases n with _ | n
  · cases (show Option.none=some _ from h)
  obtain ⟨aJ,a7⟩:∃ f,f=yP F p0 n:=⟨_,rfl⟩
  replace h:Gw F p0 aJ n1 l2 l3=some r:=a7 ▸ h
  unfold Gw at h
  refine LH.seq (LH.aj [(0,.ak 12 (p0.map ax.lv)),(4,.arr 143 l2.length),(5,.arr 147 l3.length),(6,.I n1),(16,.bool (decide (n1<(p0.length:Int))))] [(143,.arr 61 3 (l2.map aL.lv)),(147,.arr 3 1 (l3.map LV.I))] R (bj R (fp R (sN (bW (f:=ax.lv) gA R (sN (fi R R zS)))))) (LH.cond (t:=(decide (n1<(p0.length:Int)))) R (fun im=>?_) (fun im=>?_)))
  ·replace h:=aB h im
   refine LH.skip (au (LH.wk (aS [(0,.ak 12 (p0.map ax.lv)),(4,.arr 143 l2.length),(5,.arr 147 l3.length),(6,.I n1)] [(143,.arr 61 3 (l2.map aL.lv)),(147,.arr 3 1 (l3.map LV.I))]) (LH.seq (LH.block (LH.aj [(0,.ak 12 (p0.map ax.lv)),(4,.arr 143 l2.length),(5,.arr 147 l3.length),(6,.I n1),(7,.I n1)] [(143,.arr 61 3 (l2.map aL.lv)),(147,.arr 3 1 (l3.map LV.I))] R (bj R (bo R zS)) (LH.seq (LH.aj [(0,.ak 12 (p0.map ax.lv)),(4,.arr 143 l2.length),(5,.arr 147 l3.length),(6,.I n1),(7,.I n1),(8,.I (i64 (n1 - 1)))] [(143,.arr 61 3 (l2.map aL.lv)),(147,.arr 3 1 (l3.map LV.I))] R (bj R (sN (iA R R (bo R zS)))) (LH.block (LH.loop (fun n e m=>∃ (n5:Int) (n6:Int),A0 aJ F p0 n1 l2 l3 n n5 n6=some r∧e=Env.of [(0,.ak 12 (p0.map ax.lv)),(4,.arr 143 l2.length),(5,.arr 147 l3.length),(6,.I n1),(7,.I n5),(8,.I n6)]∧m=Mem.of [(143,.arr 61 3 (l2.map aL.lv)),(147,.arr 3 1 (l3.map LV.I))]) F ⟨n1,(i64 (n1 - 1)),h,R,R⟩ ?_)))))))))
   clear h
   rintro n e m ⟨n5,n6,h,rfl,rfl⟩
   rcases n with _ | n
   · cases (show Option.none=some _ from h)
   obtain ⟨fo,eB⟩:∃ f,f=A0 aJ F p0 n1 l2 l3 n:=⟨_,rfl⟩
   replace h:Gx aJ F p0 n1 l2 l3 fo n5 n6=some r:=eB ▸ h
   unfold Gx at h
   refine LH.seq (LH.aj [(0,.ak 12 (p0.map ax.lv)),(4,.arr 143 l2.length),(5,.arr 147 l3.length),(6,.I n1),(7,.I n5),(8,.I n6),(23,.bool (decide (n6 ≥ 0)))] [(143,.arr 61 3 (l2.map aL.lv)),(147,.arr 3 1 (l3.map LV.I))] R (bj R (sN (pJ R R zS))) (LH.cond (t:=(decide (n6 ≥ 0))) R (fun jG=>?_) (fun jG=>?_)))
   ·replace h:=aB h jG
    refine LH.skip (au (LH.wk (aS [(0,.ak 12 (p0.map ax.lv)),(4,.arr 143 l2.length),(5,.arr 147 l3.length),(6,.I n1),(7,.I n5),(8,.I n6)] [(143,.arr 61 3 (l2.map aL.lv)),(147,.arr 3 1 (l3.map LV.I))]) (LH.seq (LH.block ?_))))
    obtain ⟨x8,s6,h⟩:=ao h
    obtain ⟨x9,wZ,h⟩:=ao h
    obtain ⟨dy,qb,h⟩:=ao h
    refine LH.di mixed [] [0,0,0,0,0,0,0,0,0] [(0,.ak 12 (p0.map ax.lv)),(4,.arr 143 l2.length),(5,.arr 147 l3.length),(6,.I n1),(7,.I n5),(8,.I n6),(34,.bool dy)] [(143,.arr 61 3 (l2.map aL.lv)),(147,.arr 3 1 (l3.map LV.I))] R R (by kernel_rfl) (rM R (fF R (aF (eG (f:=ax.lv) gA fB eA R R ax.ok s6 R ⟨R,aF (bd R fB mq eA R R ⟨R,rM R (fF R (aF (eG (f:=ax.lv) gA fB eA R R ax.ok wZ R ⟨R,aF (bd R fB mq eA R R ⟨R,aF (dQ (args:=[ax.lv x8,ax.lv x9]) R ON R (aH (aH bn)) (Qb qb) R ⟨R,zM⟩)⟩)⟩)))⟩)⟩)))) (LH.cond (t:=dy) R (fun iI=>?_) (fun iI=>?_))
    ·replace h:=aB h iI
     refine LH.aU [(0,.ak 12 (p0.map ax.lv)),(4,.arr 143 l2.length),(5,.arr 147 l3.length),(6,.I n1),(7,.I n6),(8,.I n6)] [(143,.arr 61 3 (l2.map aL.lv)),(147,.arr 3 1 (l3.map LV.I))] R (bj R (bo R zS)) (aY (au (LH.aU [(0,.ak 12 (p0.map ax.lv)),(4,.arr 143 l2.length),(5,.arr 147 l3.length),(6,.I n1),(7,.I n6),(8,.I (i64 (n6 - 1)))] [(143,.arr 61 3 (l2.map aL.lv)),(147,.arr 3 1 (l3.map LV.I))] R (bj R (sN (iA R R (bo R zS)))) ?_)))
     exact bh ⟨n6,(i64 (n6 - 1)),eB ▸ h,R,R⟩ (Wk.eq R R R R)
    replace h:=aA h iI
    refine LH.skip (aY (au (LH.aU [(0,.ak 12 (p0.map ax.lv)),(4,.arr 143 l2.length),(5,.arr 147 l3.length),(6,.I n1),(7,.I n5),(8,.I (i64 (n6 - 1)))] [(143,.arr 61 3 (l2.map aL.lv)),(147,.arr 3 1 (l3.map LV.I))] R (bj R (sN (iA R R (bo R zS)))) ?_)))
    exact bh ⟨n5,(i64 (n6 - 1)),eB ▸ h,R,R⟩ (Wk.eq R R R R)
   replace h:=aA h jG
   refine LH.exit (cw (bY (bO (au ?_))))
   obtain ⟨gC,pF,h⟩:=ao h
   obtain ⟨rU,Fu,h⟩:=ao h
   obtain ⟨kL,AB,h⟩:=ao h
   refine LH.aU [(0,.ak 12 (p0.map ax.lv)),(4,.arr 143 rU.length),(5,.arr 147 kL.length),(6,.I n1)] [(143,.arr 61 3 (rU.map aL.lv)),(147,.arr 3 1 (kL.map LV.I))] R ?_ ?_
   ·exact j0 R (fp R (bj R (sN (eG (f:=ax.lv) gA fB eA R R ax.ok pF R (sN (aw dh cg b7 R R R (sN (bd R cg gj b7 R R (sN (jZ (f:=aL.lv) (ys:=[gC.ar]) eW Ma b7 R R R aL.ok (sN (nw (f:=aL.lv) eW Ma b7 R R (bM R) R Fu (j0 R (bj R (sN (jZ (f:=LV.I) (ys:=[n5]) cE qV ba R R R lY (sN (nw (f:=LV.I) cE qV ba R R (bM R) R AB (nM R (nM R zS))))))))))))))))))))
   refine aY (au (LH.aU [(0,.ak 12 (p0.map ax.lv)),(4,.arr 143 rU.length),(5,.arr 147 kL.length),(6,.I (i64 (n1+1)))] [(143,.arr 61 3 (rU.map aL.lv)),(147,.arr 3 1 (kL.map LV.I))] R (bj R (sN (cD R R (bo R zS)))) ?_))
   exact bh ⟨(i64 (n1+1)),rU,kL,a7 ▸ h,R,R⟩ (Wk.eq R R R R)
  replace h:=aA h im
  refine LH.exit (cw (bY (bO (au (LH.wk ((Wk.trans (aS [(0,.ak 12 (p0.map ax.lv)),(4,.arr 143 l2.length),(5,.arr 147 l3.length)] [(143,.arr 61 3 (l2.map aL.lv)),(147,.arr 3 1 (l3.map LV.I))]) (Wk.trans (Wk.lk (f:=aL.lv) (fy:=[(0,.ak 12 (p0.map ax.lv)),(4,.ak 3 (l2.map aL.lv)),(5,.arr 147 l3.length)]) 143 61 3 l2 R R (bM R) (fK R (fZ (fK R fN)))) (Wk.trans (Wk.lk (f:=LV.I) (fy:=[(0,.ak 12 (p0.map ax.lv)),(4,.ak 3 (l2.map aL.lv)),(5,.L l3)]) 147 3 1 l3 R R (bM R) (fK R (fK R (fZ fN)))) (aS [(0,.ak 12 (p0.map ax.lv)),(4,.ak 3 (l2.map aL.lv)),(5,.L l3)] []))))) ?_)))))
  obtain ⟨gq,vY,h⟩:=ao h
  refine LH.aj [(0,.ak 12 (p0.map ax.lv)),(9,.L gq.1),(10,.I gq.2)] [] R (fp R (fp R (sN (dQ (args:=[.ak 3 (l2.map aL.lv),.L l3]) R OO R (aH (aH bn)) (PF vY) R (rR R (sN (gy R R (sN (gy R R (qR R (bo R zS))))))))))) (LH.seq (LH.aj [(0,.ak 12 (p0.map ax.lv)),(9,.L gq.1),(10,.I gq.2),(55,.bool (gq.2 != 0))] [] R (bj R (sN (jR R R zS))) (LH.cond (t:=(gq.2 != 0)) R (fun iJ=>?_) (fun iJ=>?_))))
  ·replace h:=aB h iJ
   refine LH.aj [(2,.nil),(3,.I gq.2)] [] R (bj R (kX R (bo R zS))) (LH.ret (aW ?_))
   obtain rfl:=oI h
   exact aO (aT Tryz.results34) (bU R (bU R (bS ⟨aN mN,R,aZ R,(Sub.cX (oV (aH bn)))⟩)))
  replace h:=aA h iJ
  refine LH.skip (au (LH.aj [(0,.ak 12 (p0.map ax.lv)),(9,.L gq.1),(11,.nil)] [] R (kX R zS) (LH.seq (LH.aj [(0,.ak 12 (p0.map ax.lv)),(9,.L gq.1),(11,.nil),(12,.I 0)] [] R (bo R zS) (LH.block (LH.wk ((Wk.trans (aS [(0,.ak 12 (p0.map ax.lv)),(9,.L gq.1),(11,.nil),(12,.I 0)] []) (Wk.trans (aS [(0,.ak 12 (p0.map ax.lv)),(9,.L gq.1),(11,.nil),(12,.I 0)] []) (Wk.trans (Wk.tt (fy:=[(0,.ak 12 (p0.map ax.lv)),(9,.L gq.1),(11,.arr 172 (List.length ([]:List ax))),(12,.I 0)]) 172 63 12 R R (wK (wK (wO (wK wN))))) (aS [(0,.ak 12 (p0.map ax.lv)),(9,.L gq.1),(11,.arr 172 (List.length ([]:List ax))),(12,.I 0)] [(172,.arr 63 12 (List.map ax.lv ([]:List ax)))]))))) (LH.loop (fun n e m=>∃ (n17:Int) (xa:List ax),A1 p0 gq n n17 xa=some r∧e=Env.of [(0,.ak 12 (p0.map ax.lv)),(9,.L gq.1),(11,.arr 172 xa.length),(12,.I n17)]∧m=Mem.of [(172,.arr 63 12 (xa.map ax.lv))]) F ⟨0,([]:List ax),h,R,R⟩ ?_)))))))
  clear h
  rintro n e m ⟨n17,xa,h,rfl,rfl⟩
  rcases n with _ | n
  · cases (show Option.none=some _ from h)
  obtain ⟨oS,mG⟩:∃ f,f=A1 p0 gq n:=⟨_,rfl⟩
  replace h:Gy p0 gq oS n17 xa=some r:=mG ▸ h
  unfold Gy at h
  refine LH.seq (LH.aj [(0,.ak 12 (p0.map ax.lv)),(9,.L gq.1),(11,.arr 172 xa.length),(12,.I n17),(60,.bool (decide (n17<(gq.1.length:Int))))] [(172,.arr 63 12 (xa.map ax.lv))] R (bj R (fp R (sN (bW (f:=LV.I) cE R (sN (fi R R zS)))))) (LH.cond (t:=(decide (n17<(gq.1.length:Int)))) R (fun sK=>?_) (fun sK=>?_)))
  ·replace h:=aB h sK
   refine LH.skip (au (LH.wk (aS [(0,.ak 12 (p0.map ax.lv)),(9,.L gq.1),(11,.arr 172 xa.length),(12,.I n17)] [(172,.arr 63 12 (xa.map ax.lv))]) (LH.seq (LH.block ?_))))
   obtain ⟨Hx,C1,h⟩:=ao h
   obtain ⟨xd,AE,h⟩:=ao h
   obtain ⟨v22,SU,h⟩:=ao h
   refine LH.aU [(0,.ak 12 (p0.map ax.lv)),(9,.L gq.1),(11,.arr 172 v22.length),(12,.I n17)] [(172,.arr 63 12 (v22.map ax.lv))] R (j0 R (fp R (fp R (bj R (sN (eG (f:=LV.I) cE aD ba R R lY C1 R (sN (bb R aD bQ (sN (eG (f:=ax.lv) gA fB eA R R ax.ok AE R (sN (bd R fB mq eA R R (sN (jZ (f:=ax.lv) (ys:=[xd]) gA zi eA R R R ax.ok (sN (nw (f:=ax.lv) gA zi eA R R (bM R) R SU (nM R zS))))))))))))))))) (aY (au (LH.aU [(0,.ak 12 (p0.map ax.lv)),(9,.L gq.1),(11,.arr 172 v22.length),(12,.I (i64 (n17+1)))] [(172,.arr 63 12 (v22.map ax.lv))] R (bj R (sN (cD R R (bo R zS)))) ?_)))
   exact bh ⟨(i64 (n17+1)),v22,mG ▸ h,R,R⟩ (Wk.eq R R R R)
  replace h:=aA h sK
  refine LH.exit (cw (bY (bO (au (LH.wk ((Wk.trans (aS [(11,.arr 172 xa.length)] [(172,.arr 63 12 (xa.map ax.lv))]) (Wk.trans (Wk.lk (f:=ax.lv) (fy:=[(11,.ak 12 (xa.map ax.lv))]) 172 63 12 xa R R (bM R) (fZ fN)) (aS [(11,.ak 12 (xa.map ax.lv))] [])))) (LH.aj [(2,.ak 12 (xa.map ax.lv)),(3,.I 0)] [] R (fp R (qR R (bo R zS))) (LH.ret ?_)))))))
  obtain rfl:=oI h
  exact aO (aT Tryz.results34) (bU R (bU R (bS ⟨aN mN,R,aZ R,(Sub.cX (aH (aH bn)))⟩)))
theorem PG {p0:aq} {r:Bool} (h:ym p0=some r):aM Tryz.prog 84 [aq.lv p0] (Mem.of []) (.bool r) (Mem.of []):=by
  unfold ym at h
  refine br Tryz.func84 R (nT Tryz.ntmps84 R) (LH.wk (aS [(0,aq.lv p0)] []) (LH.aj [(1,.ag (aq.lv p0).cells)] [] R (sB (c7 R R R R (b4 R zS))) (LH.seq (LH.aj [(1,.ag (aq.lv p0).cells),(30,.bool ((decide (p0.Max<1)) || ((decide (p0.Max > 40)) || ((decide (p0.e6<0)) || ((decide (p0.e6 ≥ 16)) || ((decide (p0.ct<0)) || (decide (p0.ct ≥ 6))))))))] [] R ?_ ?_))))
  ·refine sN (aw mY aD ba R R R (sN (bb R aD bQ (sN (fi R R (bD R ?_))))))
   by_cases cA:(decide (p0.Max<1))=true
   ·exact sF R R cA (sF R R cA (sF R R cA (sN (aX (cB cA) (v:=(.bool _)) R (bD R (sF R R R (sF R R R (sF R R R (sN (aX R (v:=(.bool _)) R (bD R (sF R R R (sF R R R (sF R R R (sN (aX R (v:=(.bool _)) R (bD R (sF R R R (sF R R R (sF R R R (sN (aX R (v:=(.bool _)) R (bD R (sF R R R (sF R R R (sF R R R (sN (aX R (v:=(.bool _)) R (s0 (Wk.to (eC R (eC (cB (nL cA)) eN)) mN R (aZ R)))))))))))))))))))))))))))))))
   ·replace cA:=bF cA
    refine sT R (cB cA) (aw mY aD ba R R R (sT R (cB cA) (bb R aD bQ (sT R (cB cA) (iP R R (sN (aQ (cB cA) (v:=(.bool _)) R (bD R ?_))))))))
    by_cases bP:(decide (p0.Max > 40))=true
    ·exact sF R R bP (sF R R bP (sF R R bP (sN (aX (cB bP) (v:=(.bool _)) R (bD R (sF R R R (sF R R R (sF R R R (sN (aX R (v:=(.bool _)) R (bD R (sF R R R (sF R R R (sF R R R (sN (aX R (v:=(.bool _)) R (bD R (sF R R R (sF R R R (sF R R R (sN (aX R (v:=(.bool _)) R (s0 (Wk.to (eC R (eC (cB (Eq.trans (nL bP) (gz cA))) eN)) mN R (aZ R)))))))))))))))))))))))))
    ·replace bP:=bF bP
     refine sT R (cB bP) (aw qm aD ba R R R (sT R (cB bP) (bb R aD bQ (sT R (cB bP) (fi R R (sN (aQ (cB bP) (v:=(.bool _)) R (bD R ?_))))))))
     by_cases bu:(decide (p0.e6<0))=true
     ·exact sF R R bu (sF R R bu (sF R R bu (sN (aX (cB bu) (v:=(.bool _)) R (bD R (sF R R R (sF R R R (sF R R R (sN (aX R (v:=(.bool _)) R (bD R (sF R R R (sF R R R (sF R R R (sN (aX R (v:=(.bool _)) R (s0 (Wk.to (eC R (eC (cB (Eq.trans (Eq.trans (nL bu) (gz bP)) (gz cA))) eN)) mN R (aZ R)))))))))))))))))))
     ·replace bu:=bF bu
      refine sT R (cB bu) (aw qm aD ba R R R (sT R (cB bu) (bb R aD bQ (sT R (cB bu) (pJ R R (sN (aQ (cB bu) (v:=(.bool _)) R (bD R ?_))))))))
      by_cases bH:(decide (p0.e6 ≥ 16))=true
      ·exact sF R R bH (sF R R bH (sF R R bH (sN (aX (cB bH) (v:=(.bool _)) R (bD R (sF R R R (sF R R R (sF R R R (sN (aX R (v:=(.bool _)) R (s0 (Wk.to (eC R (eC (cB (Eq.trans (Eq.trans (Eq.trans (nL bH) (gz bu)) (gz bP)) (gz cA))) eN)) mN R (aZ R)))))))))))))
      ·replace bH:=bF bH
       refine sT R (cB bH) (aw qo aD ba R R R (sT R (cB bH) (bb R aD bQ (sT R (cB bH) (fi R R (sN (aQ (cB bH) (v:=(.bool _)) R (bD R ?_))))))))
       by_cases b3:(decide (p0.ct<0))=true
       ·exact sF R R b3 (sF R R b3 (sF R R b3 (sN (aX (cB b3) (v:=(.bool _)) R (s0 (Wk.to (eC R (eC (cB (Eq.trans (Eq.trans (Eq.trans (Eq.trans (nL b3) (gz bH)) (gz bu)) (gz bP)) (gz cA))) eN)) mN R (aZ R)))))))
       ·replace b3:=bF b3
        exact sT R (cB b3) (aw qo aD ba R R R (sT R (cB b3) (bb R aD bQ (sT R (cB b3) (pJ R R (sN (aQ (cB b3) (v:=(.bool _)) R (s0 (Wk.to (eC R (eC (cB (Eq.trans (Eq.trans (Eq.trans (Eq.trans (gz b3) (gz bH)) (gz bu)) (gz bP)) (gz cA))) eN)) mN R (aZ R))))))))))
  refine LH.cond (t:=((decide (p0.Max<1)) || ((decide (p0.Max > 40)) || ((decide (p0.e6<0)) || ((decide (p0.e6 ≥ 16)) || ((decide (p0.ct<0)) || (decide (p0.ct ≥ 6)))))))) R (fun jG=>?_) (fun jG=>?_)
  ·replace h:=aB h jG
   refine LH.aj [(2,.bool false)] [] R (b4 R zS) (LH.ret (aW ?_))
   obtain rfl:=oI h
   exact aO (aT Tryz.results84) (bU R (bS ⟨aN mN,R,aZ R,Sub.rfl⟩))
  replace h:=aA h jG
  refine LH.skip (au (LH.wk (aS [(1,.ag (aq.lv p0).cells)] []) (LH.seq (LH.aj [(1,.ag (aq.lv p0).cells),(33,.bool (p0.Kind == 1))] [] R (sN (aw oY aD ba R R R (sN (bb R aD bQ (sN (gp R R zS)))))) (LH.cond (t:=(p0.Kind == 1)) R (fun kS=>?_) (fun kS=>?_))))))
  ·replace h:=aB h kS
   refine LH.aj [(2,.bool ((p0.Options == 0) && (p0.Key == 0)))] [] R ?_ ?_
   ·refine sN (aw ko aD ba R R R (sN (bb R aD bQ (sN (gp R R (bD R ?_))))))
    by_cases bC:(p0.Options == 0)=true
    ·exact sT R (cB bC) (aw mZ aD ba R R R (sT R (cB bC) (bb R aD bQ (sT R (cB bC) (gp R R (sN (aX (cB bC) (v:=(.bool _)) R (b4 R (s0 (Wk.to (eC (cB (dK bC)) eN) mN R (aZ R)))))))))))
    ·replace bC:=bF bC
     exact sF R R bC (sF R R bC (sF R R bC (sN (aQ (cB bC) (v:=(.bool _)) R (b4 R (s0 (Wk.to (eC (cB (ks bC)) eN) mN R (aZ R))))))))
   refine LH.ret (aW ?_)
   obtain rfl:=oI h
   exact aO (aT Tryz.results84) (bU R (bS ⟨aN mN,R,aZ R,Sub.rfl⟩))
  replace h:=aA h kS
  refine LH.skip (au (LH.aj [(2,.bool ((p0.Kind == 2) && ((decide (p0.Options ≥ 2)) && ((decide (p0.Options≤5)) && ((decide (p0.Key ≥ 0)) && (decide (p0.Key<p0.Options)))))))] [] R ?_ ?_))
  ·refine sN (aw oY aD ba R R R (sN (bb R aD bQ (sN (gp R R (bD R ?_))))))
   by_cases ep:(p0.Kind == 2)=true
   ·refine sT R (cB ep) (aw ko aD ba R R R (sT R (cB ep) (bb R aD bQ (sT R (cB ep) (pJ R R (sN (aX (cB ep) (v:=(.bool _)) R (bD R ?_))))))))
    by_cases bX:(decide (p0.Options ≥ 2))=true
    ·refine sT R (cB bX) (aw ko aD ba R R R (sT R (cB bX) (bb R aD bQ (sT R (cB bX) (Ib R R (sN (aX (cB bX) (v:=(.bool _)) R (bD R ?_))))))))
     by_cases cN:(decide (p0.Options≤5))=true
     ·refine sT R (cB cN) (aw mZ aD ba R R R (sT R (cB cN) (bb R aD bQ (sT R (cB cN) (pJ R R (sN (aX (cB cN) (v:=(.bool _)) R (bD R ?_))))))))
      by_cases bR:(decide (p0.Key ≥ 0))=true
      ·exact sT R (cB bR) (aw mZ aD ba R R R (sT R (cB bR) (bb R aD bQ (sT R (cB bR) (aw ko aD ba R R R (sT R (cB bR) (bb R aD bQ (sT R (cB bR) (fi R R (sN (aX (cB bR) (v:=(.bool _)) R (b4 R (s0 (Wk.to (eC (cB (Eq.trans (Eq.trans (Eq.trans (dK bR) (dK cN)) (dK bX)) (dK ep))) eN) mN R (aZ R)))))))))))))))
      ·replace bR:=bF bR
       exact sF R R bR (sF R R bR (sF R R bR (sF R R bR (sF R R bR (sN (aQ (cB bR) (v:=(.bool _)) R (b4 R (s0 (Wk.to (eC (cB (Eq.trans (Eq.trans (Eq.trans (ks bR) (dK cN)) (dK bX)) (dK ep))) eN) mN R (aZ R))))))))))
     ·replace cN:=bF cN
      exact sF R R cN (sF R R cN (sF R R cN (sN (aQ (cB cN) (v:=(.bool _)) R (bD R (sF R R R (sF R R R (sF R R R (sF R R R (sF R R R (sN (aQ R (v:=(.bool _)) R (b4 R (s0 (Wk.to (eC (cB (Eq.trans (Eq.trans (ks cN) (dK bX)) (dK ep))) eN) mN R (aZ R))))))))))))))))
    ·replace bX:=bF bX
     exact sF R R bX (sF R R bX (sF R R bX (sN (aQ (cB bX) (v:=(.bool _)) R (bD R (sF R R R (sF R R R (sF R R R (sN (aQ R (v:=(.bool _)) R (bD R (sF R R R (sF R R R (sF R R R (sF R R R (sF R R R (sN (aQ R (v:=(.bool _)) R (b4 R (s0 (Wk.to (eC (cB (Eq.trans (ks bX) (dK ep))) eN) mN R (aZ R))))))))))))))))))))))
   ·replace ep:=bF ep
    exact sF R R ep (sF R R ep (sF R R ep (sN (aQ (cB ep) (v:=(.bool _)) R (bD R (sF R R R (sF R R R (sF R R R (sN (aQ R (v:=(.bool _)) R (bD R (sF R R R (sF R R R (sF R R R (sN (aQ R (v:=(.bool _)) R (bD R (sF R R R (sF R R R (sF R R R (sF R R R (sF R R R (sN (aQ R (v:=(.bool _)) R (b4 R (s0 (Wk.to (eC (cB (ks ep)) eN) mN R (aZ R))))))))))))))))))))))))))))
  refine LH.ret ?_
  obtain rfl:=oI h
  exact aO (aT Tryz.results84) (bU R (bS ⟨aN mN,R,aZ R,Sub.rfl⟩))
set_option maxHeartbeats 4000000 in
theorem Ge {F:Nat} {p0:ai} {r:Int} (h:tD F p0=some r):aM Tryz.prog 66 [ai.lv p0] (Mem.of []) (.I r) (Mem.of []):=by
  unfold tD at h
  refine br Tryz.func66 R (nT Tryz.ntmps66 R) (LH.wk (aS [(0,ai.lv p0)] []) (LH.aj [(1,.ag (ai.lv p0).cells)] [] R (sB (c7 R R R R (bo R zS))) (LH.seq (LH.aj [(1,.ag (ai.lv p0).cells),(23,.bool ((decide (p0.ID<0)) || ((decide (p0.ID > 9999)) || ((decide (p0.Version<1)) || (decide (p0.Version > 8))))))] [] R ?_ ?_))))
  ·refine sN (aw e9 aD ba R R R (sN (bb R aD bQ (sN (fi R R (bD R ?_))))))
   by_cases cA:(decide (p0.ID<0))=true
   ·exact sF R R cA (sF R R cA (sF R R cA (sN (aX (cB cA) (v:=(.bool _)) R (bD R (sF R R R (sF R R R (sF R R R (sN (aX R (v:=(.bool _)) R (bD R (sF R R R (sF R R R (sF R R R (sN (aX R (v:=(.bool _)) R (s0 (Wk.to (eC R (eC (cB (nL cA)) eN)) mN R (aZ R)))))))))))))))))))
   ·replace cA:=bF cA
    refine sT R (cB cA) (aw e9 aD ba R R R (sT R (cB cA) (bb R aD bQ (sT R (cB cA) (iP R R (sN (aQ (cB cA) (v:=(.bool _)) R (bD R ?_))))))))
    by_cases bP:(decide (p0.ID > 9999))=true
    ·exact sF R R bP (sF R R bP (sF R R bP (sN (aX (cB bP) (v:=(.bool _)) R (bD R (sF R R R (sF R R R (sF R R R (sN (aX R (v:=(.bool _)) R (s0 (Wk.to (eC R (eC (cB (Eq.trans (nL bP) (gz cA))) eN)) mN R (aZ R)))))))))))))
    ·replace bP:=bF bP
     refine sT R (cB bP) (aw fL aD ba R R R (sT R (cB bP) (bb R aD bQ (sT R (cB bP) (fi R R (sN (aQ (cB bP) (v:=(.bool _)) R (bD R ?_))))))))
     by_cases bu:(decide (p0.Version<1))=true
     ·exact sF R R bu (sF R R bu (sF R R bu (sN (aX (cB bu) (v:=(.bool _)) R (s0 (Wk.to (eC R (eC (cB (Eq.trans (Eq.trans (nL bu) (gz bP)) (gz cA))) eN)) mN R (aZ R)))))))
     ·replace bu:=bF bu
      exact sT R (cB bu) (aw fL aD ba R R R (sT R (cB bu) (bb R aD bQ (sT R (cB bu) (iP R R (sN (aQ (cB bu) (v:=(.bool _)) R (s0 (Wk.to (eC R (eC (cB (Eq.trans (Eq.trans (gz bu) (gz bP)) (gz cA))) eN)) mN R (aZ R))))))))))
  refine LH.cond (t:=((decide (p0.ID<0)) || ((decide (p0.ID > 9999)) || ((decide (p0.Version<1)) || (decide (p0.Version > 8)))))) R (fun jY=>?_) (fun jY=>?_)
  ·replace h:=aB h jY
   refine LH.aj [(2,.I 2)] [] R (bo R zS) (LH.ret (aW ?_))
   obtain rfl:=oI h
   exact aO (aT Tryz.results66) (bU R (bS ⟨aN mN,R,aZ R,Sub.rfl⟩))
  replace h:=aA h jY
  refine LH.skip (au (LH.wk (aS [(1,.ag (ai.lv p0).cells)] []) (LH.seq (LH.aj [(1,.ag (ai.lv p0).cells),(39,.bool ((decide ((p0.bI.size:Int) > 40)) || ((decide ((p0.aG.length:Int) > 6)) || (decide ((p0.aE.length:Int) > 8)))))] [] R ?_ ?_))))
  ·refine sN (aw gV o8 xc R R R (sN (bb R o8 DP (sX ((rN Iy R).ok) (sN (iP R R (bD R ?_)))))))
   by_cases cc:(decide ((p0.bI.size:Int) > 40))=true
   ·exact sF R R cc (sF R R cc (sF R R cc (sF R R cc (sN (aX (cB cc) (v:=(.bool _)) R (bD R (sF R R R (sF R R R (sF R R R (sF R R R (sN (aX R (v:=(.bool _)) R (s0 (Wk.to (eC R (eC (cB (nL cc)) eN)) mN R (aZ R)))))))))))))))
   ·replace cc:=bF cc
    refine sT R (cB cc) (aw cZ c8 fC R R R (sT R (cB cc) (bb R c8 iT (sT R (cB cc) (bW (f:=aq.lv) gu R (sT R (cB cc) (iP R R (sN (aQ (cB cc) (v:=(.bool _)) R (bD R ?_))))))))))
    by_cases dt:(decide ((p0.aG.length:Int) > 6))=true
    ·exact sF R R dt (sF R R dt (sF R R dt (sF R R dt (sN (aX (cB dt) (v:=(.bool _)) R (s0 (Wk.to (eC R (eC (cB (Eq.trans (nL dt) (gz cc))) eN)) mN R (aZ R))))))))
    ·replace dt:=bF dt
     exact sT R (cB dt) (aw fq eM jq R R R (sT R (cB dt) (bb R eM mo (sT R (cB dt) (bW (f:=LV.I) cE R (sT R (cB dt) (iP R R (sN (aQ (cB dt) (v:=(.bool _)) R (s0 (Wk.to (eC R (eC (cB (Eq.trans (gz dt) (gz cc))) eN)) mN R (aZ R))))))))))))
  refine LH.cond (t:=((decide ((p0.bI.size:Int) > 40)) || ((decide ((p0.aG.length:Int) > 6)) || (decide ((p0.aE.length:Int) > 8))))) R (fun vT=>?_) (fun vT=>?_)
  ·replace h:=aB h vT
   refine LH.aj [(2,.I 3)] [] R (bo R zS) (LH.ret (aW ?_))
   obtain rfl:=oI h
   exact aO (aT Tryz.results66) (bU R (bS ⟨aN mN,R,aZ R,Sub.rfl⟩))
  replace h:=aA h vT
  refine LH.skip (au (LH.wk (aS [(1,.ag (ai.lv p0).cells)] []) (LH.seq (LH.aj [(1,.ag (ai.lv p0).cells),(42,.bool (decide (p0.bI=(ByteArray.mk #[]))))] [] R (sN (aw gV o8 xc R R R (sN (bb R o8 DP (sX ((wm R R).ok) zS))))) (LH.cond (t:=(decide (p0.bI=(ByteArray.mk #[])))) R (fun hY=>?_) (fun hY=>?_))))))
  ·replace h:=aB h hY
   refine LH.aj [(2,.I 7)] [] R (bo R zS) (LH.ret (aW ?_))
   obtain rfl:=oI h
   exact aO (aT Tryz.results66) (bU R (bS ⟨aN mN,R,aZ R,Sub.rfl⟩))
  replace h:=aA h hY
  refine LH.skip (au (LH.wk (aS [(1,.ag (ai.lv p0).cells)] []) (LH.seq (LH.aj [(1,.ag (ai.lv p0).cells),(3,.I 0)] [] R (bo R zS) (LH.block (LH.loop (fun n e m=>∃ (n11:Int),A7 F p0 n n11=some r∧e=Env.of [(1,.ag (ai.lv p0).cells),(3,.I n11)]∧m=Mem.of []) F ⟨0,h,R,R⟩ ?_))))))
  clear h
  rintro n e m ⟨n11,h,rfl,rfl⟩
  rcases n with _ | n
  · cases (show Option.none=some _ from h)
  obtain ⟨aJ,a7⟩:∃ f,f=A7 F p0 n:=⟨_,rfl⟩
  replace h:xZ F p0 aJ n11=some r:=a7 ▸ h
  unfold xZ at h
  refine LH.seq (LH.aj [(1,.ag (ai.lv p0).cells),(3,.I n11),(47,.bool (decide (n11<(p0.bI.size:Int))))] [] R (bj R (sN (aw gV o8 xc R R R (sN (bb R o8 DP (sX ((rN Iy R).ok) (sN (fi R R zS)))))))) (LH.cond (t:=(decide (n11<(p0.bI.size:Int)))) R (fun gP=>?_) (fun gP=>?_)))
  ·replace h:=aB h gP
   refine LH.skip (au (LH.wk (aS [(1,.ag (ai.lv p0).cells),(3,.I n11)] []) (LH.seq (LH.block ?_))))
   obtain ⟨IK,hv,h⟩:=ao h
   refine LH.aj [(1,.ag (ai.lv p0).cells),(3,.I n11),(61,.bool IK)] [] R ?_ ?_
   ·refine sN (aw gV o8 xc R R R (sN (bb R o8 DP (bj R ?_))))
    obtain ⟨J0,Li,hv⟩:=ao hv
    refine sX ((wo Iy R R Li).ok) (sN (fi R R (bD R ?_)))
    by_cases ga:(decide (J0<32))=true
    ·replace hv:=aB hv ga
     refine sF R R ga (sF R R ga (sF R R ga (sF R R ga (sF R R ga (sN (aX (cB ga) (v:=(.bool _)) R ?_))))))
     obtain rfl:=oI hv
     exact zS
    ·replace ga:=bF ga
     replace hv:=aA hv ga
     refine sT R (cB ga) (aw gV o8 xc R R R (sT R (cB ga) (bb R o8 DP (sT R (cB ga) (oM (v:=(.int _ _)) R ?_)))))
     obtain ⟨pY,xJ,hv⟩:=ao hv
     refine L4 R (cB ga) ((wo Iy R R xJ).ok) (sT R (cB ga) (iP R R (sN (aQ (cB ga) (v:=(.bool _)) R ?_))))
     obtain rfl:=oI hv
     exact zS
   clear hv
   refine LH.cond (t:=IK) R (fun ke=>?_) (fun ke=>?_)
   ·replace h:=aB h ke
    refine LH.aj [(2,.I 7)] [] R (bo R zS) (LH.ret (bB (aW (dF (bB (aW ?_))))))
    obtain rfl:=oI h
    exact aO (aT Tryz.results66) (bU R (bS ⟨aN mN,R,aZ R,Sub.rfl⟩))
   replace h:=aA h ke
   refine LH.skip (aY (au (LH.aU [(1,.ag (ai.lv p0).cells),(3,.I (i64 (n11+1)))] [] R (bj R (sN (cD R R (bo R zS)))) ?_)))
   exact bh ⟨(i64 (n11+1)),a7 ▸ h,R,R⟩ (Wk.eq R R R R)
  replace h:=aA h gP
  refine LH.exit (cw (bY (bO (au (LH.wk (aS [(1,.ag (ai.lv p0).cells)] []) (LH.seq (LH.aj [(1,.ag (ai.lv p0).cells),(65,.bool ((p0.aG.length:Int) == 0))] [] R (sN (aw cZ c8 fC R R R (sN (bb R c8 iT (sN (bW (f:=aq.lv) gu R (sN (gp R R zS)))))))) (LH.cond (t:=((p0.aG.length:Int) == 0)) R (fun sK=>?_) (fun sK=>?_)))))))))
  ·replace h:=aB h sK
   refine LH.aj [(2,.I 10)] [] R (bo R zS) (LH.ret (aW ?_))
   obtain rfl:=oI h
   exact aO (aT Tryz.results66) (bU R (bS ⟨aN mN,R,aZ R,Sub.rfl⟩))
  replace h:=aA h sK
  refine LH.skip (au (LH.wk (aS [(1,.ag (ai.lv p0).cells)] []) (LH.seq (LH.aj [(1,.ag (ai.lv p0).cells),(4,.I 0)] [] R (bo R zS) (LH.block (LH.loop (fun n e m=>∃ (n20:Int),yQ F p0 n n20=some r∧e=Env.of [(1,.ag (ai.lv p0).cells),(4,.I n20)]∧m=Mem.of []) F ⟨0,h,R,R⟩ ?_))))))
  clear h
  rintro n e m ⟨n20,h,rfl,rfl⟩
  rcases n with _ | n
  · cases (show Option.none=some _ from h)
  obtain ⟨fo,eB⟩:∃ f,f=yQ F p0 n:=⟨_,rfl⟩
  replace h:ya F p0 fo n20=some r:=eB ▸ h
  unfold ya at h
  refine LH.seq (LH.aj [(1,.ag (ai.lv p0).cells),(4,.I n20),(70,.bool (decide (n20<(p0.aG.length:Int))))] [] R (bj R (sN (aw cZ c8 fC R R R (sN (bb R c8 iT (sN (bW (f:=aq.lv) gu R (sN (fi R R zS))))))))) (LH.cond (t:=(decide (n20<(p0.aG.length:Int)))) R (fun ov=>?_) (fun ov=>?_)))
  ·replace h:=aB h ov
   refine LH.skip (au (LH.wk (aS [(1,.ag (ai.lv p0).cells),(4,.I n20)] []) (LH.seq (LH.block ?_))))
   obtain ⟨J1,HZ,h⟩:=ao h
   obtain ⟨rP,KZ,h⟩:=ao h
   refine LH.aj [(1,.ag (ai.lv p0).cells),(4,.I n20),(79,.bool (!rP))] [] R (sN (aw cZ c8 fC R R R (sN (bb R c8 iT (bj R (sN (eG (f:=aq.lv) gu ek dJ R R aq.ok HZ R (sN (bd R ek iU dJ R R (sN (dQ (args:=[aq.lv J1]) R O2 R (aH bn) (PG KZ) R (sN (kB R zS))))))))))))) (LH.cond (t:=(!rP)) R (fun Ad=>?_) (fun Ad=>?_))
   ·replace h:=aB h Ad
    refine LH.aj [(2,.I 1)] [] R (bo R zS) (LH.ret (bB (aW (dF (bB (aW ?_))))))
    obtain rfl:=oI h
    exact aO (aT Tryz.results66) (bU R (bS ⟨aN mN,R,aZ R,Sub.rfl⟩))
   replace h:=aA h Ad
   refine LH.skip (aY (au (LH.aU [(1,.ag (ai.lv p0).cells),(4,.I (i64 (n20+1)))] [] R (bj R (sN (cD R R (bo R zS)))) ?_)))
   exact bh ⟨(i64 (n20+1)),eB ▸ h,R,R⟩ (Wk.eq R R R R)
  replace h:=aA h ov
  refine LH.exit (cw (bY (bO (au (LH.wk (aS [(1,.ag (ai.lv p0).cells)] []) (LH.seq (LH.aj [(1,.ag (ai.lv p0).cells),(5,.I 0)] [] R (bo R zS) (LH.block (LH.loop (fun n e m=>∃ (n25:Int),yR p0 n n25=some r∧e=Env.of [(1,.ag (ai.lv p0).cells),(5,.I n25)]∧m=Mem.of []) F ⟨0,h,R,R⟩ ?_)))))))))
  clear h
  rintro n e m ⟨n25,h,rfl,rfl⟩
  rcases n with _ | n
  · cases (show Option.none=some _ from h)
  obtain ⟨oS,mG⟩:∃ f,f=yR p0 n:=⟨_,rfl⟩
  replace h:yb p0 oS n25=some r:=mG ▸ h
  unfold yb at h
  refine LH.seq (LH.aj [(1,.ag (ai.lv p0).cells),(5,.I n25),(84,.bool (decide (n25<(p0.aE.length:Int))))] [] R (bj R (sN (aw fq eM jq R R R (sN (bb R eM mo (sN (bW (f:=LV.I) cE R (sN (fi R R zS))))))))) (LH.cond (t:=(decide (n25<(p0.aE.length:Int)))) R (fun Ae=>?_) (fun Ae=>?_)))
  ·replace h:=aB h Ae
   refine LH.skip (au (LH.wk (aS [(1,.ag (ai.lv p0).cells),(5,.I n25)] []) (LH.seq (LH.block ?_))))
   obtain ⟨Rj,hv,h⟩:=ao h
   refine LH.di mixed [] [0,0,0,0,0,0,0,0,0,0,0,0,0,0,0,0,0,0,0,0,0,0,0,0,0,0,0,0,0,0,0,0,0,0,0,0,0,0,0,0,0,0] [(1,.ag (ai.lv p0).cells),(5,.I n25),(128,.bool Rj)] [] R R (by kernel_rfl) ?_ ?_
   ·refine aF (aw fq eM jq R R R ⟨R,aF (bb R eM mo ⟨R,fF R ?_⟩)⟩)
    obtain ⟨MG,Ln,hv⟩:=ao hv
    refine aF (eG (f:=LV.I) cE aD ba R R lY Ln R ⟨R,aF (bb R aD bQ ⟨R,aF (fi R R ⟨R,iO R ?_⟩)⟩)⟩)
    by_cases mg:(decide (MG<0))=true
    ·replace hv:=aB hv mg
     refine mF R R mg (mF R R mg (mF R R mg (mF R R mg (mF R R mg (mF R R mg (aF (aX (cB mg) (v:=(.bool _)) R ⟨R,iO R (mF R R R (mF R R R (mF R R R (mF R R R (mF R R R (mF R R R (mF R R R (mF R R R (aF (aX R (v:=(.bool _)) R ⟨R,iO R (mF R R R (mF R R R (mF R R R (mU R R (mU R R (mU R R (mU R R (mU R R (mU R R (mU R R (mU R R (mU R R (mU R R (mU R R (mU R R (mF R R R (aF (aX R (v:=(.bool _)) R ⟨R,?_⟩))))))))))))))))))⟩))))))))))⟩)))))))
     obtain rfl:=oI hv
     exact zM
    ·replace mg:=bF mg
     replace hv:=aA hv mg
     refine mT R (cB mg) (aF (aw fq eM jq R R R ⟨R,mT R (cB mg) (aF (bb R eM mo ⟨R,mT R (cB mg) (fF R ?_)⟩))⟩))
     obtain ⟨Ee,H3,hv⟩:=ao hv
     refine mT R (cB mg) (aF (eG (f:=LV.I) cE aD ba R R lY H3 R ⟨R,mT R (cB mg) (aF (bb R aD bQ ⟨R,mT R (cB mg) (aF (iP R R ⟨R,aF (aQ (cB mg) (v:=(.bool _)) R ⟨R,iO R ?_⟩)⟩))⟩))⟩))
     by_cases ku:(decide (Ee > 9999))=true
     ·replace hv:=aB hv ku
      refine mF R R ku (mF R R ku (mF R R ku (mF R R ku (mF R R ku (mF R R ku (mF R R ku (mF R R ku (aF (aX (cB ku) (v:=(.bool _)) R ⟨R,iO R (mF R R R (mF R R R (mF R R R (mU R R (mU R R (mU R R (mU R R (mU R R (mU R R (mU R R (mU R R (mU R R (mU R R (mU R R (mU R R (mF R R R (aF (aX R (v:=(.bool _)) R ⟨R,?_⟩))))))))))))))))))⟩)))))))))
      obtain rfl:=oI hv
      exact zM
     ·replace ku:=bF ku
      replace hv:=aA hv ku
      refine mT R (cB ku) (aF (aw fq eM jq R R R ⟨R,mT R (cB ku) (aF (bb R eM mo ⟨R,mT R (cB ku) (fF R ?_)⟩))⟩))
      obtain ⟨TT,Tc,hv⟩:=ao hv
      refine mT R (cB ku) (aF (eG (f:=LV.I) cE aD ba R R lY Tc R ⟨R,mT R (cB ku) (aF (bb R aD bQ ⟨R,mT R (cB ku) (aF (aw e9 aD ba R R R ⟨R,mT R (cB ku) (aF (bb R aD bQ ⟨R,mT R (cB ku) (aF (gp R R ⟨R,aF (aQ (cB ku) (v:=(.bool _)) R ⟨R,iO R ?_⟩)⟩))⟩))⟩))⟩))⟩))
      by_cases nG:(TT == p0.ID)=true
      ·replace hv:=aB hv nG
       refine mF R R nG (mF R R nG (mF R R nG (mU R R (mU R R (mU R R (mU R R (mU R R (mU R R (mU R R (mU R R (mU R R (mU R R (mU R R (mU R R (mF R R nG (aF (aX (cB nG) (v:=(.bool _)) R ⟨R,?_⟩)))))))))))))))))
       obtain rfl:=oI hv
       exact zM
      ·replace nG:=bF nG
       replace hv:=aA hv nG
       refine mT R (cB nG) (fF R (mT R (cB nG) (aF (iP R R ⟨R,mT R (cB nG) (iO R ?_)⟩))))
       by_cases hU:(decide (n25 > 0))=true
       ·replace hv:=aB hv hU
        refine mT R (cB hU) (aF (aw fq eM jq R R R ⟨R,mT R (cB hU) (aF (bb R eM mo ⟨R,mT R (cB hU) (fF R (mT R (cB hU) (aF (iA R R ⟨R,?_⟩))))⟩))⟩))
        obtain ⟨UZ,Te,hv⟩:=ao hv
        refine mT R (cB hU) (aF (eG (f:=LV.I) cE aD ba R R lY Te R ⟨R,mT R (cB hU) (aF (bb R aD bQ ⟨R,mT R (cB hU) (aF (aw fq eM jq R R R ⟨R,mT R (cB hU) (aF (bb R eM mo ⟨R,mT R (cB hU) (fF R ?_)⟩))⟩))⟩))⟩))
        obtain ⟨U0,Tf,hv⟩:=ao hv
        refine mT R (cB hU) (aF (eG (f:=LV.I) cE aD ba R R lY Tf R ⟨R,mT R (cB hU) (aF (bb R aD bQ ⟨R,mT R (cB hU) (aF (pJ R R ⟨R,mT R (cB nG) (aF (aX (cB hU) (v:=(.bool _)) R ⟨R,aF (aQ (cB nG) (v:=(.bool _)) R ⟨R,?_⟩)⟩))⟩))⟩))⟩))
        obtain rfl:=oI hv
        exact zM
       ·replace hU:=bF hU
        replace hv:=aA hv hU
        refine mF R R hU (mF R R hU (mF R R hU (mF R R hU (mF R R hU (mF R R hU (mF R R hU (mF R R hU (mF R R hU (mF R R hU (mF R R hU (mF R R hU (mT R (cB nG) (aF (aQ (cB hU) (v:=(.bool _)) R ⟨R,aF (aQ (cB nG) (v:=(.bool _)) R ⟨R,?_⟩)⟩))))))))))))))
        obtain rfl:=oI hv
        exact zM
   clear hv
   refine LH.cond (t:=Rj) R (fun Ah=>?_) (fun Ah=>?_)
   ·replace h:=aB h Ah
    refine LH.aj [(2,.I 9)] [] R (bo R zS) (LH.ret (bB (aW (dF (bB (aW ?_))))))
    obtain rfl:=oI h
    exact aO (aT Tryz.results66) (bU R (bS ⟨aN mN,R,aZ R,Sub.rfl⟩))
   replace h:=aA h Ah
   refine LH.skip (aY (au (LH.aU [(1,.ag (ai.lv p0).cells),(5,.I (i64 (n25+1)))] [] R (bj R (sN (cD R R (bo R zS)))) ?_)))
   exact bh ⟨(i64 (n25+1)),mG ▸ h,R,R⟩ (Wk.eq R R R R)
  replace h:=aA h Ae
  refine LH.exit (cw (bY (bO (au (LH.aj [(2,.I 0)] [] R (bo R zS) (LH.ret ?_))))))
  obtain rfl:=oI h
  exact aO (aT Tryz.results66) (bU R (bS ⟨aN mN,R,aZ R,Sub.rfl⟩))
set_option maxHeartbeats 4000000 in
theorem P5 {F:Nat} {p0:aK} {r:Bool} (h:yI F p0=some r):aM Tryz.prog 38 [.agg [.ak 5 (p0.aa.map al.lv)]] (Mem.of []) (.bool r) (Mem.of []):=by
  unfold yI at h
  refine br Tryz.func38 R (nT Tryz.ntmps38 R) (LH.wk (aS [(0,.agg [.ak 5 (p0.aa.map al.lv)])] []) (LH.aj [(1,.ag [.ak 5 (p0.aa.map al.lv)])] [] R (sB (c7 R R R R (b4 R zS))) (LH.seq (LH.aj [(1,.ag [.ak 5 (p0.aa.map al.lv)]),(10,.bool (decide ((p0.aa.length:Int) > 40)))] [] R (sN (aw cd cm dC R R R (sN (bb R cm fA (sN (bW (f:=al.lv) dW R (sN (iP R R zS)))))))) (LH.cond (t:=(decide ((p0.aa.length:Int) > 40))) R (fun jF=>?_) (fun jF=>?_))))))
  ·replace h:=aB h jF
   refine LH.aj [(2,.bool false)] [] R (b4 R zS) (LH.ret (aW ?_))
   obtain rfl:=oI h
   exact aO (aT Tryz.results38) (bU R (bS ⟨aN mN,R,aZ R,Sub.rfl⟩))
  replace h:=aA h jF
  refine LH.skip (au (LH.wk (aS [(1,.ag [.ak 5 (p0.aa.map al.lv)])] []) (LH.seq (LH.aj [(1,.ag [.ak 5 (p0.aa.map al.lv)]),(3,.I 0)] [] R (bo R zS) (LH.block (LH.loop (fun n e m=>∃ (n2:Int),Ch F p0 n n2=some r∧e=Env.of [(1,.ag [.ak 5 (p0.aa.map al.lv)]),(3,.I n2)]∧m=Mem.of []) F ⟨0,h,R,R⟩ ?_))))))
  clear h
  rintro n e m ⟨n2,h,rfl,rfl⟩
  rcases n with _ | n
  · cases (show Option.none=some _ from h)
  obtain ⟨aJ,a7⟩:∃ f,f=Ch F p0 n:=⟨_,rfl⟩
  replace h:yd F p0 aJ n2=some r:=a7 ▸ h
  unfold yd at h
  refine LH.seq (LH.aj [(1,.ag [.ak 5 (p0.aa.map al.lv)]),(3,.I n2),(15,.bool (decide (n2<(p0.aa.length:Int))))] [] R (bj R (sN (aw cd cm dC R R R (sN (bb R cm fA (sN (bW (f:=al.lv) dW R (sN (fi R R zS))))))))) (LH.cond (t:=(decide (n2<(p0.aa.length:Int)))) R (fun iK=>?_) (fun iK=>?_)))
  ·replace h:=aB h iK
   refine LH.skip (au (LH.wk (aS [(1,.ag [.ak 5 (p0.aa.map al.lv)]),(3,.I n2)] []) (LH.seq (LH.block ?_))))
   obtain ⟨x4,C2,h⟩:=ao h
   refine LH.aj [(1,.ag [.ak 5 (p0.aa.map al.lv)]),(3,.I n2),(4,.ag (al.lv x4).cells)] [] R (sN (aw cd cm dC R R R (sN (bb R cm fA (bj R (sN (eG (f:=al.lv) dW cC b8 R R al.ok C2 R (sN (bd R cC fR b8 R R (sN (iE (id:=104) R lz R R (s_ (cG R R R cC b8 R R R (s0 ((Wk.trans (aS [(1,.ag [.ak 5 (p0.aa.map al.lv)]),(3,.I n2),(4,.ptr 104 0)] [(104,.box (al.lv x4).cells)]) (Wk.trans (Wk.bg 104 (al.lv x4).cells R R R (bM R)) (Wk.eq R R R R)))))))))))))))))) (LH.seq ?_)
   obtain ⟨w6,hv,h⟩:=ao h
   refine LH.di mixed [] [0,0,0,0,0,0,0,0,0,0,0,0,0,0,0,0,0,0,0,0,0,0,0,0,0,0,0,0,0,0,0,0,0,0,0,0,0,0,0,0,0] [(1,.ag [.ak 5 (p0.aa.map al.lv)]),(3,.I n2),(4,.ag (al.lv x4).cells),(63,.bool w6)] [] R R (by kernel_rfl) ?_ ?_
   ·refine fF R (aF (iP R R ⟨R,iO R ?_⟩))
    by_cases cc:(decide (n2 > 0))=true
    ·replace hv:=aB hv cc
     refine mT R (cB cc) (aF (aw cd cm dC R R R ⟨R,mT R (cB cc) (aF (bb R cm fA ⟨R,mT R (cB cc) (fF R (mT R (cB cc) (aF (iA R R ⟨R,?_⟩))))⟩))⟩))
     obtain ⟨x8,s6,hv⟩:=ao hv
     refine mT R (cB cc) (aF (eG (f:=al.lv) dW cC b8 R R al.ok s6 R ⟨R,mT R (cB cc) (aF (aw e8 aD ba R R R ⟨R,mT R (cB cc) (aF (bb R aD bQ ⟨R,mT R (cB cc) (aF (aw e8 aD ba R R R ⟨R,mT R (cB cc) (aF (bb R aD bQ ⟨R,mT R (cB cc) (aF (pJ R R ⟨R,aF (aX (cB cc) (v:=(.bool _)) R ⟨R,iO R ?_⟩)⟩))⟩))⟩))⟩))⟩))⟩))
     by_cases cS:(decide (x8.ID ≥ x4.ID))=true
     ·replace hv:=aB hv cS
      refine mF R R cS (mF R R cS (mF R R cS (mF R R cS (aF (aX (cB cS) (v:=(.bool _)) R ⟨R,iO R (mF R R R (mF R R R (mF R R R (mF R R R (aF (aX R (v:=(.bool _)) R ⟨R,iO R (mF R R R (mF R R R (mF R R R (mF R R R (mF R R R (mF R R R (mF R R R (aF (aX R (v:=(.bool _)) R ⟨R,iO R (mF R R R (mF R R R (mF R R R (mF R R R (aF (aX R (v:=(.bool _)) R ⟨R,?_⟩))))))⟩)))))))))⟩))))))⟩)))))
      obtain rfl:=oI hv
      exact zM
     ·replace cS:=bF cS
      replace hv:=aA hv cS
      refine mT R (cB cS) (aF (aw cH cL eY R R R ⟨R,mT R (cB cS) (aF (bb R cL gr ⟨R,mT R (cB cS) (aF (bW (f:=ai.lv) eU R ⟨R,mT R (cB cS) (aF (fi R R ⟨R,aF (aQ (cB cS) (v:=(.bool _)) R ⟨R,iO R ?_⟩)⟩))⟩))⟩))⟩))
      by_cases bC:(decide ((x4.ab.length:Int)<1))=true
      ·replace hv:=aB hv bC
       refine mF R R bC (mF R R bC (mF R R bC (mF R R bC (aF (aX (cB bC) (v:=(.bool _)) R ⟨R,iO R (mF R R R (mF R R R (mF R R R (mF R R R (mF R R R (mF R R R (mF R R R (aF (aX R (v:=(.bool _)) R ⟨R,iO R (mF R R R (mF R R R (mF R R R (mF R R R (aF (aX R (v:=(.bool _)) R ⟨R,?_⟩))))))⟩)))))))))⟩)))))
       obtain rfl:=oI hv
       exact zM
      ·replace bC:=bF bC
       replace hv:=aA hv bC
       refine mT R (cB bC) (aF (aw cH cL eY R R R ⟨R,mT R (cB bC) (aF (bb R cL gr ⟨R,mT R (cB bC) (aF (bW (f:=ai.lv) eU R ⟨R,mT R (cB bC) (aF (iP R R ⟨R,aF (aQ (cB bC) (v:=(.bool _)) R ⟨R,iO R ?_⟩)⟩))⟩))⟩))⟩))
       by_cases eP:(decide ((x4.ab.length:Int) > 8))=true
       ·replace hv:=aB hv eP
        refine mF R R eP (mF R R eP (mF R R eP (mF R R eP (mF R R eP (mF R R eP (mF R R eP (aF (aX (cB eP) (v:=(.bool _)) R ⟨R,iO R (mF R R R (mF R R R (mF R R R (mF R R R (aF (aX R (v:=(.bool _)) R ⟨R,?_⟩))))))⟩))))))))
        obtain rfl:=oI hv
        exact zM
       ·replace eP:=bF eP
        replace hv:=aA hv eP
        refine mT R (cB eP) (aF (aw dG dX gJ R R R ⟨R,mT R (cB eP) (aF (bb R dX lu ⟨R,mT R (cB eP) (aF (bW (f:=LV.bool) jo R ⟨R,mT R (cB eP) (aF (aw cH cL eY R R R ⟨R,mT R (cB eP) (aF (bb R cL gr ⟨R,mT R (cB eP) (aF (bW (f:=ai.lv) eU R ⟨R,mT R (cB eP) (aF (jR R R ⟨R,aF (aQ (cB eP) (v:=(.bool _)) R ⟨R,iO R ?_⟩)⟩))⟩))⟩))⟩))⟩))⟩))⟩))
        by_cases ep:((x4.ah.length:Int) != (x4.ab.length:Int))=true
        ·replace hv:=aB hv ep
         refine mF R R ep (mF R R ep (mF R R ep (mF R R ep (aF (aX (cB ep) (v:=(.bool _)) R ⟨R,?_⟩)))))
         obtain rfl:=oI hv
         exact zM
        ·replace ep:=bF ep
         replace hv:=aA hv ep
         refine mT R (cB ep) (aF (aw dH dP gW R R R ⟨R,mT R (cB ep) (aF (bb R dP km ⟨R,mT R (cB ep) (aF (bW (f:=ay.lv) iV R ⟨R,mT R (cB ep) (aF (iP R R ⟨R,aF (aQ (cB ep) (v:=(.bool _)) R ⟨R,?_⟩)⟩))⟩))⟩))⟩))
         obtain rfl:=oI hv
         exact zM
    ·replace cc:=bF cc
     replace hv:=aA hv cc
     refine mF R R cc (mF R R cc (mF R R cc (mF R R cc (mF R R cc (mF R R cc (mF R R cc (mF R R cc (mF R R cc (mF R R cc (aF (aQ (cB cc) (v:=(.bool _)) R ⟨R,iO R (mT R R (aF (aw cH cL eY R R R ⟨R,mT R R (aF (bb R cL gr ⟨R,mT R R (aF (bW (f:=ai.lv) eU R ⟨R,mT R R (aF (fi R R ⟨R,aF (aQ R (v:=(.bool _)) R ⟨R,iO R ?_⟩)⟩))⟩))⟩))⟩)))⟩)))))))))))
     by_cases bX:(decide ((x4.ab.length:Int)<1))=true
     ·replace hv:=aB hv bX
      refine mF R R bX (mF R R bX (mF R R bX (mF R R bX (aF (aX (cB bX) (v:=(.bool _)) R ⟨R,iO R (mF R R R (mF R R R (mF R R R (mF R R R (mF R R R (mF R R R (mF R R R (aF (aX R (v:=(.bool _)) R ⟨R,iO R (mF R R R (mF R R R (mF R R R (mF R R R (aF (aX R (v:=(.bool _)) R ⟨R,?_⟩))))))⟩)))))))))⟩)))))
      obtain rfl:=oI hv
      exact zM
     ·replace bX:=bF bX
      replace hv:=aA hv bX
      refine mT R (cB bX) (aF (aw cH cL eY R R R ⟨R,mT R (cB bX) (aF (bb R cL gr ⟨R,mT R (cB bX) (aF (bW (f:=ai.lv) eU R ⟨R,mT R (cB bX) (aF (iP R R ⟨R,aF (aQ (cB bX) (v:=(.bool _)) R ⟨R,iO R ?_⟩)⟩))⟩))⟩))⟩))
      by_cases cN:(decide ((x4.ab.length:Int) > 8))=true
      ·replace hv:=aB hv cN
       refine mF R R cN (mF R R cN (mF R R cN (mF R R cN (mF R R cN (mF R R cN (mF R R cN (aF (aX (cB cN) (v:=(.bool _)) R ⟨R,iO R (mF R R R (mF R R R (mF R R R (mF R R R (aF (aX R (v:=(.bool _)) R ⟨R,?_⟩))))))⟩))))))))
       obtain rfl:=oI hv
       exact zM
      ·replace cN:=bF cN
       replace hv:=aA hv cN
       refine mT R (cB cN) (aF (aw dG dX gJ R R R ⟨R,mT R (cB cN) (aF (bb R dX lu ⟨R,mT R (cB cN) (aF (bW (f:=LV.bool) jo R ⟨R,mT R (cB cN) (aF (aw cH cL eY R R R ⟨R,mT R (cB cN) (aF (bb R cL gr ⟨R,mT R (cB cN) (aF (bW (f:=ai.lv) eU R ⟨R,mT R (cB cN) (aF (jR R R ⟨R,aF (aQ (cB cN) (v:=(.bool _)) R ⟨R,iO R ?_⟩)⟩))⟩))⟩))⟩))⟩))⟩))⟩))
       by_cases bR:((x4.ah.length:Int) != (x4.ab.length:Int))=true
       ·replace hv:=aB hv bR
        refine mF R R bR (mF R R bR (mF R R bR (mF R R bR (aF (aX (cB bR) (v:=(.bool _)) R ⟨R,?_⟩)))))
        obtain rfl:=oI hv
        exact zM
       ·replace bR:=bF bR
        replace hv:=aA hv bR
        refine mT R (cB bR) (aF (aw dH dP gW R R R ⟨R,mT R (cB bR) (aF (bb R dP km ⟨R,mT R (cB bR) (aF (bW (f:=ay.lv) iV R ⟨R,mT R (cB bR) (aF (iP R R ⟨R,aF (aQ (cB bR) (v:=(.bool _)) R ⟨R,?_⟩)⟩))⟩))⟩))⟩))
        obtain rfl:=oI hv
        exact zM
   clear hv
   refine LH.cond (t:=w6) R (fun iJ=>?_) (fun iJ=>?_)
   ·replace h:=aB h iJ
    refine LH.aj [(2,.bool false)] [] R (b4 R zS) (LH.ret (aW (bB (aW (dF (bB (aW ?_)))))))
    obtain rfl:=oI h
    exact aO (aT Tryz.results38) (bU R (bS ⟨aN mN,R,aZ R,Sub.rfl⟩))
   replace h:=aA h iJ
   refine LH.skip (au (LH.wk (aS [(1,.ag [.ak 5 (p0.aa.map al.lv)]),(3,.I n2),(4,.ag (al.lv x4).cells)] []) (LH.seq (LH.aj [(1,.ag [.ak 5 (p0.aa.map al.lv)]),(3,.I n2),(4,.ag (al.lv x4).cells),(5,.I 0)] [] R (bo R zS) (LH.block (LH.loop (fun n e m=>∃ (n17:Int),yS aJ F n2 x4 n n17=some r∧e=Env.of [(1,.ag [.ak 5 (p0.aa.map al.lv)]),(3,.I n2),(4,.ag (al.lv x4).cells),(5,.I n17)]∧m=Mem.of []) F ⟨0,h,R,R⟩ ?_))))))
   clear h
   rintro n e m ⟨n17,h,rfl,rfl⟩
   rcases n with _ | n
   · cases (show Option.none=some _ from h)
   obtain ⟨fo,eB⟩:∃ f,f=yS aJ F n2 x4 n:=⟨_,rfl⟩
   replace h:ye aJ F n2 x4 fo n17=some r:=eB ▸ h
   unfold ye at h
   refine LH.seq (LH.aj [(1,.ag [.ak 5 (p0.aa.map al.lv)]),(3,.I n2),(4,.ag (al.lv x4).cells),(5,.I n17),(68,.bool (decide (n17<(x4.ab.length:Int))))] [] R (bj R (sN (aw cH cL eY R R R (sN (bb R cL gr (sN (bW (f:=ai.lv) eU R (sN (fi R R zS))))))))) (LH.cond (t:=(decide (n17<(x4.ab.length:Int)))) R (fun ke=>?_) (fun ke=>?_)))
   ·replace h:=aB h ke
    refine LH.skip (au (LH.wk (aS [(1,.ag [.ak 5 (p0.aa.map al.lv)]),(3,.I n2),(4,.ag (al.lv x4).cells),(5,.I n17)] []) (LH.seq (LH.block ?_))))
    obtain ⟨Rh,hv,h⟩:=ao h
    refine LH.di mixed [] [0,0,0,0,0,0,0,0,0,0,0,0,0,0,0,0,0,0,0,0,0,0,0,0,0,0,0,0,0] [(1,.ag [.ak 5 (p0.aa.map al.lv)]),(3,.I n2),(4,.ag (al.lv x4).cells),(5,.I n17),(99,.bool Rh)] [] R R (by kernel_rfl) ?_ ?_
    ·refine aF (aw cH cL eY R R R ⟨R,aF (bb R cL gr ⟨R,fF R ?_⟩)⟩)
     obtain ⟨xd,AE,hv⟩:=ao hv
     refine aF (eG (f:=ai.lv) eU bT bN R R ai.ok AE R ⟨R,aF (bd R bT dO bN R R ⟨R,?_⟩)⟩)
     obtain ⟨jr,Ax,hv⟩:=ao hv
     refine aF (dQ (args:=[ai.lv xd]) R FF R (aH bn) (Ge Ax) R ⟨R,aF (jR R R ⟨R,iO R ?_⟩)⟩)
     by_cases jN:(jr != 0)=true
     ·replace hv:=aB hv jN
      refine mF R R jN (mF R R jN (mF R R jN (mF R R jN (mF R R jN (mF R R jN (mF R R jN (mF R R jN (mF R R jN (aF (aX (cB jN) (v:=(.bool _)) R ⟨R,iO R (mF R R R (mF R R R (mF R R R (mF R R R (mF R R R (mF R R R (mF R R R (mF R R R (mF R R R (aF (aX R (v:=(.bool _)) R ⟨R,?_⟩)))))))))))⟩))))))))))
      obtain rfl:=oI hv
      exact zM
     ·replace jN:=bF jN
      replace hv:=aA hv jN
      refine mT R (cB jN) (aF (aw cH cL eY R R R ⟨R,mT R (cB jN) (aF (bb R cL gr ⟨R,mT R (cB jN) (fF R ?_)⟩))⟩))
      obtain ⟨TR,Ta,hv⟩:=ao hv
      refine mT R (cB jN) (aF (eG (f:=ai.lv) eU bT bN R R ai.ok Ta R ⟨R,mT R (cB jN) (aF (aw e9 aD ba R R R ⟨R,mT R (cB jN) (aF (bb R aD bQ ⟨R,mT R (cB jN) (aF (aw e8 aD ba R R R ⟨R,mT R (cB jN) (aF (bb R aD bQ ⟨R,mT R (cB jN) (aF (jR R R ⟨R,aF (aQ (cB jN) (v:=(.bool _)) R ⟨R,iO R ?_⟩)⟩))⟩))⟩))⟩))⟩))⟩))
      by_cases jO:(TR.ID != x4.ID)=true
      ·replace hv:=aB hv jO
       refine mF R R jO (mF R R jO (mF R R jO (mF R R jO (mF R R jO (mF R R jO (mF R R jO (mF R R jO (mF R R jO (aF (aX (cB jO) (v:=(.bool _)) R ⟨R,?_⟩))))))))))
       obtain rfl:=oI hv
       exact zM
      ·replace jO:=bF jO
       replace hv:=aA hv jO
       refine mT R (cB jO) (aF (aw cH cL eY R R R ⟨R,mT R (cB jO) (aF (bb R cL gr ⟨R,mT R (cB jO) (fF R ?_)⟩))⟩))
       obtain ⟨Mh,Lm,hv⟩:=ao hv
       refine mT R (cB jO) (aF (eG (f:=ai.lv) eU bT bN R R ai.ok Lm R ⟨R,mT R (cB jO) (aF (aw fL aD ba R R R ⟨R,mT R (cB jO) (aF (bb R aD bQ ⟨R,mT R (cB jO) (fF R (mT R (cB jO) (aF (cD R R ⟨R,mT R (cB jO) (aF (jR R R ⟨R,aF (aQ (cB jO) (v:=(.bool _)) R ⟨R,?_⟩)⟩))⟩))))⟩))⟩))⟩))
       obtain rfl:=oI hv
       exact zM
    clear hv
    refine LH.cond (t:=Rh) R (fun Af=>?_) (fun Af=>?_)
    ·replace h:=aB h Af
     refine LH.aj [(2,.bool false)] [] R (b4 R zS) (LH.ret (bB (aW (dF (bB (aW (bB (aW (dF (bB (aW ?_)))))))))))
     obtain rfl:=oI h
     exact aO (aT Tryz.results38) (bU R (bS ⟨aN mN,R,aZ R,Sub.rfl⟩))
    replace h:=aA h Af
    refine LH.skip (aY (au (LH.aU [(1,.ag [.ak 5 (p0.aa.map al.lv)]),(3,.I n2),(4,.ag (al.lv x4).cells),(5,.I (i64 (n17+1)))] [] R (bj R (sN (cD R R (bo R zS)))) ?_)))
    exact bh ⟨(i64 (n17+1)),eB ▸ h,R,R⟩ (Wk.eq R R R R)
   replace h:=aA h ke
   refine LH.exit (cw (bY (bO (au (LH.aj [(1,.ag [.ak 5 (p0.aa.map al.lv)]),(3,.I n2),(4,.ag (al.lv x4).cells),(6,.I 0)] [] R (bo R zS) (LH.block (LH.loop (fun n e m=>∃ (n28:Int),yT aJ n2 x4 n n28=some r∧e=Env.of [(1,.ag [.ak 5 (p0.aa.map al.lv)]),(3,.I n2),(4,.ag (al.lv x4).cells),(6,.I n28)]∧m=Mem.of []) F ⟨0,h,R,R⟩ ?_)))))))
   clear h
   rintro n e m ⟨n28,h,rfl,rfl⟩
   rcases n with _ | n
   · cases (show Option.none=some _ from h)
   obtain ⟨oS,mG⟩:∃ f,f=yT aJ n2 x4 n:=⟨_,rfl⟩
   replace h:yf aJ n2 x4 oS n28=some r:=mG ▸ h
   unfold yf at h
   refine LH.seq (LH.aj [(1,.ag [.ak 5 (p0.aa.map al.lv)]),(3,.I n2),(4,.ag (al.lv x4).cells),(6,.I n28),(104,.bool (decide (n28<(x4.Uses.length:Int))))] [] R (bj R (sN (aw dH dP gW R R R (sN (bb R dP km (sN (bW (f:=ay.lv) iV R (sN (fi R R zS))))))))) (LH.cond (t:=(decide (n28<(x4.Uses.length:Int)))) R (fun Km=>?_) (fun Km=>?_)))
   ·replace h:=aB h Km
    refine LH.skip (au (LH.wk (aS [(1,.ag [.ak 5 (p0.aa.map al.lv)]),(3,.I n2),(4,.ag (al.lv x4).cells),(6,.I n28)] []) (LH.seq (LH.block ?_))))
    obtain ⟨Rk,hv,h⟩:=ao h
    refine LH.di mixed [] [0,0,0,0,0,0,0,0,0,0,0,0,0,0,0,0,0,0,0] [(1,.ag [.ak 5 (p0.aa.map al.lv)]),(3,.I n2),(4,.ag (al.lv x4).cells),(6,.I n28),(125,.bool Rk)] [] R R (by kernel_rfl) ?_ ?_
    ·refine aF (aw dH dP gW R R R ⟨R,aF (bb R dP km ⟨R,fF R ?_⟩)⟩)
     obtain ⟨TS,Tb,hv⟩:=ao hv
     refine aF (eG (f:=ay.lv) iV rF lN R R ay.ok Tb R ⟨R,aF (aw oZ aD ba R R R ⟨R,aF (bb R aD bQ ⟨R,aF (fi R R ⟨R,iO R ?_⟩)⟩)⟩)⟩)
     by_cases ji:(decide (TS.Version<1))=true
     ·replace hv:=aB hv ji
      refine mF R R ji (mF R R ji (mF R R ji (mF R R ji (mF R R ji (mF R R ji (mF R R ji (mF R R ji (mF R R ji (mF R R ji (aF (aX (cB ji) (v:=(.bool _)) R ⟨R,?_⟩)))))))))))
      obtain rfl:=oI hv
      exact zM
     ·replace ji:=bF ji
      replace hv:=aA hv ji
      refine mT R (cB ji) (aF (aw dH dP gW R R R ⟨R,mT R (cB ji) (aF (bb R dP km ⟨R,mT R (cB ji) (fF R ?_)⟩))⟩))
      obtain ⟨UY,Td,hv⟩:=ao hv
      refine mT R (cB ji) (aF (eG (f:=ay.lv) iV rF lN R R ay.ok Td R ⟨R,mT R (cB ji) (aF (aw oZ aD ba R R R ⟨R,mT R (cB ji) (aF (bb R aD bQ ⟨R,mT R (cB ji) (aF (aw cH cL eY R R R ⟨R,mT R (cB ji) (aF (bb R cL gr ⟨R,mT R (cB ji) (aF (bW (f:=ai.lv) eU R ⟨R,mT R (cB ji) (aF (iP R R ⟨R,aF (aQ (cB ji) (v:=(.bool _)) R ⟨R,?_⟩)⟩))⟩))⟩))⟩))⟩))⟩))⟩))
      obtain rfl:=oI hv
      exact zM
    clear hv
    refine LH.cond (t:=Rk) R (fun CM=>?_) (fun CM=>?_)
    ·replace h:=aB h CM
     refine LH.aj [(2,.bool false)] [] R (b4 R zS) (LH.ret (bB (aW (dF (bB (bB (aW (dF (bB (aW ?_))))))))))
     obtain rfl:=oI h
     exact aO (aT Tryz.results38) (bU R (bS ⟨aN mN,R,aZ R,Sub.rfl⟩))
    replace h:=aA h CM
    refine LH.skip (aY (au (LH.aU [(1,.ag [.ak 5 (p0.aa.map al.lv)]),(3,.I n2),(4,.ag (al.lv x4).cells),(6,.I (i64 (n28+1)))] [] R (bj R (sN (cD R R (bo R zS)))) ?_)))
    exact bh ⟨(i64 (n28+1)),mG ▸ h,R,R⟩ (Wk.eq R R R R)
   replace h:=aA h Km
   refine LH.exit (cw (bY (bO (aY (au (LH.aU [(1,.ag [.ak 5 (p0.aa.map al.lv)]),(3,.I (i64 (n2+1)))] [] R (bj R (sN (cD R R (bo R zS)))) ?_))))))
   exact bh ⟨(i64 (n2+1)),a7 ▸ h,R,R⟩ (Wk.eq R R R R)
  replace h:=aA h iK
  refine LH.exit (cw (bY (bO (au (LH.aj [(2,.bool true)] [] R (b4 R zS) (LH.ret ?_))))))
  obtain rfl:=oI h
  exact aO (aT Tryz.results38) (bU R (bS ⟨aN mN,R,aZ R,Sub.rfl⟩))
end Go.Proofs.YtmollikhdbaikaaGreat
