import Derived.Test.YtiinmaihgmfniaaGreatZW2
set_option linter.unusedVariables false
set_option linter.unusedSimpArgs false
set_option maxRecDepth 100000
set_option maxHeartbeats 1000000
namespace Go.Proofs.YtiinmaihgmfniaaGreat
open Go.L Go.Sh
set_option maxHeartbeats 4000000 in
theorem NB {F:Nat} {p0:List ba} {p1:Int} {r:bx × List fc × Int} (h:iq F p0 p1=some r):aF Tryz.prog 63 [.lst 12 (p0.map ba.lv),.I p1] (Mem.of []) (.tup [.agg [.lst 5 (r.1.aa.map ay.lv)],.lst 3 (r.2.1.map fc.lv),.I r.2.2]) (Mem.of []):=by
  unfold iq at h
  refine bh Tryz.func63 R (nT Tryz.ntmps63 R) (LH.aj R (sN (hD (id:=104) R jJ R R (pU R (br R zQ)))) ?_)
  obtain ⟨r1,dR,h⟩:=ae h
  refine LH.aj R (dY R (sN (dq (args:=[.lst 12 (p0.map ba.lv)]) R Pz R (aw bl) (UH dR) R (sE R (sN (fL R R (sN (fL R R (sD R (br R zQ)))))))))) (LH.seq (LH.aj R (aZ R (sN (iC R R zQ))) (LH.cond (t:=(r1.2 != 0)) R (fun dI=>?_) (fun dI=>?_))))
  ·replace h:=aB h dI
   refine LH.ax [(4,.sptr [.nil]),(5,.nil),(6,.I r1.2)] [] R (sN (gJ (vs:=[]) wh jJ R gI (aZ R (s_ (cM R R R cX cY R R R (pU R (br R (s0 ((Wk.trans (bM [(4,.ptr 104 0),(5,.nil),(6,.I r1.2)] [(104,.box [.nil])]) (Wk.trans (Wk.bD 104 [.nil] R R R (cc R)) (Wk.eq R R R R)))))))))))) (LH.ret (aO ?_))
   obtain rfl:=oI h
   exact aJ (aT Tryz.results63) (dN R cX eT cY R R (bT R (bT R (bP ⟨aG mN,R,aN R,(Sub.tup (sd (Sub.agg (jC bl)) (jC (aw bl))))⟩))))
  replace h:=aA h dI
  refine LH.skip (ai (LH.ax [(1,.I p1),(4,.ptr 104 0),(7,.lst 12 (r1.1.map ba.lv)),(9,.ptr 811 0)] [(104,.box [.nil]),(811,.box [.arr 812 (List.length ([]:List ay))]),(812,gE (List.map ay.lv ([]:List ay)))] R (sX (gp 711 R jJ R R) (s0 ((Wk.trans (bM [(1,.I p1),(4,.ptr 104 0),(7,.lst 12 (r1.1.map ba.lv)),(9,.ptr 811 0)] [(104,.box [.nil]),(811,.box [.nil])]) (Wk.trans (bM [(1,.I p1),(4,.ptr 104 0),(7,.lst 12 (r1.1.map ba.lv)),(9,.ptr 811 0)] [(104,.box [.nil]),(811,.box [.nil])]) (Wk.trans (Wk.QP 812 179 5 [(1,108,5),(2,4,1),(3,182,3)] 811 0 R R R R R (cc R)) (Wk.eq R R R R))))))) (LH.aj R (pU R zQ) (LH.aj R (sN (ej (args:=[]) (ml:=[]) (cS:=[(14501,.map 3 171 (je LV.I dM c8))]) R rS R bl (Bo (F:=F) (r:=c8) R) mN (kE R bX) R (sN (oA (v:=(.mp _)) R zQ)))) (LH.seq (LH.aj R (dY R (sN (bW (f:=ba.lv) lg R (aZ R zQ)))) (LH.block (LH.wk ((Wk.trans (bM [(1,.I p1),(4,.ptr 104 0),(9,.ptr 811 0),(10,.nil),(11,.mp 14501),(27,.lst 12 (r1.1.map ba.lv)),(28,.I (r1.1.length:Int)),(29,.I 0)] [(104,.box [.nil]),(811,.box [.arr 812 (List.length ([]:List ay))]),(812,gE (List.map ay.lv ([]:List ay))),(14501,.map 3 171 (je LV.I dM c8))]) (Wk.trans (bM [(1,.I p1),(4,.ptr 104 0),(9,.ptr 811 0),(10,.nil),(11,.mp 14501),(27,.lst 12 (r1.1.map ba.lv)),(28,.I (r1.1.length:Int)),(29,.I 0)] [(104,.box [.nil]),(811,.box [.arr 812 (List.length ([]:List ay))]),(812,gE (List.map ay.lv ([]:List ay))),(14501,.map 3 171 (je LV.I dM c8))]) (Wk.trans (Wk.Ac (iP:=[(1,.I p1),(4,.ptr 104 0),(9,.ptr 811 0),(10,.arr 162 (List.length ([]:List fc))),(11,.mp 14501),(27,.lst 12 (r1.1.map ba.lv)),(28,.I (r1.1.length:Int)),(29,.I 0)]) 162 143 3 R R (wK (wK (wK (wO (wK (wK (wK (wK wN))))))))) (bM [(1,.I p1),(4,.ptr 104 0),(9,.ptr 811 0),(10,.arr 162 (List.length ([]:List fc))),(11,.mp 14501),(27,.lst 12 (r1.1.map ba.lv)),(28,.I (r1.1.length:Int)),(29,.I 0)] [(104,.box [.nil]),(162,.arr 143 3 (List.map fc.lv ([]:List fc))),(811,.box [.arr 812 (List.length ([]:List ay))]),(812,gE (List.map ay.lv ([]:List ay))),(14501,.map 3 171 (je LV.I dM c8))]))))) (LH.loop (fun n e m=>∃ (n3:Int) (l4:List fc) (l5:List ay),qp F p1 r1 n n3 l4 l5=some r∧e=Env.of [(1,.I p1),(4,.ptr 104 0),(9,.ptr 811 0),(10,.arr 162 l4.length),(11,.mp 14501),(27,.lst 12 (r1.1.map ba.lv)),(28,.I (r1.1.length:Int)),(29,.I n3)]∧m=Mem.of [(104,.box [.nil]),(162,.arr 143 3 (l4.map fc.lv)),(811,.box [.arr 812 l5.length]),(812,gE (l5.map ay.lv)),(14501,.map 3 171 (je LV.I dM c8))]) F ⟨0,([]:List fc),([]:List ay),h,R,R⟩ ?_)))))))))
  clear h
  rintro n e m ⟨n3,l4,l5,h,rfl,rfl⟩
  rcases n with _ | n
  · cases (show Option.none=some _ from h)
  obtain ⟨aH,aI⟩:∃ f,f=qp F p1 r1 n:=⟨_,rfl⟩
  replace h:A8 F p1 r1 aH n3 l4 l5=some r:=aI ▸ h
  unfold A8 at h
  refine LH.aj R (sN (eG R R zQ)) (LH.seq (LH.cond (t:=(decide (n3<(r1.1.length:Int)))) R (fun fY=>?_) (fun fY=>?_)))
  ·replace h:=aB h fY
   refine LH.skip (ai (LH.seq (LH.block ?_)))
   obtain ⟨x7,vA,h⟩:=ae h
   refine LH.ax [(1,.I p1),(4,.ptr 104 0),(9,.ptr 811 0),(10,.arr 162 l4.length),(11,.mp 14501),(13,.sptr (ba.lv x7).cells),(27,.lst 12 (r1.1.map ba.lv)),(28,.I (r1.1.length:Int)),(29,.I n3)] [(104,.box [.nil]),(162,.arr 143 3 (l4.map fc.lv)),(811,.box [.arr 812 l5.length]),(812,gE (l5.map ay.lv)),(14501,.map 3 171 (je LV.I dM c8))] R (sN (eF (f:=ba.lv) lg eB dJ R R ba.ok vA R (sN (bw R eB iv dJ R R (sN (hD (id:=113) R so R R (s_ (cM R R R eB dJ R R R (s0 ((Wk.trans (bM [(1,.I p1),(4,.ptr 104 0),(9,.ptr 811 0),(10,.arr 162 l4.length),(11,.mp 14501),(13,.ptr 113 0),(27,.lst 12 (r1.1.map ba.lv)),(28,.I (r1.1.length:Int)),(29,.I n3)] [(104,.box [.nil]),(113,.box (ba.lv x7).cells),(162,.arr 143 3 (l4.map fc.lv)),(811,.box [.arr 812 l5.length]),(812,gE (l5.map ay.lv)),(14501,.map 3 171 (je LV.I dM c8))]) (Wk.trans (Wk.bD 113 (ba.lv x7).cells R R R (cc R)) (Wk.eq R R R R))))))))))))) (LH.seq (LH.aj R (sN (aC dE di dh R R R (sN (aC ky aD aW R R R (sN (bj R aD b5 (aZ R (sN (jf R R zQ))))))))) (LH.cond (t:=(decide (x7.ak.Time > p1))) R (fun kf=>?_) (fun kf=>?_))))
   ·replace h:=aB h kf
    refine LH.exit (cg (Cg R (cg (bO (bK (ai (LH.wk ((Wk.trans (bM [(4,.ptr 104 0),(9,.ptr 811 0),(10,.arr 162 l4.length)] [(104,.box [.nil]),(162,.arr 143 3 (l4.map fc.lv)),(811,.box [.arr 812 l5.length]),(812,gE (l5.map ay.lv))]) (Wk.trans (Wk.pj (f:=fc.lv) (iP:=[(4,.ptr 104 0),(9,.ptr 811 0),(10,.lst 3 (l4.map fc.lv))]) 162 143 3 l4 R R (cc R) (fK R (fK R (fZ fN)))) (bM [(4,.ptr 104 0),(9,.ptr 811 0),(10,.lst 3 (l4.map fc.lv))] [(104,.box [.nil]),(811,.box [.arr 812 l5.length]),(812,gE (l5.map ay.lv))])))) (LH.ax [(4,.sptr [.lst 5 (l5.map ay.lv)]),(5,.lst 3 (l4.map fc.lv)),(6,.I 0)] [] R (cJ.wk (bM [(4,.ptr 104 0),(9,.ptr 811 0),(10,.lst 3 (l4.map fc.lv))] [(104,.box [.nil]),(811,.box [.arr 812 l5.length]),(812,gE (l5.map ay.lv))]) (cJ.wk (Wk.trans (Wk.trans (Wk.oj (f:=ay.lv) 812 179 5 [(1,108,5),(2,4,1),(3,182,3)] l5 R ay.ok) (bM [(4,.ptr 104 0),(9,.ptr 811 0),(10,.lst 3 (l4.map fc.lv))] [(104,.box [.nil]),(811,.box [.arr 812 l5.length]),(812,.arr 179 5 (l5.map ay.lv))])) (Wk.trans (Wk.ez (f:=ay.lv) 812 179 5 l5 811 R R R (gS gR) R R (cc R)) (bM [(4,.ptr 104 0),(9,.ptr 811 0),(10,.lst 3 (l4.map fc.lv))] [(104,.box [.nil]),(811,.box [.lst 5 (l5.map ay.lv)])]))) (sN (kp R R R cX eT cY R R (dY R (s_ (cM R R R cX cY R R R (sD R (br R (s0 ((Wk.trans (bM [(4,.ptr 104 0),(5,.lst 3 (l4.map fc.lv)),(6,.I 0)] [(104,.box [.lst 5 (l5.map ay.lv)])]) (Wk.trans (Wk.bD 104 [.lst 5 (l5.map ay.lv)] R R R (cc R)) (Wk.eq R R R R)))))))))))))) (LH.ret ?_)))))))))
    obtain rfl:=oI h
    exact aJ (aT Tryz.results63) (dN R cX eT cY R R (bT R (bT R (bP ⟨aG mN,R,aN R,(Sub.tup (aw (aw (aw bl))))⟩))))
   replace h:=aA h kf
   refine LH.skip (ai (LH.aj R (br R zQ) (LH.seq ?_)))
   by_cases Rz:(x7.Kind == 1)=true
   ·replace h:=aB h Rz
    refine LH.aj R (sN (oM (v:=(.mp _)) R (sN (aC dB aD aW R R R (sN (bj R aD b5 (sX ((eY (f:=LV.I) (g:=dM) (xs:=c8) (key:=1) (z:=0) (o:=some 1) ix lM wQ R R (congrArg LV.I (eq_of_beq Rz)) kU R).ok) (sE R (sN (fL R R (sN (fL R R (sN (oA (v:=(.fn _ _)) R (cr R zQ))))))))))))))) (LH.aj R (bZ R zQ) (LH.cond (t:=true) R (fun gD=>?_) (fun gD=>?_)))
    ·obtain ⟨da,k6,h⟩:=ae h
     refine LH.bd R (sN (oM (v:=(.fn _ _)) R (sN (bw R eB iv dJ R R (sN (ej (args:=[.ptr 811 0,ba.lv x7]) (ml:=[(811,.box [.arr 812 l5.length]),(812,gE (l5.map ay.lv))]) (cS:=[(811,.box [.arr 812 da.2.aa.length]),(812,gE (da.2.aa.map ay.lv))]) R II R (aw (aw bl)) (Nx k6) ⟨R,R,trivial⟩ (bu R (bu R bX)) R (br R zQ))))))) (ai (LH.aj R (aZ R (sN (iC R R zQ))) (LH.cond (t:=(da.1 != 0)) R (fun gl=>?_) (fun gl=>?_))))
     ·replace h:=aB h gl
      obtain ⟨G6,Ph,h⟩:=ae h
      refine LH.bd R (lq R (sN (aC dE di dh R R R (sN (aC gO aD aW R R R (sN (bj R aD b5 (sN (aC dE di dh R R R (sN (aC gy aD aW R R R (sN (bj R aD b5 (sN (gJ (vs:=[(0,.I x7.ak.Source),(1,.I x7.ak.Seq)]) vf vj R (lf mG aW aD R R R (lf mH aW aD R R R gI)) (aZ R (sN (gJ (vs:=[(0,.agg [.I x7.ak.Source,.I x7.ak.Seq]),(1,.I da.1)]) vh vm R (lf mI vd u6 R R R (lf mJ DO DM R R R gI)) (sN (jU (f:=fc.lv) (ys:=[(fc.mk (vF.mk x7.ak.Source x7.ak.Seq) da.1)]) qw kR kT R R R fc.ok (sN (rT (f:=fc.lv) qw kR kT R R (cc R) R Ph (uT R zQ))))))))))))))))))))))) (aQ (ai (LH.bd R (sN (b8 R R (aZ R zQ))) ?_)))
      exact a7 ⟨(i64 (n3+1)),G6,da.2.aa,aI ▸ h,R,R⟩ (Wk.eq R R R R)
     replace h:=aA h gl
     refine LH.skip (aQ (ai (LH.bd R (sN (b8 R R (aZ R zQ))) ?_)))
     exact a7 ⟨(i64 (n3+1)),l4,da.2.aa,aI ▸ h,R,R⟩ (Wk.eq R R R R)
    ·cases gD
   replace Rz:=bF Rz
   replace h:=aA h Rz
   by_cases FQ:(x7.Kind == 2)=true
   ·replace h:=aB h FQ
    refine LH.aj R (sN (oM (v:=(.mp _)) R (sN (aC dB aD aW R R R (sN (bj R aD b5 (sX ((eY (f:=LV.I) (g:=dM) (xs:=c8) (key:=2) (z:=0) (o:=some 2) ix lM wQ R R (congrArg LV.I (eq_of_beq FQ)) kU R).ok) (sE R (sN (fL R R (sN (fL R R (sN (oA (v:=(.fn _ _)) R (cr R zQ))))))))))))))) (LH.aj R (bZ R zQ) (LH.cond (t:=true) R (fun kD=>?_) (fun kD=>?_)))
    ·obtain ⟨iz,yn,h⟩:=ae h
     refine LH.bd R (sN (oM (v:=(.fn _ _)) R (sN (bw R eB iv dJ R R (sN (ej (args:=[.ptr 811 0,ba.lv x7]) (ml:=[(811,.box [.arr 812 l5.length]),(812,gE (l5.map ay.lv))]) (cS:=[(811,.box [.arr 812 iz.2.aa.length]),(812,gE (iz.2.aa.map ay.lv))]) R IJ R (aw (aw bl)) (Nw yn) ⟨R,R,trivial⟩ (bu R (bu R bX)) R (br R zQ))))))) (ai (LH.aj R (aZ R (sN (iC R R zQ))) (LH.cond (t:=(iz.1 != 0)) R (fun tQ=>?_) (fun tQ=>?_))))
     ·replace h:=aB h tQ
      obtain ⟨YM,XE,h⟩:=ae h
      refine LH.bd R (lq R (sN (aC dE di dh R R R (sN (aC gO aD aW R R R (sN (bj R aD b5 (sN (aC dE di dh R R R (sN (aC gy aD aW R R R (sN (bj R aD b5 (sN (gJ (vs:=[(0,.I x7.ak.Source),(1,.I x7.ak.Seq)]) vf vj R (lf mG aW aD R R R (lf mH aW aD R R R gI)) (aZ R (sN (gJ (vs:=[(0,.agg [.I x7.ak.Source,.I x7.ak.Seq]),(1,.I iz.1)]) vh vm R (lf mI vd u6 R R R (lf mJ DO DM R R R gI)) (sN (jU (f:=fc.lv) (ys:=[(fc.mk (vF.mk x7.ak.Source x7.ak.Seq) iz.1)]) qw kR kT R R R fc.ok (sN (rT (f:=fc.lv) qw kR kT R R (cc R) R XE (uT R zQ))))))))))))))))))))))) (aQ (ai (LH.bd R (sN (b8 R R (aZ R zQ))) ?_)))
      exact a7 ⟨(i64 (n3+1)),YM,iz.2.aa,aI ▸ h,R,R⟩ (Wk.eq R R R R)
     replace h:=aA h tQ
     refine LH.skip (aQ (ai (LH.bd R (sN (b8 R R (aZ R zQ))) ?_)))
     exact a7 ⟨(i64 (n3+1)),l4,iz.2.aa,aI ▸ h,R,R⟩ (Wk.eq R R R R)
    ·cases kD
   replace FQ:=bF FQ
   replace h:=aA h FQ
   by_cases FT:(x7.Kind == 3)=true
   ·replace h:=aB h FT
    refine LH.aj R (sN (oM (v:=(.mp _)) R (sN (aC dB aD aW R R R (sN (bj R aD b5 (sX ((eY (f:=LV.I) (g:=dM) (xs:=c8) (key:=3) (z:=0) (o:=some 3) ix lM wQ R R (congrArg LV.I (eq_of_beq FT)) kU R).ok) (sE R (sN (fL R R (sN (fL R R (sN (oA (v:=(.fn _ _)) R (cr R zQ))))))))))))))) (LH.aj R (bZ R zQ) (LH.cond (t:=true) R (fun jz=>?_) (fun jz=>?_)))
    ·obtain ⟨er,yp,h⟩:=ae h
     refine LH.bd R (sN (oM (v:=(.fn _ _)) R (sN (bw R eB iv dJ R R (sN (ej (args:=[.ptr 811 0,ba.lv x7]) (ml:=[(811,.box [.arr 812 l5.length]),(812,gE (l5.map ay.lv))]) (cS:=[(811,.box [.arr 812 er.2.aa.length]),(812,gE (er.2.aa.map ay.lv))]) R IK R (aw (aw bl)) (Nu yp) ⟨R,R,trivial⟩ (bu R (bu R bX)) R (br R zQ))))))) (ai (LH.aj R (aZ R (sN (iC R R zQ))) (LH.cond (t:=(er.1 != 0)) R (fun mg=>?_) (fun mg=>?_))))
     ·replace h:=aB h mg
      obtain ⟨v23,Iu,h⟩:=ae h
      refine LH.bd R (lq R (sN (aC dE di dh R R R (sN (aC gO aD aW R R R (sN (bj R aD b5 (sN (aC dE di dh R R R (sN (aC gy aD aW R R R (sN (bj R aD b5 (sN (gJ (vs:=[(0,.I x7.ak.Source),(1,.I x7.ak.Seq)]) vf vj R (lf mG aW aD R R R (lf mH aW aD R R R gI)) (aZ R (sN (gJ (vs:=[(0,.agg [.I x7.ak.Source,.I x7.ak.Seq]),(1,.I er.1)]) vh vm R (lf mI vd u6 R R R (lf mJ DO DM R R R gI)) (sN (jU (f:=fc.lv) (ys:=[(fc.mk (vF.mk x7.ak.Source x7.ak.Seq) er.1)]) qw kR kT R R R fc.ok (sN (rT (f:=fc.lv) qw kR kT R R (cc R) R Iu (uT R zQ))))))))))))))))))))))) (aQ (ai (LH.bd R (sN (b8 R R (aZ R zQ))) ?_)))
      exact a7 ⟨(i64 (n3+1)),v23,er.2.aa,aI ▸ h,R,R⟩ (Wk.eq R R R R)
     replace h:=aA h mg
     refine LH.skip (aQ (ai (LH.bd R (sN (b8 R R (aZ R zQ))) ?_)))
     exact a7 ⟨(i64 (n3+1)),l4,er.2.aa,aI ▸ h,R,R⟩ (Wk.eq R R R R)
    ·cases jz
   replace FT:=bF FT
   replace h:=aA h FT
   by_cases FV:(x7.Kind == 4)=true
   ·replace h:=aB h FV
    refine LH.aj R (sN (oM (v:=(.mp _)) R (sN (aC dB aD aW R R R (sN (bj R aD b5 (sX ((eY (f:=LV.I) (g:=dM) (xs:=c8) (key:=4) (z:=0) (o:=some 4) ix lM wQ R R (congrArg LV.I (eq_of_beq FV)) kU R).ok) (sE R (sN (fL R R (sN (fL R R (sN (oA (v:=(.fn _ _)) R (cr R zQ))))))))))))))) (LH.aj R (bZ R zQ) (LH.cond (t:=true) R (fun Sf=>?_) (fun Sf=>?_)))
    ·obtain ⟨k9,Il,h⟩:=ae h
     refine LH.bd R (sN (oM (v:=(.fn _ _)) R (sN (bw R eB iv dJ R R (sN (ej (args:=[.ptr 811 0,ba.lv x7]) (ml:=[(811,.box [.arr 812 l5.length]),(812,gE (l5.map ay.lv))]) (cS:=[(811,.box [.arr 812 k9.2.aa.length]),(812,gE (k9.2.aa.map ay.lv))]) R IL R (aw (aw bl)) (ND Il) ⟨R,R,trivial⟩ (bu R (bu R bX)) R (br R zQ))))))) (ai (LH.aj R (aZ R (sN (iC R R zQ))) (LH.cond (t:=(k9.1 != 0)) R (fun tT=>?_) (fun tT=>?_))))
     ·replace h:=aB h tT
      obtain ⟨v28,XH,h⟩:=ae h
      refine LH.bd R (lq R (sN (aC dE di dh R R R (sN (aC gO aD aW R R R (sN (bj R aD b5 (sN (aC dE di dh R R R (sN (aC gy aD aW R R R (sN (bj R aD b5 (sN (gJ (vs:=[(0,.I x7.ak.Source),(1,.I x7.ak.Seq)]) vf vj R (lf mG aW aD R R R (lf mH aW aD R R R gI)) (aZ R (sN (gJ (vs:=[(0,.agg [.I x7.ak.Source,.I x7.ak.Seq]),(1,.I k9.1)]) vh vm R (lf mI vd u6 R R R (lf mJ DO DM R R R gI)) (sN (jU (f:=fc.lv) (ys:=[(fc.mk (vF.mk x7.ak.Source x7.ak.Seq) k9.1)]) qw kR kT R R R fc.ok (sN (rT (f:=fc.lv) qw kR kT R R (cc R) R XH (uT R zQ))))))))))))))))))))))) (aQ (ai (LH.bd R (sN (b8 R R (aZ R zQ))) ?_)))
      exact a7 ⟨(i64 (n3+1)),v28,k9.2.aa,aI ▸ h,R,R⟩ (Wk.eq R R R R)
     replace h:=aA h tT
     refine LH.skip (aQ (ai (LH.bd R (sN (b8 R R (aZ R zQ))) ?_)))
     exact a7 ⟨(i64 (n3+1)),l4,k9.2.aa,aI ▸ h,R,R⟩ (Wk.eq R R R R)
    ·cases Sf
   replace FV:=bF FV
   replace h:=aA h FV
   by_cases FX:(x7.Kind == 5)=true
   ·replace h:=aB h FX
    refine LH.aj R (sN (oM (v:=(.mp _)) R (sN (aC dB aD aW R R R (sN (bj R aD b5 (sX ((eY (f:=LV.I) (g:=dM) (xs:=c8) (key:=5) (z:=0) (o:=some 5) ix lM wQ R R (congrArg LV.I (eq_of_beq FX)) kU R).ok) (sE R (sN (fL R R (sN (fL R R (sN (oA (v:=(.fn _ _)) R (cr R zQ))))))))))))))) (LH.aj R (bZ R zQ) (LH.cond (t:=true) R (fun qa=>?_) (fun qa=>?_)))
    ·obtain ⟨ek,CI,h⟩:=ae h
     refine LH.bd R (sN (oM (v:=(.fn _ _)) R (sN (bw R eB iv dJ R R (sN (ej (args:=[.ptr 811 0,ba.lv x7,.sptr [.bool true]]) (ml:=[(811,.box [.arr 812 l5.length]),(812,gE (l5.map ay.lv))]) (cS:=[(811,.box [.arr 812 ek.2.aa.length]),(812,gE (ek.2.aa.map ay.lv))]) R yr R (aw (aw (aw bl))) (Ev CI) ⟨R,R,trivial⟩ (bu R (bu R bX)) R (br R zQ))))))) (ai (LH.aj R (aZ R (sN (iC R R zQ))) (LH.cond (t:=(ek.1 != 0)) R (fun pt=>?_) (fun pt=>?_))))
     ·replace h:=aB h pt
      obtain ⟨v33,XI,h⟩:=ae h
      refine LH.bd R (lq R (sN (aC dE di dh R R R (sN (aC gO aD aW R R R (sN (bj R aD b5 (sN (aC dE di dh R R R (sN (aC gy aD aW R R R (sN (bj R aD b5 (sN (gJ (vs:=[(0,.I x7.ak.Source),(1,.I x7.ak.Seq)]) vf vj R (lf mG aW aD R R R (lf mH aW aD R R R gI)) (aZ R (sN (gJ (vs:=[(0,.agg [.I x7.ak.Source,.I x7.ak.Seq]),(1,.I ek.1)]) vh vm R (lf mI vd u6 R R R (lf mJ DO DM R R R gI)) (sN (jU (f:=fc.lv) (ys:=[(fc.mk (vF.mk x7.ak.Source x7.ak.Seq) ek.1)]) qw kR kT R R R fc.ok (sN (rT (f:=fc.lv) qw kR kT R R (cc R) R XI (uT R zQ))))))))))))))))))))))) (aQ (ai (LH.bd R (sN (b8 R R (aZ R zQ))) ?_)))
      exact a7 ⟨(i64 (n3+1)),v33,ek.2.aa,aI ▸ h,R,R⟩ (Wk.eq R R R R)
     replace h:=aA h pt
     refine LH.skip (aQ (ai (LH.bd R (sN (b8 R R (aZ R zQ))) ?_)))
     exact a7 ⟨(i64 (n3+1)),l4,ek.2.aa,aI ▸ h,R,R⟩ (Wk.eq R R R R)
    ·cases qa
   replace FX:=bF FX
   replace h:=aA h FX
   by_cases FY:(x7.Kind == 6)=true
   ·replace h:=aB h FY
    refine LH.aj R (sN (oM (v:=(.mp _)) R (sN (aC dB aD aW R R R (sN (bj R aD b5 (sX ((eY (f:=LV.I) (g:=dM) (xs:=c8) (key:=6) (z:=0) (o:=some 6) ix lM wQ R R (congrArg LV.I (eq_of_beq FY)) kU R).ok) (sE R (sN (fL R R (sN (fL R R (sN (oA (v:=(.fn _ _)) R (cr R zQ))))))))))))))) (LH.aj R (bZ R zQ) (LH.cond (t:=true) R (fun Si=>?_) (fun Si=>?_)))
    ·obtain ⟨xF,O6,h⟩:=ae h
     refine LH.bd R (sN (oM (v:=(.fn _ _)) R (sN (bw R eB iv dJ R R (sN (ej (args:=[.ptr 811 0,ba.lv x7,.sptr [.bool false]]) (ml:=[(811,.box [.arr 812 l5.length]),(812,gE (l5.map ay.lv))]) (cS:=[(811,.box [.arr 812 xF.2.aa.length]),(812,gE (xF.2.aa.map ay.lv))]) R yr R (aw (aw (aw bl))) (Ev O6) ⟨R,R,trivial⟩ (bu R (bu R bX)) R (br R zQ))))))) (ai (LH.aj R (aZ R (sN (iC R R zQ))) (LH.cond (t:=(xF.1 != 0)) R (fun Ct=>?_) (fun Ct=>?_))))
     ·replace h:=aB h Ct
      obtain ⟨YN,XK,h⟩:=ae h
      refine LH.bd R (lq R (sN (aC dE di dh R R R (sN (aC gO aD aW R R R (sN (bj R aD b5 (sN (aC dE di dh R R R (sN (aC gy aD aW R R R (sN (bj R aD b5 (sN (gJ (vs:=[(0,.I x7.ak.Source),(1,.I x7.ak.Seq)]) vf vj R (lf mG aW aD R R R (lf mH aW aD R R R gI)) (aZ R (sN (gJ (vs:=[(0,.agg [.I x7.ak.Source,.I x7.ak.Seq]),(1,.I xF.1)]) vh vm R (lf mI vd u6 R R R (lf mJ DO DM R R R gI)) (sN (jU (f:=fc.lv) (ys:=[(fc.mk (vF.mk x7.ak.Source x7.ak.Seq) xF.1)]) qw kR kT R R R fc.ok (sN (rT (f:=fc.lv) qw kR kT R R (cc R) R XK (uT R zQ))))))))))))))))))))))) (aQ (ai (LH.bd R (sN (b8 R R (aZ R zQ))) ?_)))
      exact a7 ⟨(i64 (n3+1)),YN,xF.2.aa,aI ▸ h,R,R⟩ (Wk.eq R R R R)
     replace h:=aA h Ct
     refine LH.skip (aQ (ai (LH.bd R (sN (b8 R R (aZ R zQ))) ?_)))
     exact a7 ⟨(i64 (n3+1)),l4,xF.2.aa,aI ▸ h,R,R⟩ (Wk.eq R R R R)
    ·cases Si
   replace FY:=bF FY
   replace h:=aA h FY
   refine LH.aj R (sN (oM (v:=(.mp _)) R (sN (aC dB aD aW R R R (sN (bj R aD b5 (sX ((eY (f:=LV.I) (g:=dM) (xs:=c8) (key:=x7.Kind) (z:=0) (o:=none) ix lM wQ R R R kU (G4 Rz (G4 FQ (G4 FT (G4 FV (G4 FX (G4 FY R))))))).ok) (sE R (sN (fL R R (sN (fL R R (sN (oA (v:=.nilf) R (cr R zQ))))))))))))))) (LH.aj R (bZ R zQ) (LH.cond (t:=false) R (fun vN=>?_) (fun vN=>?_)))
   ·cases vN
   refine LH.skip (ai (LH.aj R (aZ R (sN (iC R R zQ))) (LH.cond (t:=(2 != 0)) R (fun Cu=>?_) (fun Cu=>?_))))
   ·replace h:=aB h Cu
    obtain ⟨v41,Pm,h⟩:=ae h
    refine LH.bd R (lq R (sN (aC dE di dh R R R (sN (aC gO aD aW R R R (sN (bj R aD b5 (sN (aC dE di dh R R R (sN (aC gy aD aW R R R (sN (bj R aD b5 (sN (gJ (vs:=[(0,.I x7.ak.Source),(1,.I x7.ak.Seq)]) vf vj R (lf mG aW aD R R R (lf mH aW aD R R R gI)) (aZ R (sN (gJ (vs:=[(0,.agg [.I x7.ak.Source,.I x7.ak.Seq]),(1,.I 2)]) vh vm R (lf mI vd u6 R R R (lf mJ DO DM R R R gI)) (sN (jU (f:=fc.lv) (ys:=[(fc.mk (vF.mk x7.ak.Source x7.ak.Seq) 2)]) qw kR kT R R R fc.ok (sN (rT (f:=fc.lv) qw kR kT R R (cc R) R Pm (uT R zQ))))))))))))))))))))))) (aQ (ai (LH.bd R (sN (b8 R R (aZ R zQ))) ?_)))
    exact a7 ⟨(i64 (n3+1)),v41,l5,aI ▸ h,R,R⟩ (Wk.eq R R R R)
   replace h:=aA h Cu
   refine LH.skip (aQ (ai (LH.bd R (sN (b8 R R (aZ R zQ))) ?_)))
   exact a7 ⟨(i64 (n3+1)),l4,l5,aI ▸ h,R,R⟩ (Wk.eq R R R R)
  replace h:=aA h fY
  refine LH.exit (cg (bO (bK (ai (LH.wk ((Wk.trans (bM [(4,.ptr 104 0),(9,.ptr 811 0),(10,.arr 162 l4.length)] [(104,.box [.nil]),(162,.arr 143 3 (l4.map fc.lv)),(811,.box [.arr 812 l5.length]),(812,gE (l5.map ay.lv))]) (Wk.trans (Wk.pj (f:=fc.lv) (iP:=[(4,.ptr 104 0),(9,.ptr 811 0),(10,.lst 3 (l4.map fc.lv))]) 162 143 3 l4 R R (cc R) (fK R (fK R (fZ fN)))) (bM [(4,.ptr 104 0),(9,.ptr 811 0),(10,.lst 3 (l4.map fc.lv))] [(104,.box [.nil]),(811,.box [.arr 812 l5.length]),(812,gE (l5.map ay.lv))])))) (LH.ax [(4,.sptr [.lst 5 (l5.map ay.lv)]),(5,.lst 3 (l4.map fc.lv)),(6,.I 0)] [] R (cJ.wk (bM [(4,.ptr 104 0),(9,.ptr 811 0),(10,.lst 3 (l4.map fc.lv))] [(104,.box [.nil]),(811,.box [.arr 812 l5.length]),(812,gE (l5.map ay.lv))]) (cJ.wk (Wk.trans (Wk.trans (Wk.oj (f:=ay.lv) 812 179 5 [(1,108,5),(2,4,1),(3,182,3)] l5 R ay.ok) (bM [(4,.ptr 104 0),(9,.ptr 811 0),(10,.lst 3 (l4.map fc.lv))] [(104,.box [.nil]),(811,.box [.arr 812 l5.length]),(812,.arr 179 5 (l5.map ay.lv))])) (Wk.trans (Wk.ez (f:=ay.lv) 812 179 5 l5 811 R R R (gS gR) R R (cc R)) (bM [(4,.ptr 104 0),(9,.ptr 811 0),(10,.lst 3 (l4.map fc.lv))] [(104,.box [.nil]),(811,.box [.lst 5 (l5.map ay.lv)])]))) (sN (kp R R R cX eT cY R R (dY R (s_ (cM R R R cX cY R R R (sD R (br R (s0 ((Wk.trans (bM [(4,.ptr 104 0),(5,.lst 3 (l4.map fc.lv)),(6,.I 0)] [(104,.box [.lst 5 (l5.map ay.lv)])]) (Wk.trans (Wk.bD 104 [.lst 5 (l5.map ay.lv)] R R R (cc R)) (Wk.eq R R R R)))))))))))))) (LH.ret ?_)))))))
  obtain rfl:=oI h
  exact aJ (aT Tryz.results63) (dN R cX eT cY R R (bT R (bT R (bP ⟨aG mN,R,aN R,(Sub.tup (aw (aw (aw bl))))⟩))))
theorem Nk {F:Nat} {p0:ay} {r:Bool} (h:xg F p0=some r):aF Tryz.prog 140 [ay.lv p0] (Mem.of []) (.bool r) (Mem.of []):=by
  unfold xg at h
  refine bh Tryz.func140 R (nT Tryz.ntmps140 R) (LH.aj R (sB (dm R R R R (cr R zQ))) (LH.seq (LH.ax [(1,.sptr (ay.lv p0).cells),(31,.bool ((decide ((p0.ah.length:Int)<1)) || ((decide ((p0.ah.length:Int) > 8)) || (((p0.au.length:Int) != (p0.ah.length:Int)) || (decide ((p0.Uses.length:Int) > 300))))))] [] R ?_ ?_)))
  ·refine sN (aC fJ iM oi R R R (sN (bj R iM sJ (sN (bW (f:=ab.lv) eR R (sN (eG R R (bZ R ?_))))))))
   by_cases hb2:(decide ((p0.ah.length:Int)<1))=true
   ·exact sF R R hb2 (sF R R hb2 (sF R R hb2 (sF R R hb2 (sN (aY (cB hb2) (v:=(.bool _)) R (bZ R (sF R R R (sF R R R (sF R R R (sF R R R (sF R R R (sF R R R (sF R R R (sN (aY R (v:=(.bool _)) R (bZ R (sF R R R (sF R R R (sF R R R (sF R R R (sN (aY R (v:=(.bool _)) R (s0 (Wk.to (eC R (eC (cB (mq hb2)) eN)) mN R (aN R)))))))))))))))))))))))))
   ·replace hb2:=bF hb2
    refine sT R (cB hb2) (aC fJ iM oi R R R (sT R (cB hb2) (bj R iM sJ (sT R (cB hb2) (bW (f:=ab.lv) eR R (sT R (cB hb2) (jf R R (sN (bc (cB hb2) (v:=(.bool _)) R (bZ R ?_))))))))))
    by_cases hb3:(decide ((p0.ah.length:Int) > 8))=true
    ·exact sF R R hb3 (sF R R hb3 (sF R R hb3 (sF R R hb3 (sF R R hb3 (sF R R hb3 (sF R R hb3 (sN (aY (cB hb3) (v:=(.bool _)) R (bZ R (sF R R R (sF R R R (sF R R R (sF R R R (sN (aY R (v:=(.bool _)) R (s0 (Wk.to (eC R (eC (cB (Eq.trans (mq hb3) (gN hb2))) eN)) mN R (aN R))))))))))))))))))
    ·replace hb3:=bF hb3
     refine sT R (cB hb3) (aC iK gW lV R R R (sT R (cB hb3) (bj R gW si (sT R (cB hb3) (bW (f:=LV.bool) qt R (sT R (cB hb3) (aC fJ iM oi R R R (sT R (cB hb3) (bj R iM sJ (sT R (cB hb3) (bW (f:=ab.lv) eR R (sT R (cB hb3) (iC R R (sN (bc (cB hb3) (v:=(.bool _)) R (bZ R ?_))))))))))))))))
     by_cases bY:((p0.au.length:Int) != (p0.ah.length:Int))=true
     ·exact sF R R bY (sF R R bY (sF R R bY (sF R R bY (sN (aY (cB bY) (v:=(.bool _)) R (s0 (Wk.to (eC R (eC (cB (Eq.trans (Eq.trans (mq bY) (gN hb3)) (gN hb2))) eN)) mN R (aN R))))))))
     ·replace bY:=bF bY
      exact sT R (cB bY) (aC jq iw nr R R R (sT R (cB bY) (bj R iw sj (sT R (cB bY) (bW (f:=bI.lv) qu R (sT R (cB bY) (jf R R (sN (bc (cB bY) (v:=(.bool _)) R (s0 (Wk.to (eC R (eC (cB (Eq.trans (Eq.trans (gN bY) (gN hb3)) (gN hb2))) eN)) mN R (aN R))))))))))))
  refine LH.cond (t:=((decide ((p0.ah.length:Int)<1)) || ((decide ((p0.ah.length:Int) > 8)) || (((p0.au.length:Int) != (p0.ah.length:Int)) || (decide ((p0.Uses.length:Int) > 300)))))) R (fun gZ=>?_) (fun gZ=>?_)
  ·replace h:=aB h gZ
   refine LH.aj R (cr R zQ) (LH.ret (aO ?_))
   obtain rfl:=oI h
   exact aJ (aT Tryz.results140) (bT R (bP ⟨aG mN,R,aN R,Sub.rfl⟩))
  replace h:=aA h gZ
  refine LH.skip (ai (LH.seq (LH.ax [(1,.sptr (ay.lv p0).cells),(33,.lst 5 (p0.ah.map ab.lv)),(34,.I (p0.ah.length:Int)),(35,.I 0)] [] R (sN (aC fJ iM oi R R R (sN (bj R iM sJ (sN (bW (f:=ab.lv) eR R (aZ R zS))))))) (LH.block (LH.loop (fun n e m=>∃ (n6:Int),Gt F p0 n n6=some r∧e=Env.of [(1,.sptr (ay.lv p0).cells),(33,.lst 5 (p0.ah.map ab.lv)),(34,.I (p0.ah.length:Int)),(35,.I n6)]∧m=Mem.of []) F ⟨0,h,R,R⟩ ?_)))))
  clear h
  rintro n e m ⟨n6,h,rfl,rfl⟩
  rcases n with _ | n
  · cases (show Option.none=some _ from h)
  obtain ⟨aH,aI⟩:∃ f,f=Gt F p0 n:=⟨_,rfl⟩
  replace h:J8 F p0 aH n6=some r:=aI ▸ h
  unfold J8 at h
  refine LH.aj R (sN (eG R R zQ)) (LH.seq (LH.cond (t:=(decide (n6<(p0.ah.length:Int)))) R (fun ln=>?_) (fun ln=>?_)))
  ·replace h:=aB h ln
   refine LH.skip (ai (LH.seq (LH.block ?_)))
   obtain ⟨x8,G2,h⟩:=ae h
   refine LH.ax [(1,.sptr (ay.lv p0).cells),(3,.I n6),(4,.sptr (ab.lv x8).cells),(33,.lst 5 (p0.ah.map ab.lv)),(34,.I (p0.ah.length:Int)),(35,.I n6)] [] R (aZ R (sN (eF (f:=ab.lv) eR bA bn R R ab.ok G2 R (sN (bw R bA c7 bn R R (sN (hD (id:=104) R jO R R (br R (s_ (cM R R R bA bn R R R (s0 ((Wk.trans (bM [(1,.sptr (ay.lv p0).cells),(3,.I n6),(4,.ptr 104 0),(33,.lst 5 (p0.ah.map ab.lv)),(34,.I (p0.ah.length:Int)),(35,.I n6)] [(104,.box (ab.lv x8).cells)]) (Wk.trans (Wk.bD 104 (ab.lv x8).cells R R R (cc R)) (Wk.eq R R R R))))))))))))))) ?_
   obtain ⟨N1,hv,h⟩:=ae h
   refine LH.ax [(1,.sptr (ay.lv p0).cells),(33,.lst 5 (p0.ah.map ab.lv)),(34,.I (p0.ah.length:Int)),(35,.I n6),(56,.bool N1)] [] R ?_ ?_
   ·refine sN (bw R bA c7 bn R R ?_)
    obtain ⟨da,k6,hv⟩:=ae hv
    refine sN (dq (args:=[ab.lv x8]) R qj R (aw bl) (yF k6) R (sN (iC R R (bZ R ?_))))
    by_cases cR:(da != 0)=true
    ·replace hv:=aB hv cR
     refine sF R R cR (sF R R cR (sF R R cR (sF R R cR (sF R R cR (sN (aY (cB cR) (v:=(.bool _)) R (bZ R (sF R R R (sF R R R (sF R R R (sF R R R (sF R R R (sN (aY R (v:=(.bool _)) R ?_))))))))))))))
     obtain rfl:=oI hv
     exact zS
    ·replace cR:=bF cR
     replace hv:=aA hv cR
     refine sT R (cB cR) (aC dZ aD aW R R R (sT R (cB cR) (bj R aD b5 (sT R (cB cR) (aC mK aD aW R R R (sT R (cB cR) (bj R aD b5 (sT R (cB cR) (iC R R (sN (bc (cB cR) (v:=(.bool _)) R (bZ R ?_))))))))))))
     by_cases dz:(x8.ID != p0.ID)=true
     ·replace hv:=aB hv dz
      refine sF R R dz (sF R R dz (sF R R dz (sF R R dz (sF R R dz (sN (aY (cB dz) (v:=(.bool _)) R ?_))))))
      obtain rfl:=oI hv
      exact zS
     ·replace dz:=bF dz
      replace hv:=aA hv dz
      refine sT R (cB dz) (aC gh aD aW R R R (sT R (cB dz) (bj R aD b5 (sT R (cB dz) (oM (v:=(.int _ _)) R (sT R (cB dz) (b8 R R (sT R (cB dz) (iC R R (sN (bc (cB dz) (v:=(.bool _)) R ?_)))))))))))
      obtain rfl:=oI hv
      exact zS
   clear hv
   refine LH.cond (t:=N1) R (fun jy=>?_) (fun jy=>?_)
   ·replace h:=aB h jy
    refine LH.aj R (cr R zQ) (LH.ret (bH (aO (dg (bH (aO ?_))))))
    obtain rfl:=oI h
    exact aJ (aT Tryz.results140) (bT R (bP ⟨aG mN,R,aN R,Sub.rfl⟩))
   replace h:=aA h jy
   refine LH.skip (aQ (ai (LH.bd R (sN (b8 R R (aZ R zQ))) ?_)))
   exact a7 ⟨(i64 (n6+1)),aI ▸ h,R,R⟩ (Wk.eq R R R R)
  replace h:=aA h ln
  refine LH.exit (cg (bO (bK (ai (LH.seq (LH.ax [(1,.sptr (ay.lv p0).cells),(59,.lst 3 (p0.Uses.map bI.lv)),(60,.I (p0.Uses.length:Int)),(61,.I 0)] [] R (sN (aC jq iw nr R R R (sN (bj R iw sj (sN (bW (f:=bI.lv) qu R (aZ R zS))))))) (LH.block (LH.loop (fun n e m=>∃ (n15:Int),Da p0 n n15=some r∧e=Env.of [(1,.sptr (ay.lv p0).cells),(59,.lst 3 (p0.Uses.map bI.lv)),(60,.I (p0.Uses.length:Int)),(61,.I n15)]∧m=Mem.of []) F ⟨0,h,R,R⟩ ?_))))))))
  clear h
  rintro n e m ⟨n15,h,rfl,rfl⟩
  rcases n with _ | n
  · cases (show Option.none=some _ from h)
  obtain ⟨fH,eU⟩:∃ f,f=Da p0 n:=⟨_,rfl⟩
  replace h:J9 p0 fH n15=some r:=eU ▸ h
  unfold J9 at h
  refine LH.aj R (sN (eG R R zQ)) (LH.seq (LH.cond (t:=(decide (n15<(p0.Uses.length:Int)))) R (fun ke=>?_) (fun ke=>?_)))
  ·replace h:=aB h ke
   refine LH.skip (ai (LH.seq (LH.block ?_)))
   obtain ⟨gA,qh,h⟩:=ae h
   refine LH.ax [(1,.sptr (ay.lv p0).cells),(6,.sptr [.I gA.Version,.I gA.Form,.I gA.Time]),(59,.lst 3 (p0.Uses.map bI.lv)),(60,.I (p0.Uses.length:Int)),(61,.I n15)] [] R (sN (eF (f:=bI.lv) qu BL ve R R bI.ok qh R (sN (bw R BL NK ve R R (sN (hD (id:=106) R NW R R (s_ (cM R R R BL ve R R R (s0 ((Wk.trans (bM [(1,.sptr (ay.lv p0).cells),(6,.ptr 106 0),(59,.lst 3 (p0.Uses.map bI.lv)),(60,.I (p0.Uses.length:Int)),(61,.I n15)] [(106,.box [.I gA.Version,.I gA.Form,.I gA.Time])]) (Wk.trans (Wk.bD 106 [.I gA.Version,.I gA.Form,.I gA.Time] R R R (cc R)) (Wk.eq R R R R))))))))))))) (LH.ax [(1,.sptr (ay.lv p0).cells),(59,.lst 3 (p0.Uses.map bI.lv)),(60,.I (p0.Uses.length:Int)),(61,.I n15),(75,.bool ((decide (gA.Version<1)) || (decide (gA.Version > (p0.ah.length:Int)))))] [] R ?_ ?_)
   ·refine sN (aC yN aD aW R R R (sN (bj R aD b5 (sN (eG R R (bZ R ?_))))))
    by_cases dX:(decide (gA.Version<1))=true
    ·exact sF R R dX (sF R R dX (sF R R dX (sF R R dX (sF R R dX (sF R R dX (sN (aY (cB dX) (v:=(.bool _)) R (s0 (Wk.to (eC R (eC R (eC R (eC R (eC (cB (mq dX)) eN))))) mN R (aN R))))))))))
    ·replace dX:=bF dX
     exact sT R (cB dX) (aC yN aD aW R R R (sT R (cB dX) (bj R aD b5 (sT R (cB dX) (aC fJ iM oi R R R (sT R (cB dX) (bj R iM sJ (sT R (cB dX) (bW (f:=ab.lv) eR R (sT R (cB dX) (jf R R (sN (bc (cB dX) (v:=(.bool _)) R (s0 (Wk.to (eC R (eC R (eC R (eC R (eC (cB (gN dX)) eN))))) mN R (aN R))))))))))))))))
   refine LH.cond (t:=((decide (gA.Version<1)) || (decide (gA.Version > (p0.ah.length:Int))))) R (fun jz=>?_) (fun jz=>?_)
   ·replace h:=aB h jz
    refine LH.aj R (cr R zQ) (LH.ret (bH (aO (dg (bH (aO ?_))))))
    obtain rfl:=oI h
    exact aJ (aT Tryz.results140) (bT R (bP ⟨aG mN,R,aN R,Sub.rfl⟩))
   replace h:=aA h jz
   refine LH.skip (aQ (ai (LH.bd R (sN (b8 R R (aZ R zQ))) ?_)))
   exact a7 ⟨(i64 (n15+1)),eU ▸ h,R,R⟩ (Wk.eq R R R R)
  replace h:=aA h ke
  refine LH.exit (cg (bO (bK (ai (LH.aj R (cr R zQ) (LH.ret ?_))))))
  obtain rfl:=oI h
  exact aJ (aT Tryz.results140) (bT R (bP ⟨aG mN,R,aN R,Sub.rfl⟩))
theorem NA {F:Nat} {p0:bx} {r:Bool} (h:xB F p0=some r):aF Tryz.prog 74 [.agg [.lst 5 (p0.aa.map ay.lv)]] (Mem.of []) (.bool r) (Mem.of []):=by
  unfold xB at h
  refine bh Tryz.func74 R (nT Tryz.ntmps74 R) (LH.aj R (sB (dm R R R R (cr R zQ))) (LH.seq (LH.aj R (sN (aC jh jI qB R R R (sN (bj R jI u0 (sN (bW (f:=ay.lv) mz R (sN (jf R R zQ)))))))) (LH.cond (t:=(decide ((p0.aa.length:Int) > 40))) R (fun hc1=>?_) (fun hc1=>?_)))))
  ·replace h:=aB h hc1
   refine LH.aj R (cr R zQ) (LH.ret (aO ?_))
   obtain rfl:=oI h
   exact aJ (aT Tryz.results74) (bT R (bP ⟨aG mN,R,aN R,Sub.rfl⟩))
  replace h:=aA h hc1
  refine LH.skip (ai (LH.seq (LH.ax [(1,.sptr [.lst 5 (p0.aa.map ay.lv)]),(10,.lst 5 (p0.aa.map ay.lv)),(11,.I (p0.aa.length:Int)),(12,.I 0)] [] R (sN (aC jh jI qB R R R (sN (bj R jI u0 (sN (bW (f:=ay.lv) mz R (aZ R zS))))))) (LH.block (LH.loop (fun n e m=>∃ (n2:Int),xp F p0 n n2=some r∧e=Env.of [(1,.sptr [.lst 5 (p0.aa.map ay.lv)]),(10,.lst 5 (p0.aa.map ay.lv)),(11,.I (p0.aa.length:Int)),(12,.I n2)]∧m=Mem.of []) F ⟨0,h,R,R⟩ ?_)))))
  clear h
  rintro n e m ⟨n2,h,rfl,rfl⟩
  rcases n with _ | n
  · cases (show Option.none=some _ from h)
  obtain ⟨aH,aI⟩:∃ f,f=xp F p0 n:=⟨_,rfl⟩
  replace h:A4 F p0 aH n2=some r:=aI ▸ h
  unfold A4 at h
  refine LH.aj R (sN (eG R R zQ)) (LH.seq (LH.cond (t:=(decide (n2<(p0.aa.length:Int)))) R (fun fT=>?_) (fun fT=>?_)))
  ·replace h:=aB h fT
   refine LH.skip (ai (LH.seq (LH.block ?_)))
   obtain ⟨x4,zL,h⟩:=ae h
   refine LH.ax [(1,.sptr [.lst 5 (p0.aa.map ay.lv)]),(3,.I n2),(4,.sptr (ay.lv x4).cells),(10,.lst 5 (p0.aa.map ay.lv)),(11,.I (p0.aa.length:Int)),(12,.I n2)] [] R (aZ R (sN (eF (f:=ay.lv) mz fE fk R R ay.ok zL R (sN (bw R fE od fk R R (sN (hD (id:=104) R vn R R (br R (s_ (cM R R R fE fk R R R (s0 ((Wk.trans (bM [(1,.sptr [.lst 5 (p0.aa.map ay.lv)]),(3,.I n2),(4,.ptr 104 0),(10,.lst 5 (p0.aa.map ay.lv)),(11,.I (p0.aa.length:Int)),(12,.I n2)] [(104,.box (ay.lv x4).cells)]) (Wk.trans (Wk.bD 104 (ay.lv x4).cells R R R (cc R)) (Wk.eq R R R R))))))))))))))) ?_
   obtain ⟨w6,hv,h⟩:=ae h
   refine LH.du mixed [] [0,0,0,0,0,0,0,0,0,0,0,0,0,0,0,0,0,0,0] [(1,.sptr [.lst 5 (p0.aa.map ay.lv)]),(10,.lst 5 (p0.aa.map ay.lv)),(11,.I (p0.aa.length:Int)),(12,.I n2),(35,.bool w6)] [] R R (by kernel_rfl) ?_ ?_
   ·refine iT R (aX (jf R R ⟨R,zW R ?_⟩))
    by_cases cI:(decide (n2 > 0))=true
    ·replace hv:=aB hv cI
     refine mT R (cB cI) (aX (aC jh jI qB R R R ⟨R,mT R (cB cI) (aX (bj R jI u0 ⟨R,mT R (cB cI) (iT R (mT R (cB cI) (aX (kq R R ⟨R,?_⟩))))⟩))⟩))
     obtain ⟨x8,G2,hv⟩:=ae hv
     refine mT R (cB cI) (aX (eF (f:=ay.lv) mz fE fk R R ay.ok G2 R ⟨R,mT R (cB cI) (aX (aC mK aD aW R R R ⟨R,mT R (cB cI) (aX (bj R aD b5 ⟨R,mT R (cB cI) (aX (aC mK aD aW R R R ⟨R,mT R (cB cI) (aX (bj R aD b5 ⟨R,mT R (cB cI) (aX (oY R R ⟨R,aX (aY (cB cI) (v:=(.bool _)) R ⟨R,zW R ?_⟩)⟩))⟩))⟩))⟩))⟩))⟩))
     by_cases dy:(decide (x8.ID ≥ x4.ID))=true
     ·replace hv:=aB hv dy
      refine mF R R dy (mF R R dy (mF R R dy (aX (aY (cB dy) (v:=(.bool _)) R ⟨R,?_⟩))))
      obtain rfl:=oI hv
      exact zM
     ·replace dy:=bF dy
      replace hv:=aA hv dy
      refine mT R (cB dy) (aX (bw R fE od fk R R ⟨R,?_⟩))
      obtain ⟨ea,pz,hv⟩:=ae hv
      refine mT R (cB dy) (aX (dq (args:=[ay.lv x4]) R IH R (aw bl) (Nk pz) R ⟨R,mT R (cB dy) (aX (eM R ⟨R,aX (bc (cB dy) (v:=(.bool _)) R ⟨R,?_⟩)⟩))⟩))
      obtain rfl:=oI hv
      exact zM
    ·replace cI:=bF cI
     replace hv:=aA hv cI
     refine mF R R cI (mF R R cI (mF R R cI (mF R R cI (mF R R cI (mF R R cI (mF R R cI (mF R R cI (mF R R cI (mF R R cI (aX (bc (cB cI) (v:=(.bool _)) R ⟨R,zW R (mT R R (aX (bw R fE od fk R R ⟨R,?_⟩)))⟩)))))))))))
     obtain ⟨da,k6,hv⟩:=ae hv
     refine mT R R (aX (dq (args:=[ay.lv x4]) R IH R (aw bl) (Nk k6) R ⟨R,mT R R (aX (eM R ⟨R,aX (bc R (v:=(.bool _)) R ⟨R,?_⟩)⟩))⟩))
     obtain rfl:=oI hv
     exact zM
   clear hv
   refine LH.cond (t:=w6) R (fun gl=>?_) (fun gl=>?_)
   ·replace h:=aB h gl
    refine LH.aj R (cr R zQ) (LH.ret (bH (aO (dg (bH (aO ?_))))))
    obtain rfl:=oI h
    exact aJ (aT Tryz.results74) (bT R (bP ⟨aG mN,R,aN R,Sub.rfl⟩))
   replace h:=aA h gl
   refine LH.skip (aQ (ai (LH.bd R (sN (b8 R R (aZ R zQ))) ?_)))
   exact a7 ⟨(i64 (n2+1)),aI ▸ h,R,R⟩ (Wk.eq R R R R)
  replace h:=aA h fT
  refine LH.exit (cg (bO (bK (ai (LH.aj R (cr R zQ) (LH.ret ?_))))))
  obtain rfl:=oI h
  exact aJ (aT Tryz.results74) (bT R (bP ⟨aG mN,R,aN R,Sub.rfl⟩))
theorem UC {p0:bI} {c0:Int} {c1:Int} {r:Bool} (h:A2 p0 c0 c1=some r):aF Tryz.prog 78 [.agg [.I p0.Version,.I p0.Form,.I p0.Time],.sptr [.I c0],.sptr [.I c1]] (Mem.of []) (.bool r) (Mem.of []):=by
  unfold A2 at h
  refine bh Tryz.func78 R (nT Tryz.ntmps78 R) (LH.aj R (sB (dm R R R R (cr R zQ))) (LH.aj R (sN (aC E5 aD aW R R R (sN (bj R aD b5 (sN (bj R aD b5 (sN (bj R aD b5 (sN (kq R R (sN (jf R R (cr R zQ))))))))))))) (LH.ret ?_)))
  obtain rfl:=oI h
  exact aJ (aT Tryz.results78) (bT R (bP ⟨aG mN,R,aN R,Sub.rfl⟩))
theorem EJ {F:Nat} {p0:bx} {p1:Int} {p2:Int} {p3:Int} {r:List aS} (h:rW F p0 p1 p2 p3=some r):aF Tryz.prog 28 [.agg [.lst 5 (p0.aa.map ay.lv)],.I p1,.I p2,.I p3] (Mem.of []) (.lst 2 (r.map aS.lv)) (Mem.of []):=by
  unfold rW at h
  refine bh Tryz.func28 R (nT Tryz.ntmps28 R) (LH.aj R (sB (dm R R R R (sB (dm R R R R (sB (dm R R R R (pU R zQ))))))) (LH.seq ?_))
  obtain ⟨w2,hv,h⟩:=ae h
  refine LH.ax [(3,.I p3),(4,.sptr [.lst 5 (p0.aa.map ay.lv)]),(5,.sptr [.I p1]),(6,.sptr [.I p2]),(35,.bool w2)] [] R ?_ ?_
  ·refine sN (bw R cX eT cY R R ?_)
   obtain ⟨r3,hr3,hv⟩:=ae hv
   refine sN (dq (args:=[.agg [.lst 5 (p0.aa.map ay.lv)]]) R M0 R (aw bl) (NA hr3) R (sN (eM R (bZ R ?_))))
   by_cases bY:(!r3)=true
   ·replace hv:=aB hv bY
    refine sF R R bY (sF R R bY (sN (aY (cB bY) (v:=(.bool _)) R (bZ R (sF R R R (sF R R R (sN (aY R (v:=(.bool _)) R (bZ R (sF R R R (sF R R R (sN (aY R (v:=(.bool _)) R (bZ R (sF R R R (sF R R R (sN (aY R (v:=(.bool _)) R (bZ R (sF R R R (sF R R R (sN (aY R (v:=(.bool _)) R ?_)))))))))))))))))))))))
    obtain rfl:=oI hv
    exact zS
   ·replace bY:=bF bY
    replace hv:=aA hv bY
    refine sT R (cB bY) (bj R aD b5 (sT R (cB bY) (eG R R (sN (bc (cB bY) (v:=(.bool _)) R (bZ R ?_))))))
    by_cases eD:(decide (p1<0))=true
    ·replace hv:=aB hv eD
     refine sF R R eD (sF R R eD (sN (aY (cB eD) (v:=(.bool _)) R (bZ R (sF R R R (sF R R R (sN (aY R (v:=(.bool _)) R (bZ R (sF R R R (sF R R R (sN (aY R (v:=(.bool _)) R (bZ R (sF R R R (sF R R R (sN (aY R (v:=(.bool _)) R ?_))))))))))))))))))
     obtain rfl:=oI hv
     exact zS
    ·replace eD:=bF eD
     replace hv:=aA hv eD
     refine sT R (cB eD) (bj R aD b5 (sT R (cB eD) (jf R R (sN (bc (cB eD) (v:=(.bool _)) R (bZ R ?_))))))
     by_cases bV:(decide (p1 > 1000000))=true
     ·replace hv:=aB hv bV
      refine sF R R bV (sF R R bV (sN (aY (cB bV) (v:=(.bool _)) R (bZ R (sF R R R (sF R R R (sN (aY R (v:=(.bool _)) R (bZ R (sF R R R (sF R R R (sN (aY R (v:=(.bool _)) R ?_)))))))))))))
      obtain rfl:=oI hv
      exact zS
     ·replace bV:=bF bV
      replace hv:=aA hv bV
      refine sT R (cB bV) (bj R aD b5 (sT R (cB bV) (eG R R (sN (bc (cB bV) (v:=(.bool _)) R (bZ R ?_))))))
      by_cases cI:(decide (p2<0))=true
      ·replace hv:=aB hv cI
       refine sF R R cI (sF R R cI (sN (aY (cB cI) (v:=(.bool _)) R (bZ R (sF R R R (sF R R R (sN (aY R (v:=(.bool _)) R ?_))))))))
       obtain rfl:=oI hv
       exact zS
      ·replace cI:=bF cI
       replace hv:=aA hv cI
       refine sT R (cB cI) (bj R aD b5 (sT R (cB cI) (jf R R (sN (bc (cB cI) (v:=(.bool _)) R (bZ R ?_))))))
       by_cases cA:(decide (p2 > 1000000))=true
       ·replace hv:=aB hv cA
        refine sF R R cA (sF R R cA (sN (aY (cB cA) (v:=(.bool _)) R ?_)))
        obtain rfl:=oI hv
        exact zS
       ·replace cA:=bF cA
        replace hv:=aA hv cA
        refine sT R (cB cA) (oM (v:=(.int _ _)) R (sT R (cB cA) (eG R R (sN (bc (cB cA) (v:=(.bool _)) R ?_)))))
        obtain rfl:=oI hv
        exact zS
  clear hv
  refine LH.cond (t:=w2) R (fun ng=>?_) (fun ng=>?_)
  ·replace h:=aB h ng
   refine LH.aj R (pU R zQ) (LH.ret (aO ?_))
   obtain rfl:=oI h
   exact aJ (aT Tryz.results28) (bT R (bP ⟨aG mN,R,aN R,Sub.nil⟩))
  replace h:=aA h ng
  refine LH.skip (ai (LH.aj R (pU R zQ) (LH.seq (LH.aj R (sN (aC jh jI qB R R R (sN (bj R jI u0 (sN (bW (f:=ay.lv) mz R (aZ R zQ))))))) (LH.block (LH.wk ((Wk.trans (bM [(3,.I p3),(5,.sptr [.I p1]),(6,.sptr [.I p2]),(9,.nil),(37,.lst 5 (p0.aa.map ay.lv)),(38,.I (p0.aa.length:Int)),(39,.I 0)] []) (Wk.trans (bM [(3,.I p3),(5,.sptr [.I p1]),(6,.sptr [.I p2]),(9,.nil),(37,.lst 5 (p0.aa.map ay.lv)),(38,.I (p0.aa.length:Int)),(39,.I 0)] []) (Wk.trans (Wk.Ac (iP:=[(3,.I p3),(5,.sptr [.I p1]),(6,.sptr [.I p2]),(9,.arr 176 (List.length ([]:List aS))),(37,.lst 5 (p0.aa.map ay.lv)),(38,.I (p0.aa.length:Int)),(39,.I 0)]) 176 105 2 R R (wK (wK (wK (wO (wK (wK (wK wN)))))))) (bM [(3,.I p3),(5,.sptr [.I p1]),(6,.sptr [.I p2]),(9,.arr 176 (List.length ([]:List aS))),(37,.lst 5 (p0.aa.map ay.lv)),(38,.I (p0.aa.length:Int)),(39,.I 0)] [(176,.arr 105 2 (List.map aS.lv ([]:List aS)))]))))) (LH.loop (fun n e m=>∃ (n10:Int) (jk:List aS),Dn F p0 p1 p2 p3 n n10 jk=some r∧e=Env.of [(3,.I p3),(5,.sptr [.I p1]),(6,.sptr [.I p2]),(9,.arr 176 jk.length),(37,.lst 5 (p0.aa.map ay.lv)),(38,.I (p0.aa.length:Int)),(39,.I n10)]∧m=Mem.of [(176,.arr 105 2 (jk.map aS.lv))]) F ⟨0,([]:List aS),h,R,R⟩ ?_)))))))
  clear h
  rintro n e m ⟨n10,jk,h,rfl,rfl⟩
  rcases n with _ | n
  · cases (show Option.none=some _ from h)
  obtain ⟨aH,aI⟩:∃ f,f=Dn F p0 p1 p2 p3 n:=⟨_,rfl⟩
  replace h:AB F p0 p1 p2 p3 aH n10 jk=some r:=aI ▸ h
  unfold AB at h
  refine LH.aj R (sN (eG R R zQ)) (LH.seq (LH.cond (t:=(decide (n10<(p0.aa.length:Int)))) R (fun gl=>?_) (fun gl=>?_)))
  ·replace h:=aB h gl
   refine LH.skip (ai (LH.seq (LH.block ?_)))
   obtain ⟨gF,qg,h⟩:=ae h
   refine LH.ax [(3,.I p3),(5,.sptr [.I p1]),(6,.sptr [.I p2]),(9,.arr 176 jk.length),(11,.sptr (ay.lv gF).cells),(37,.lst 5 (p0.aa.map ay.lv)),(38,.I (p0.aa.length:Int)),(39,.I n10)] [(176,.arr 105 2 (jk.map aS.lv))] R (sN (eF (f:=ay.lv) mz fE fk R R ay.ok qg R (sN (bw R fE od fk R R (sN (hD (id:=111) R vn R R (s_ (cM R R R fE fk R R R (s0 ((Wk.trans (bM [(3,.I p3),(5,.sptr [.I p1]),(6,.sptr [.I p2]),(9,.arr 176 jk.length),(11,.ptr 111 0),(37,.lst 5 (p0.aa.map ay.lv)),(38,.I (p0.aa.length:Int)),(39,.I n10)] [(111,.box (ay.lv gF).cells),(176,.arr 105 2 (jk.map aS.lv))]) (Wk.trans (Wk.bD 111 (ay.lv gF).cells R R R (cc R)) (Wk.eq R R R R))))))))))))) (LH.seq (LH.ax [(3,.I p3),(5,.sptr [.I p1]),(6,.sptr [.I p2]),(9,.arr 176 jk.length),(11,.sptr (ay.lv gF).cells),(37,.lst 5 (p0.aa.map ay.lv)),(38,.I (p0.aa.length:Int)),(39,.I n10),(51,.bool (gF.ao || (decide ((gF.Uses.length:Int) > p3))))] [(176,.arr 105 2 (jk.map aS.lv))] R ?_ ?_))
   ·refine sN (aC oL nq sM R R R (sN (bj R nq B7 (bZ R ?_))))
    by_cases cd:gF.ao=true
    ·exact sF R R cd (sF R R cd (sF R R cd (sF R R cd (sF R R cd (sN (aY (cB cd) (v:=(.bool _)) R (s0 (Wk.to (eC R (eC R (eC R (eC R (eC R (eC R (eC R (eC R (eC (cB (mq cd)) eN))))))))) ⟨R,trivial⟩ R (aN R)))))))))
    ·replace cd:=bF cd
     exact sT R (cB cd) (aC jq iw nr R R R (sT R (cB cd) (bj R iw sj (sT R (cB cd) (bW (f:=bI.lv) qu R (sT R (cB cd) (oM (v:=(.int _ _)) R (sT R (cB cd) (jf R R (sN (bc (cB cd) (v:=(.bool _)) R (s0 (Wk.to (eC R (eC R (eC R (eC R (eC R (eC R (eC R (eC R (eC (cB (gN cd)) eN))))))))) ⟨R,trivial⟩ R (aN R))))))))))))))
   refine LH.cond (t:=(gF.ao || (decide ((gF.Uses.length:Int) > p3)))) R (fun ke=>?_) (fun ke=>?_)
   ·replace h:=aB h ke
    refine LH.exit (cg (bK (ai (LH.bd R (sN (b8 R R (aZ R zQ))) ?_))))
    exact a7 ⟨(i64 (n10+1)),jk,aI ▸ h,R,R⟩ (Wk.eq R R R R)
   replace h:=aA h ke
   refine LH.skip (ai (LH.seq ?_))
   obtain ⟨fp,CG,h⟩:=ae h
   refine LH.ax [(3,.I p3),(5,.sptr [.I p1]),(6,.sptr [.I p2]),(9,.arr 176 jk.length),(11,.sptr (ay.lv gF).cells),(37,.lst 5 (p0.aa.map ay.lv)),(38,.I (p0.aa.length:Int)),(39,.I n10),(55,.bool fp)] [(176,.arr 105 2 (jk.map aS.lv))] R (sN (aC jq iw nr R R R (sN (bj R iw sj (sN (z7 (vs:=[.sptr [.I p1],.sptr [.I p2]]) R (sN (dq (args:=[.lst 3 (gF.Uses.map bI.lv),.fn 78 [.sptr [.I p1],.sptr [.I p2]]]) R M1 R (aw (aw bl)) (M9 (cH:=78) (ca:=[.sptr [.I p1],.sptr [.I p2]]) TD R (fun _ _ h=>UC h) CG) R zS)))))))) (LH.cond (t:=fp) R (fun tR=>?_) (fun tR=>?_))
   ·replace h:=aB h tR
    refine LH.exit (cg (bK (ai (LH.bd R (sN (b8 R R (aZ R zQ))) ?_))))
    exact a7 ⟨(i64 (n10+1)),jk,aI ▸ h,R,R⟩ (Wk.eq R R R R)
   replace h:=aA h tR
   refine LH.skip (ai (LH.ax [(3,.I p3),(5,.sptr [.I p1]),(6,.sptr [.I p2]),(9,.arr 176 jk.length),(11,.sptr (ay.lv gF).cells),(12,.I (i64 ((gF.au.length:Int) - 1))),(37,.lst 5 (p0.aa.map ay.lv)),(38,.I (p0.aa.length:Int)),(39,.I n10)] [(176,.arr 105 2 (jk.map aS.lv))] R (sN (aC iK gW lV R R R (sN (bj R gW si (sN (bW (f:=LV.bool) qt R (sN (kq R R (br R zS))))))))) (LH.block (LH.loop (fun n e m=>∃ (n19:Int),Dp aH n10 jk gF n n19=some r∧e=Env.of [(3,.I p3),(5,.sptr [.I p1]),(6,.sptr [.I p2]),(9,.arr 176 jk.length),(11,.sptr (ay.lv gF).cells),(12,.I n19),(37,.lst 5 (p0.aa.map ay.lv)),(38,.I (p0.aa.length:Int)),(39,.I n10)]∧m=Mem.of [(176,.arr 105 2 (jk.map aS.lv))]) F ⟨(i64 ((gF.au.length:Int) - 1)),h,R,R⟩ ?_))))
   clear h
   rintro n e m ⟨n19,h,rfl,rfl⟩
   rcases n with _ | n
   · cases (show Option.none=some _ from h)
   obtain ⟨fH,eU⟩:∃ f,f=Dp aH n10 jk gF n:=⟨_,rfl⟩
   replace h:AD aH n10 jk gF fH n19=some r:=eU ▸ h
   unfold AD at h
   refine LH.seq (LH.aj R (aZ R (sN (oY R R zQ))) (LH.cond (t:=(decide (n19 ≥ 0))) R (fun jz=>?_) (fun jz=>?_)))
   ·replace h:=aB h jz
    refine LH.skip (ai (LH.seq (LH.block ?_)))
    obtain ⟨qO,Ps,h⟩:=ae h
    refine LH.aj R (sN (aC iK gW lV R R R (sN (bj R gW si (aZ R (sN (eF (f:=LV.bool) qt nq sM R R okB Ps R (sN (bj R nq B7 zQ))))))))) (LH.cond (t:=qO) R (fun mg=>?_) (fun mg=>?_))
    ·replace h:=aB h mg
     obtain ⟨v23,Iu,h⟩:=ae h
     refine LH.aj R (lq R (sN (aC mK aD aW R R R (sN (bj R aD b5 (aZ R (sN (b8 R R (sN (gJ (vs:=[(0,.I gF.ID),(1,.I (i64 (n19+1)))]) xP xQ R (lf jo aW aD R R R (lf fq aW aD R R R gI)) (sN (jU (f:=aS.lv) (ys:=[(aS.mk gF.ID (i64 (n19+1)))]) mA E6 dW R R R aS.ok (sN (rT (f:=aS.lv) mA E6 dW R R (cc R) R Iu (uT R zQ))))))))))))))) (LH.exit (Cg R (cg (bO (bK (aQ (ai (LH.bd R (sN (b8 R R (aZ R zQ))) ?_))))))))
     exact a7 ⟨(i64 (n10+1)),v23,aI ▸ h,R,R⟩ (Wk.eq R R R R)
    replace h:=aA h mg
    refine LH.skip (aQ (ai (LH.bd R (aZ R (sN (kq R R (br R zQ)))) ?_)))
    exact a7 ⟨(i64 (n19 - 1)),eU ▸ h,R,R⟩ (Wk.eq R R R R)
   replace h:=aA h jz
   refine LH.exit (cg (bO (bK (aQ (ai (LH.bd R (sN (b8 R R (aZ R zQ))) ?_))))))
   exact a7 ⟨(i64 (n10+1)),jk,aI ▸ h,R,R⟩ (Wk.eq R R R R)
  replace h:=aA h gl
  refine LH.exit (cg (bO (bK (ai (LH.wk ((Wk.trans (bM [(9,.arr 176 jk.length)] [(176,.arr 105 2 (jk.map aS.lv))]) (Wk.trans (Wk.pj (f:=aS.lv) (iP:=[(9,.lst 2 (jk.map aS.lv))]) 176 105 2 jk R R (cc R) (fZ fN)) (bM [(9,.lst 2 (jk.map aS.lv))] [])))) (LH.aj R (dY R (sD R zQ)) (LH.ret ?_)))))))
  obtain rfl:=oI h
  exact aJ (aT Tryz.results28) (bT R (bP ⟨aG mN,R,aN R,Sub.rfl⟩))
theorem Nt {F:Nat} {p0:bx} {p1:aS} {r:ab × Bool} (h:xt F p0 p1=some r):aF Tryz.prog 64 [.agg [.lst 5 (p0.aa.map ay.lv)],.agg [.I p1.ID,.I p1.Version]] (Mem.of []) (.tup [ab.lv r.1,.bool r.2]) (Mem.of []):=by
  unfold xt at h
  refine bh Tryz.func64 R (nT Tryz.ntmps64 R) (LH.aj R (sB (dm R R R R (sB (dm R R R R (sN (hD (id:=104) R jO R R (cr R zQ))))))) (LH.seq (LH.ax [(3,.sptr [.I p1.ID,.I p1.Version]),(4,.ptr 104 0),(9,.lst 5 (p0.aa.map ay.lv)),(10,.I (p0.aa.length:Int)),(11,.I 0)] [(104,.box gQ)] R (sN (aC jh jI qB R R R (sN (bj R jI u0 (sN (bW (f:=ay.lv) mz R (aZ R zS))))))) (LH.block (LH.loop (fun n e m=>∃ (n1:Int),xj p0 p1 n n1=some r∧e=Env.of [(3,.sptr [.I p1.ID,.I p1.Version]),(4,.ptr 104 0),(9,.lst 5 (p0.aa.map ay.lv)),(10,.I (p0.aa.length:Int)),(11,.I n1)]∧m=Mem.of [(104,.box gQ)]) F ⟨0,h,R,R⟩ ?_)))))
  clear h
  rintro n e m ⟨n1,h,rfl,rfl⟩
  rcases n with _ | n
  · cases (show Option.none=some _ from h)
  obtain ⟨aH,aI⟩:∃ f,f=xj p0 p1 n:=⟨_,rfl⟩
  replace h:AP p0 p1 aH n1=some r:=aI ▸ h
  unfold AP at h
  refine LH.aj R (sN (eG R R zQ)) (LH.seq (LH.cond (t:=(decide (n1<(p0.aa.length:Int)))) R (fun dI=>?_) (fun dI=>?_)))
  ·replace h:=aB h dI
   refine LH.skip (ai (LH.seq (LH.block ?_)))
   obtain ⟨x3,fj,h⟩:=ae h
   refine LH.ax [(3,.sptr [.I p1.ID,.I p1.Version]),(4,.ptr 104 0),(7,.sptr (ay.lv x3).cells),(9,.lst 5 (p0.aa.map ay.lv)),(10,.I (p0.aa.length:Int)),(11,.I n1)] [(104,.box gQ)] R (sN (eF (f:=ay.lv) mz fE fk R R ay.ok fj R (sN (bw R fE od fk R R (sN (hD (id:=107) R vn R R (s_ (cM R R R fE fk R R R (s0 ((Wk.trans (bM [(3,.sptr [.I p1.ID,.I p1.Version]),(4,.ptr 104 0),(7,.ptr 107 0),(9,.lst 5 (p0.aa.map ay.lv)),(10,.I (p0.aa.length:Int)),(11,.I n1)] [(104,.box gQ),(107,.box (ay.lv x3).cells)]) (Wk.trans (Wk.bD 107 (ay.lv x3).cells R R R (cc R)) (Wk.eq R R R R))))))))))))) (LH.seq (LH.aj R (sN (aC mK aD aW R R R (sN (bj R aD b5 (sN (aC jo aD aW R R R (sN (bj R aD b5 (sN (iC R R zQ)))))))))) (LH.cond (t:=(x3.ID != p1.ID)) R (fun jj=>?_) (fun jj=>?_))))
   ·replace h:=aB h jj
    refine LH.exit (cg (bK (ai (LH.bd R (sN (b8 R R (aZ R zQ))) ?_))))
    exact a7 ⟨(i64 (n1+1)),aI ▸ h,R,R⟩ (Wk.eq R R R R)
   replace h:=aA h jj
   refine LH.skip (ai (LH.seq (LH.ax [(3,.sptr [.I p1.ID,.I p1.Version]),(4,.ptr 104 0),(7,.sptr (ay.lv x3).cells),(30,.bool ((decide (p1.Version<1)) || (decide (p1.Version > (x3.ah.length:Int)))))] [(104,.box gQ)] R ?_ ?_)))
   ·refine sN (aC fq aD aW R R R (sN (bj R aD b5 (sN (eG R R (bZ R ?_))))))
    by_cases bV:(decide (p1.Version<1))=true
    ·exact sF R R bV (sF R R bV (sF R R bV (sF R R bV (sF R R bV (sF R R bV (sN (aY (cB bV) (v:=(.bool _)) R (s0 (Wk.to (eC R (eC R (eC R (eC (cB (mq bV)) eN)))) ⟨R,trivial⟩ R (aN R))))))))))
    ·replace bV:=bF bV
     exact sT R (cB bV) (aC fq aD aW R R R (sT R (cB bV) (bj R aD b5 (sT R (cB bV) (aC fJ iM oi R R R (sT R (cB bV) (bj R iM sJ (sT R (cB bV) (bW (f:=ab.lv) eR R (sT R (cB bV) (jf R R (sN (bc (cB bV) (v:=(.bool _)) R (s0 (Wk.to (eC R (eC R (eC R (eC (cB (gN bV)) eN)))) ⟨R,trivial⟩ R (aN R))))))))))))))))
   refine LH.cond (t:=((decide (p1.Version<1)) || (decide (p1.Version > (x3.ah.length:Int))))) R (fun ln=>?_) (fun ln=>?_)
   ·replace h:=aB h ln
    refine LH.exit (cg (Cg R (cg (bO (bK (ai (LH.ax [(4,.sptr [.I 0,.I 0,.str (ByteArray.mk #[]),.nil,.nil]),(5,.bool false)] [] R (sN (gJ (vs:=[]) E7 jO R gI (s_ (cM R R R bA bn R R R (cr R (s0 ((Wk.trans (bM [(4,.ptr 104 0),(5,.bool false)] [(104,.box gQ)]) (Wk.trans (Wk.bD 104 [.I 0,.I 0,.str (ByteArray.mk #[]),.nil,.nil] R R R (cc R)) (Wk.eq R R R R)))))))))) (LH.ret ?_))))))))
    obtain rfl:=oI h
    exact aJ (aT Tryz.results64) (dN R bA c7 bn R R (bT R (bP ⟨aG mN,R,aN R,(Sub.tup (sd (Sub.agg (aw (aw (aw (jC (jC bl)))))) (aw bl)))⟩)))
   replace h:=aA h ln
   refine LH.skip (ai ?_)
   obtain ⟨x8,G2,h⟩:=ae h
   obtain ⟨r9,CK,h⟩:=ae h
   refine LH.ax [(4,.sptr (ab.lv r9).cells),(5,.bool true)] [] R (sN (aC fJ iM oi R R R (sN (bj R iM sJ (sN (aC fq aD aW R R R (sN (bj R aD b5 (sN (kq R R (sN (eF (f:=ab.lv) eR bA bn R R ab.ok G2 R (sN (bw R bA c7 bn R R (sN (dq (args:=[ab.lv x8]) R ui R (aw bl) (AQ CK) R (s_ (cM R R R bA bn R R R (cr R (s0 ((Wk.trans (bM [(4,.ptr 104 0),(5,.bool true)] [(104,.box (ab.lv r9).cells)]) (Wk.trans (Wk.bD 104 (ab.lv r9).cells R R R (cc R)) (Wk.eq R R R R)))))))))))))))))))))))) (LH.ret (bH (aO (dg (bH (aO ?_))))))
   obtain rfl:=oI h
   exact aJ (aT Tryz.results64) (dN R bA c7 bn R R (bT R (bP ⟨aG mN,R,aN R,(Sub.tup (aw (aw bl)))⟩)))
  replace h:=aA h dI
  refine LH.exit (cg (bO (bK (ai (LH.ax [(4,.sptr [.I 0,.I 0,.str (ByteArray.mk #[]),.nil,.nil]),(5,.bool false)] [] R (sN (gJ (vs:=[]) E7 jO R gI (s_ (cM R R R bA bn R R R (cr R (s0 ((Wk.trans (bM [(4,.ptr 104 0),(5,.bool false)] [(104,.box gQ)]) (Wk.trans (Wk.bD 104 [.I 0,.I 0,.str (ByteArray.mk #[]),.nil,.nil] R R R (cc R)) (Wk.eq R R R R)))))))))) (LH.ret ?_))))))
  obtain rfl:=oI h
  exact aJ (aT Tryz.results64) (dN R bA c7 bn R R (bT R (bP ⟨aG mN,R,aN R,(Sub.tup (sd (Sub.agg (aw (aw (aw (jC (jC bl)))))) (aw bl)))⟩)))
theorem Um {F:Nat} {p0:List ba} {p1:Int} {p2:Int} {p3:Int} {r:bx × List ab × Bool} (h:AN F p0 p1 p2 p3=some r):aF Tryz.prog 22 [.lst 12 (p0.map ba.lv),.I p1,.I p2,.I p3] (Mem.of []) (.tup [.agg [.lst 5 (r.1.aa.map ay.lv)],.lst 5 (r.2.1.map ab.lv),.bool r.2.2]) (Mem.of []):=by
  unfold AN at h
  refine bh Tryz.func22 R (nT Tryz.ntmps22 R) (LH.aj R (sN (hD (id:=108) R jJ R R (pU R (cr R zQ)))) ?_)
  obtain ⟨r1,dR,h⟩:=ae h
  refine LH.ax [(1,.I p1),(2,.I p2),(3,.I p3),(8,.ptr 108 0),(11,.sptr [.lst 5 (r1.1.aa.map ay.lv)]),(13,.I r1.2.2)] [(108,.box [.nil])] R (dY R (sN (dq (args:=[.lst 12 (p0.map ba.lv),.I 1000000]) R MY R (aw (aw bl)) (NB dR) R (sE R (sN (fL R R (sN (fL R R (sN (fL R R (sN (hD (id:=111) R jJ R R (s_ (cM R R R cX cY R R R (sD R (br R (s0 ((Wk.trans (bM [(1,.I p1),(2,.I p2),(3,.I p3),(8,.ptr 108 0),(11,.ptr 111 0),(13,.I r1.2.2)] [(108,.box [.nil]),(111,.box [.lst 5 (r1.1.aa.map ay.lv)])]) (Wk.trans (Wk.bD 111 [.lst 5 (r1.1.aa.map ay.lv)] R R R (cc R)) (Wk.eq R R R R))))))))))))))))))))) ?_
  obtain ⟨r2,hr2,h⟩:=ae h
  refine LH.aj R (sN (bw R cX eT cY R R (aZ R (aZ R (aZ R (sN (dq (args:=[.agg [.lst 5 (r1.1.aa.map ay.lv)],.I p1,.I p2,.I p3]) R Ej R (aw (aw (aw (aw bl)))) (EJ hr2) R (sD R zQ)))))))) (LH.aj R (pU R zQ) (LH.seq (LH.aj R (br R zQ) (LH.block (LH.wk ((Wk.trans (bM [(8,.ptr 108 0),(11,.sptr [.lst 5 (r1.1.aa.map ay.lv)]),(13,.I r1.2.2),(14,.lst 2 (r2.map aS.lv)),(15,.nil),(16,.I 0)] [(108,.box [.nil])]) (Wk.trans (bM [(8,.ptr 108 0),(11,.sptr [.lst 5 (r1.1.aa.map ay.lv)]),(13,.I r1.2.2),(14,.lst 2 (r2.map aS.lv)),(15,.nil),(16,.I 0)] [(108,.box [.nil])]) (Wk.trans (Wk.Ac (iP:=[(8,.ptr 108 0),(11,.sptr [.lst 5 (r1.1.aa.map ay.lv)]),(13,.I r1.2.2),(14,.lst 2 (r2.map aS.lv)),(15,.arr 171 (List.length ([]:List ab))),(16,.I 0)]) 171 108 5 R R (wK (wK (wK (wK (wO (wK wN))))))) (bM [(8,.ptr 108 0),(11,.sptr [.lst 5 (r1.1.aa.map ay.lv)]),(13,.I r1.2.2),(14,.lst 2 (r2.map aS.lv)),(15,.arr 171 (List.length ([]:List ab))),(16,.I 0)] [(108,.box [.nil]),(171,.arr 108 5 (List.map ab.lv ([]:List ab)))]))))) (LH.loop (fun n e m=>∃ (n3:Int) (l4:List ab),A3 F r1 r2 n n3 l4=some r∧e=Env.of [(8,.ptr 108 0),(11,.sptr [.lst 5 (r1.1.aa.map ay.lv)]),(13,.I r1.2.2),(14,.lst 2 (r2.map aS.lv)),(15,.arr 171 l4.length),(16,.I n3)]∧m=Mem.of [(108,.box [.nil]),(171,.arr 108 5 (l4.map ab.lv))]) F ⟨0,([]:List ab),h,R,R⟩ ?_))))))
  clear h
  rintro n e m ⟨n3,l4,h,rfl,rfl⟩
  rcases n with _ | n
  · cases (show Option.none=some _ from h)
  obtain ⟨aH,aI⟩:∃ f,f=A3 F r1 r2 n:=⟨_,rfl⟩
  replace h:JZ F r1 r2 aH n3 l4=some r:=aI ▸ h
  unfold JZ at h
  refine LH.seq (LH.aj R (aZ R (dY R (sN (bW (f:=aS.lv) mA R (sN (eG R R zQ)))))) (LH.cond (t:=(decide (n3<(r2.length:Int)))) R (fun gZ=>?_) (fun gZ=>?_)))
  ·replace h:=aB h gZ
   refine LH.skip (ai (LH.seq (LH.block ?_)))
   obtain ⟨x6,wF,h⟩:=ae h
   obtain ⟨r7,CJ,h⟩:=ae h
   refine LH.du mixed [] [0,0,0,0,0,0,0,0,0,2,100117,0] [(8,.ptr 108 0),(11,.sptr [.lst 5 (r1.1.aa.map ay.lv)]),(13,.I r1.2.2),(14,.lst 2 (r2.map aS.lv)),(15,.arr 171 l4.length),(16,.I n3),(17,.sptr (ab.lv r7.1).cells),(18,.bool r7.2)] [(108,.box [.nil]),(171,.arr 108 5 (l4.map ab.lv))] R R (by kernel_rfl) (aX (bw R cX eT cY R R ⟨R,vX R (iT R (aX (eF (f:=aS.lv) mA eA dW R R aS.ok wF R ⟨R,aX (bw R eA o6 dW R R ⟨R,aX (dq (args:=[.agg [.lst 5 (r1.1.aa.map ay.lv)],.agg [.I x6.ID,.I x6.Version]]) R MZ R (aw (aw bl)) (Nt CJ) R ⟨R,KT R (aX (fL R R ⟨R,aX (fL R R ⟨R,yt (hD (id:=117) R jO R R (mS R R R (fun _ b _ d=>cM R R R bA bn b R R d) (LN R (m0 ((Wk.trans (bM [(8,.ptr 108 0),(11,.sptr [.lst 5 (r1.1.aa.map ay.lv)]),(13,.I r1.2.2),(14,.lst 2 (r2.map aS.lv)),(15,.arr 171 l4.length),(16,.I n3),(17,.ptr 117 0),(18,.bool r7.2)] [(108,.box [.nil]),(117,.box (ab.lv r7.1).cells),(171,.arr 108 5 (l4.map ab.lv))]) (Wk.trans (Wk.bD 117 (ab.lv r7.1).cells R R R (cc R)) (Wk.eq R R R R))))))))⟩)⟩))⟩)⟩)⟩)))⟩)) (LH.seq ?_)
   obtain ⟨w9,hv,h⟩:=ae h
   refine LH.du mixed [] [0,0,0,0,0,0,0,0,0,0,0,0,0,0,0,0,0,0,0,0,0,0] [(8,.ptr 108 0),(11,.sptr [.lst 5 (r1.1.aa.map ay.lv)]),(13,.I r1.2.2),(14,.lst 2 (r2.map aS.lv)),(15,.arr 171 l4.length),(16,.I n3),(17,.sptr (ab.lv r7.1).cells),(66,.bool w9)] [(108,.box [.nil]),(171,.arr 108 5 (l4.map ab.lv))] R R (by kernel_rfl) ?_ ?_
   ·refine zW R (aX (eM R ⟨R,zW R ?_⟩))
    by_cases dC:(!r7.2)=true
    ·replace hv:=aB hv dC
     refine mF R R dC (mF R R dC (mF R R dC (mF R R dC (mF R R dC (mF R R dC (mF R R dC (mF R R dC (aX (aY (cB dC) (v:=(.bool _)) R ⟨R,zW R (mF R R R (mF R R R (mF R R R (mF R R R (mF R R R (mF R R R (mF R R R (mF R R R (aX (aY R (v:=(.bool _)) R ⟨R,?_⟩))))))))))⟩)))))))))
     obtain rfl:=oI hv
     exact zM
    ·replace dC:=bF dC
     replace hv:=aA hv dC
     refine mT R (cB dC) (aX (aC dZ aD aW R R R ⟨R,mT R (cB dC) (aX (bj R aD b5 ⟨R,mT R (cB dC) (vX R (mT R (cB dC) (iT R ?_)))⟩))⟩))
     obtain ⟨lu,pA,hv⟩:=ae hv
     refine mT R (cB dC) (aX (eF (f:=aS.lv) mA eA dW R R aS.ok pA R ⟨R,mT R (cB dC) (aX (aC jo aD aW R R R ⟨R,mT R (cB dC) (aX (bj R aD b5 ⟨R,mT R (cB dC) (aX (iC R R ⟨R,aX (bc (cB dC) (v:=(.bool _)) R ⟨R,zW R ?_⟩)⟩))⟩))⟩))⟩))
     by_cases cR:(r7.1.ID != lu.ID)=true
     ·replace hv:=aB hv cR
      refine mF R R cR (mF R R cR (mF R R cR (mF R R cR (mF R R cR (mF R R cR (mF R R cR (mF R R cR (aX (aY (cB cR) (v:=(.bool _)) R ⟨R,?_⟩)))))))))
      obtain rfl:=oI hv
      exact zM
     ·replace cR:=bF cR
      replace hv:=aA hv cR
      refine mT R (cB cR) (aX (aC gh aD aW R R R ⟨R,mT R (cB cR) (aX (bj R aD b5 ⟨R,mT R (cB cR) (vX R (mT R (cB cR) (iT R ?_)))⟩))⟩))
      obtain ⟨gF,qg,hv⟩:=ae hv
      refine mT R (cB cR) (aX (eF (f:=aS.lv) mA eA dW R R aS.ok qg R ⟨R,mT R (cB cR) (aX (aC fq aD aW R R R ⟨R,mT R (cB cR) (aX (bj R aD b5 ⟨R,mT R (cB cR) (aX (iC R R ⟨R,aX (bc (cB cR) (v:=(.bool _)) R ⟨R,?_⟩)⟩))⟩))⟩))⟩))
      obtain rfl:=oI hv
      exact zM
   clear hv
   refine LH.cond (t:=w9) R (fun jy=>?_) (fun jy=>?_)
   ·replace h:=aB h jy
    refine LH.ax [(8,.sptr [.lst 5 (r1.1.aa.map ay.lv)]),(9,.nil),(10,.bool false)] [] R (sN (bw R cX eT cY R R (s_ (cM R R R cX cY R R R (pU R (cr R (s0 ((Wk.trans (bM [(8,.ptr 108 0),(9,.nil),(10,.bool false)] [(108,.box [.lst 5 (r1.1.aa.map ay.lv)])]) (Wk.trans (Wk.bD 108 [.lst 5 (r1.1.aa.map ay.lv)] R R R (cc R)) (Wk.eq R R R R))))))))))) (LH.ret (aO (bH (aO (dg (bH (aO ?_)))))))
    obtain rfl:=oI h
    exact aJ (aT Tryz.results22) (dN R cX eT cY R R (bT R (bT R (bP ⟨aG mN,R,aN R,(Sub.tup (aw (jC (aw bl))))⟩))))
   replace h:=aA h jy
   refine LH.skip (ai ?_)
   obtain ⟨YL,XD,h⟩:=ae h
   refine LH.bd R (lq R (sN (bw R bA c7 bn R R (sN (jU (f:=ab.lv) (ys:=[r7.1]) eR u9 bn R R R ab.ok (sN (rT (f:=ab.lv) eR u9 bn R R (cc R) R XD (uT R zQ)))))))) (aQ (ai (LH.bd R (aZ R (sN (b8 R R (br R zQ)))) ?_)))
   exact a7 ⟨(i64 (n3+1)),YL,aI ▸ h,R,R⟩ (Wk.eq R R R R)
  replace h:=aA h gZ
  refine LH.exit (cg (bO (bK (ai (LH.wk ((Wk.trans (bM [(8,.ptr 108 0),(11,.sptr [.lst 5 (r1.1.aa.map ay.lv)]),(13,.I r1.2.2),(15,.arr 171 l4.length)] [(108,.box [.nil]),(171,.arr 108 5 (l4.map ab.lv))]) (Wk.trans (Wk.pj (f:=ab.lv) (iP:=[(8,.ptr 108 0),(11,.sptr [.lst 5 (r1.1.aa.map ay.lv)]),(13,.I r1.2.2),(15,.lst 5 (l4.map ab.lv))]) 171 108 5 l4 R R (cc R) (fK R (fK R (fK R (fZ fN))))) (bM [(8,.ptr 108 0),(11,.sptr [.lst 5 (r1.1.aa.map ay.lv)]),(13,.I r1.2.2),(15,.lst 5 (l4.map ab.lv))] [(108,.box [.nil])])))) (LH.ax [(8,.sptr [.lst 5 (r1.1.aa.map ay.lv)]),(9,.lst 5 (l4.map ab.lv)),(10,.bool (r1.2.2 == 0))] [] R (sN (bw R cX eT cY R R (dY R (aZ R (sN (iX R R (s_ (cM R R R cX cY R R R (sD R (cr R (s0 ((Wk.trans (bM [(8,.ptr 108 0),(9,.lst 5 (l4.map ab.lv)),(10,.bool (r1.2.2 == 0))] [(108,.box [.lst 5 (r1.1.aa.map ay.lv)])]) (Wk.trans (Wk.bD 108 [.lst 5 (r1.1.aa.map ay.lv)] R R R (cc R)) (Wk.eq R R R R))))))))))))))) (LH.ret ?_)))))))
  obtain rfl:=oI h
  exact aJ (aT Tryz.results22) (dN R cX eT cY R R (bT R (bT R (bP ⟨aG mN,R,aN R,(Sub.tup (aw (aw (aw bl))))⟩))))
theorem Gq {p0:Int} {r:Bool} (h:yD p0=some r):aF Tryz.prog 180 [.I p0] (Mem.of []) (.bool r) (Mem.of []):=by
  unfold yD at h
  refine bh Tryz.func180 R (nT Tryz.ntmps180 R) (LH.aj R (cr R zQ) (LH.ax [(2,.bool ((decide (p0 ≥ 0)) && (decide (p0≤200))))] [] R ?_ ?_))
  ·refine aZ R (sN (oY R R (bZ R ?_)))
   by_cases hb2:(decide (p0 ≥ 0))=true
   ·exact sT R (cB hb2) (oM (v:=(.int _ _)) R (sT R (cB hb2) (KV R R (sN (aY (cB hb2) (v:=(.bool _)) R (cr R (s0 (Wk.to (eC (cB (eV hb2)) eN) mN R (aN R)))))))))
   ·replace hb2:=bF hb2
    exact sF R R hb2 (sF R R hb2 (sN (bc (cB hb2) (v:=(.bool _)) R (cr R (s0 (Wk.to (eC (cB (lB hb2)) eN) mN R (aN R)))))))
  refine LH.ret ?_
  obtain rfl:=oI h
  exact aJ (aT Tryz.results180) (bT R (bP ⟨aG mN,R,aN R,Sub.rfl⟩))
theorem T7 {p0:cK} {c0:cK} {r:Bool} (h:Jx p0 c0=some r):aF Tryz.prog 213 [.agg [.I p0.Index,.I p0.bQ,.I p0.cO],.sptr [.I c0.Index,.I c0.bQ,.I c0.cO]] (Mem.of []) (.bool r) (Mem.of []):=by
  unfold Jx at h
  refine bh Tryz.func213 R (nT Tryz.ntmps213 R) (LH.aj R (sB (dm R R R R (cr R zQ))) (LH.aj R (sN (aC oN aD aW R R R (sN (bj R aD b5 (sN (aC oN aD aW R R R (sN (bj R aD b5 (sN (iX R R (cr R zQ))))))))))) (LH.ret ?_)))
  obtain rfl:=oI h
  exact aJ (aT Tryz.results213) (bT R (bP ⟨aG mN,R,aN R,Sub.rfl⟩))
theorem T4 {F:Nat} {p0:List cK} {p1:(cK→Option Bool)} {r:Int} {cH:Nat} {ca:List LV} (rk:dn Tryz.prog cH) (jA:LV.bt ca=true) (rl:∀ (x0:cK) (q:Bool),p1 x0=some q→aF Tryz.prog cH ([.agg [.I x0.Index,.I x0.bQ,.I x0.cO]]++ca) (Mem.of []) (.bool q) (Mem.of [])) (h:Jw F p0 p1=some r):aF Tryz.prog 226 [.lst 3 (p0.map cK.lv),.fn cH ca] (Mem.of []) (.I r) (Mem.of []):=by
  have vY:∀ {l:List LV},LV.bt l=true→LV.bt (l++ca)=true:=Ju jA
  have cZ:LV.a8 ca=[]:=et jA
  unfold Jw at h
  refine bh Tryz.func226 R (nT Tryz.ntmps226 R) (LH.wk (Wk.to (el:=[(0,.lst 3 (p0.map cK.lv)),(1,.fn cH ca)]) (ml:=[]) (eQ ⟨R,R,trivial⟩) mN (by simp [av,LV.refs,LV.a8,LV.cells,cP,Env.args,Env.of,Env.put,Env.drop,cZ]) (aN R)) (LH.ax [(0,.lst 3 (p0.map cK.lv)),(1,.fn cH ca)] [] R (br R (s0 (Wk.to (eQ ⟨R,R,trivial⟩) mN (by simp [av,LV.refs,LV.a8,LV.cells,cP,Env.args,Env.of,Env.put,Env.drop,cZ]) (aN R)))) (LH.seq (LH.ax [(0,.lst 3 (p0.map cK.lv)),(1,.fn cH ca),(7,.I (p0.length:Int)),(8,.I 0)] [] R (dY R (sN (bW (f:=cK.lv) u3 R (aZ R (s0 (Wk.to (eQ ⟨R,R,R,R,trivial⟩) mN (by simp [av,LV.refs,LV.a8,LV.cells,cP,Env.args,Env.of,Env.put,Env.drop,cZ]) (aN R))))))) (LH.block (LH.loop (fun n e m=>∃ (n1:Int),L3 p0 p1 n n1=some r∧e=Env.of [(0,.lst 3 (p0.map cK.lv)),(1,.fn cH ca),(7,.I (p0.length:Int)),(8,.I n1)]∧m=Mem.of []) F ⟨0,h,R,R⟩ ?_))))))
  clear h
  rintro n e m ⟨n1,h,rfl,rfl⟩
  rcases n with _ | n
  · cases (show Option.none=some _ from h)
  obtain ⟨aH,aI⟩:∃ f,f=L3 p0 p1 n:=⟨_,rfl⟩
  replace h:QT p0 p1 aH n1=some r:=aI ▸ h
  unfold QT at h
  refine LH.ax [(0,.lst 3 (p0.map cK.lv)),(1,.fn cH ca),(7,.I (p0.length:Int)),(8,.I n1),(9,.bool (decide (n1<(p0.length:Int))))] [] R (sN (eG R R (s0 (Wk.to (eQ ⟨R,R,R,R,R,trivial⟩) mN (by simp [av,LV.refs,LV.a8,LV.cells,cP,Env.args,Env.of,Env.put,Env.drop,cZ]) (aN R))))) (LH.seq (LH.cond (t:=(decide (n1<(p0.length:Int)))) R (fun dI=>?_) (fun dI=>?_)))
  ·replace h:=aB h dI
   refine LH.skip (ai (LH.wk (Wk.to (el:=[(0,.lst 3 (p0.map cK.lv)),(1,.fn cH ca),(7,.I (p0.length:Int)),(8,.I n1)]) (ml:=[]) (eQ ⟨R,R,R,R,trivial⟩) mN (by simp [av,LV.refs,LV.a8,LV.cells,cP,Env.args,Env.of,Env.put,Env.drop,cZ]) (aN R)) (LH.seq (LH.block (LH.ax [(0,.lst 3 (p0.map cK.lv)),(1,.fn cH ca),(5,.I n1),(7,.I (p0.length:Int)),(8,.I n1)] [] R (aZ R (br R (s0 (Wk.to (eQ ⟨R,R,R,R,R,trivial⟩) mN (by simp [av,LV.refs,LV.a8,LV.cells,cP,Env.args,Env.of,Env.put,Env.drop,cZ]) (aN R))))) ?_)))))
   obtain ⟨x3,fj,h⟩:=ae h
   obtain ⟨r4,F1,h⟩:=ae h
   refine LH.ax [(0,.lst 3 (p0.map cK.lv)),(1,.fn cH ca),(5,.I n1),(7,.I (p0.length:Int)),(8,.I n1),(16,.bool r4)] [] R ?_ ?_
   ·refine sN (oM (v:=(.fn _ _)) R (dY R (aZ R (sN (eF (f:=cK.lv) u3 np nt R R cK.ok fj R (sN (bw R np E1 nt R R (sN (dq (args:=[.agg [.I x3.Index,.I x3.bQ,.I x3.cO]]++ca) (eH:=[.agg [.I x3.Index,.I x3.bQ,.I x3.cO]]++ca) R rk R fl.rfl (rl _ _ F1) (vY R) ?_)))))))))
    exact s0 (Wk.to (eQ ⟨R,R,R,R,R,R,trivial⟩) mN (by simp [av,LV.refs,LV.a8,LV.cells,cP,Env.args,Env.of,Env.put,Env.drop,cZ]) (aN R))
   refine LH.cond (t:=r4) R (fun gZ=>?_) (fun gZ=>?_)
   ·replace h:=aB h gZ
    refine LH.ax [(4,.I n1)] [] R (aZ R (br R (s0 (Wk.to (eQ ⟨R,trivial⟩) mN (by simp [av,LV.refs,LV.a8,LV.cells,cP,Env.args,Env.of,Env.put,Env.drop,cZ]) (aN R))))) (LH.ret (bH (aO (dg (bH (aO ?_))))))
    obtain rfl:=oI h
    exact aJ (aT Tryz.results226) (bT R (bP ⟨aG mN,R,aN R,Sub.rfl⟩))
   replace h:=aA h gZ
   refine LH.skip (aQ (ai (LH.df [(0,.lst 3 (p0.map cK.lv)),(1,.fn cH ca),(7,.I (p0.length:Int)),(8,.I (i64 (n1+1)))] [] R (sN (b8 R R (aZ R (s0 (Wk.to (eQ ⟨R,R,R,R,trivial⟩) mN (by simp [av,LV.refs,LV.a8,LV.cells,cP,Env.args,Env.of,Env.put,Env.drop,cZ]) (aN R)))))) ?_)))
   exact a7 ⟨(i64 (n1+1)),aI ▸ h,R,R⟩ (Wk.to (eQ ⟨R,R,R,R,trivial⟩) mN (by simp [av,LV.refs,LV.a8,LV.cells,cP,Env.args,Env.of,Env.put,Env.drop,cZ]) (aN R))
  replace h:=aA h dI
  refine LH.exit (cg (bO (bK (ai (LH.ax [(4,.I (-1))] [] R (br R (s0 (Wk.to (eQ ⟨R,trivial⟩) mN (by simp [av,LV.refs,LV.a8,LV.cells,cP,Env.args,Env.of,Env.put,Env.drop,cZ]) (aN R)))) (LH.ret ?_))))))
  obtain rfl:=oI h
  exact aJ (aT Tryz.results226) (bT R (bP ⟨aG mN,R,aN R,Sub.rfl⟩))
theorem T3 {F:Nat} {p0:List cK} {p1:(cK→Option Bool)} {r:Bool} {cH:Nat} {ca:List LV} (rk:dn Tryz.prog cH) (jA:LV.bt ca=true) (rl:∀ (x0:cK) (q:Bool),p1 x0=some q→aF Tryz.prog cH ([.agg [.I x0.Index,.I x0.bQ,.I x0.cO]]++ca) (Mem.of []) (.bool q) (Mem.of [])) (h:Jv F p0 p1=some r):aF Tryz.prog 212 [.lst 3 (p0.map cK.lv),.fn cH ca] (Mem.of []) (.bool r) (Mem.of []):=by
  have vY:∀ {l:List LV},LV.bt l=true→LV.bt (l++ca)=true:=Ju jA
  have cZ:LV.a8 ca=[]:=et jA
  unfold Jv at h
  refine bh Tryz.func212 R (nT Tryz.ntmps212 R) (LH.wk (Wk.to (el:=[(0,.lst 3 (p0.map cK.lv)),(1,.fn cH ca)]) (ml:=[]) (eQ ⟨R,R,trivial⟩) mN (by simp [av,LV.refs,LV.a8,LV.cells,cP,Env.args,Env.of,Env.put,Env.drop,cZ]) (aN R)) (LH.ax [(0,.lst 3 (p0.map cK.lv)),(1,.fn cH ca)] [] R (cr R (s0 (Wk.to (eQ ⟨R,R,trivial⟩) mN (by simp [av,LV.refs,LV.a8,LV.cells,cP,Env.args,Env.of,Env.put,Env.drop,cZ]) (aN R)))) ?_))
  obtain ⟨r1,dR,h⟩:=ae h
  refine LH.ax [(4,.bool (decide (r1 ≥ 0)))] [] R (dY R (sN (oM (v:=(.fn _ _)) R (sN (dq (args:=[.lst 3 (p0.map cK.lv),.fn cH ca]) R Qm R (aw (aw bl)) (T4 rk jA rl dR) (by simp [LV.pure,LV.bt,jA]) (sN (oY R R (cr R (s0 (Wk.to (eQ ⟨R,trivial⟩) mN (by simp [av,LV.refs,LV.a8,LV.cells,cP,Env.args,Env.of,Env.put,Env.drop,cZ]) (aN R))))))))))) (LH.ret ?_)
  obtain rfl:=oI h
  exact aJ (aT Tryz.results212) (bT R (bP ⟨aG mN,R,aN R,Sub.rfl⟩))
theorem Nb {F:Nat} {p0:List cK} {p1:Int} {r:Int} (h:Ag F p0 p1=some r):aF Tryz.prog 181 [.lst 3 (p0.map cK.lv),.I p1] (Mem.of []) (.I r) (Mem.of []):=by
  unfold Ag at h
  refine bh Tryz.func181 R (nT Tryz.ntmps181 R) (LH.aj R (br R zQ) (LH.seq (LH.ax [(0,.lst 3 (p0.map cK.lv)),(1,.I p1),(7,.lst 3 (p0.map cK.lv)),(8,.I (p0.length:Int)),(9,.I 0)] [] R (dY R (sN (bW (f:=cK.lv) u3 R (aZ R zS)))) (LH.block (LH.loop (fun n e m=>∃ (n1:Int),JV F p0 p1 n n1=some r∧e=Env.of [(0,.lst 3 (p0.map cK.lv)),(1,.I p1),(7,.lst 3 (p0.map cK.lv)),(8,.I (p0.length:Int)),(9,.I n1)]∧m=Mem.of []) F ⟨0,h,R,R⟩ ?_)))))
  clear h
  rintro n e m ⟨n1,h,rfl,rfl⟩
  rcases n with _ | n
  · cases (show Option.none=some _ from h)
  obtain ⟨aH,aI⟩:∃ f,f=JV F p0 p1 n:=⟨_,rfl⟩
  replace h:L5 F p0 p1 aH n1=some r:=aI ▸ h
  unfold L5 at h
  refine LH.aj R (sN (eG R R zQ)) (LH.seq (LH.cond (t:=(decide (n1<(p0.length:Int)))) R (fun dI=>?_) (fun dI=>?_)))
  ·replace h:=aB h dI
   refine LH.skip (ai (LH.seq (LH.block ?_)))
   obtain ⟨x3,fj,h⟩:=ae h
   refine LH.ax [(0,.lst 3 (p0.map cK.lv)),(1,.I p1),(5,.I n1),(6,.sptr [.I x3.Index,.I x3.bQ,.I x3.cO]),(7,.lst 3 (p0.map cK.lv)),(8,.I (p0.length:Int)),(9,.I n1)] [] R (aZ R (sN (eF (f:=cK.lv) u3 np nt R R cK.ok fj R (sN (bw R np E1 nt R R (sN (hD (id:=106) R KA R R (br R (s_ (cM R R R np nt R R R (s0 ((Wk.trans (bM [(0,.lst 3 (p0.map cK.lv)),(1,.I p1),(5,.I n1),(6,.ptr 106 0),(7,.lst 3 (p0.map cK.lv)),(8,.I (p0.length:Int)),(9,.I n1)] [(106,.box [.I x3.Index,.I x3.bQ,.I x3.cO])]) (Wk.trans (Wk.bD 106 [.I x3.Index,.I x3.bQ,.I x3.cO] R R R (cc R)) (Wk.eq R R R R))))))))))))))) (LH.seq ?_)
   obtain ⟨w5,hv,h⟩:=ae h
   refine LH.ax [(0,.lst 3 (p0.map cK.lv)),(1,.I p1),(5,.I n1),(6,.sptr [.I x3.Index,.I x3.bQ,.I x3.cO]),(7,.lst 3 (p0.map cK.lv)),(8,.I (p0.length:Int)),(9,.I n1),(34,.bool w5)] [] R ?_ ?_
   ·refine sN (aC oN aD aW R R R (sN (bj R aD b5 (sN (eG R R (bZ R ?_))))))
    by_cases bV:(decide (x3.Index<0))=true
    ·replace hv:=aB hv bV
     refine sF R R bV (sF R R bV (sF R R bV (sF R R bV (sN (aY (cB bV) (v:=(.bool _)) R (bZ R (sF R R R (sF R R R (sF R R R (sF R R R (sN (aY R (v:=(.bool _)) R (bZ R (sF R R R (sF R R R (sF R R R (sF R R R (sN (aY R (v:=(.bool _)) R ?_)))))))))))))))))))
     obtain rfl:=oI hv
     exact zS
    ·replace bV:=bF bV
     replace hv:=aA hv bV
     refine sT R (cB bV) (aC oN aD aW R R R (sT R (cB bV) (bj R aD b5 (sT R (cB bV) (oM (v:=(.int _ _)) R (sT R (cB bV) (oY R R (sN (bc (cB bV) (v:=(.bool _)) R (bZ R ?_))))))))))
     by_cases cI:(decide (x3.Index ≥ p1))=true
     ·replace hv:=aB hv cI
      refine sF R R cI (sF R R cI (sF R R cI (sF R R cI (sN (aY (cB cI) (v:=(.bool _)) R (bZ R (sF R R R (sF R R R (sF R R R (sF R R R (sN (aY R (v:=(.bool _)) R ?_))))))))))))
      obtain rfl:=oI hv
      exact zS
     ·replace cI:=bF cI
      replace hv:=aA hv cI
      refine sT R (cB cI) (aC yO aD aW R R R (sT R (cB cI) (bj R aD b5 ?_)))
      obtain ⟨r8,O8,hv⟩:=ae hv
      refine sT R (cB cI) (dq (args:=[.I x3.bQ]) R ri R (aw bl) (Gq O8) R (sT R (cB cI) (eM R (sN (bc (cB cI) (v:=(.bool _)) R (bZ R ?_))))))
      by_cases dy:(!r8)=true
      ·replace hv:=aB hv dy
       refine sF R R dy (sF R R dy (sF R R dy (sF R R dy (sN (aY (cB dy) (v:=(.bool _)) R ?_)))))
       obtain rfl:=oI hv
       exact zS
      ·replace dy:=bF dy
       replace hv:=aA hv dy
       refine sT R (cB dy) (aC yP aD aW R R R (sT R (cB dy) (bj R aD b5 ?_)))
       obtain ⟨ea,pz,hv⟩:=ae hv
       refine sT R (cB dy) (dq (args:=[.I x3.cO]) R ri R (aw bl) (Gq pz) R (sT R (cB dy) (eM R (sN (bc (cB dy) (v:=(.bool _)) R ?_)))))
       obtain rfl:=oI hv
       exact zS
   clear hv
   refine LH.cond (t:=w5) R (fun mf=>?_) (fun mf=>?_)
   ·replace h:=aB h mf
    refine LH.aj R (br R zQ) (LH.ret (aO (bH (aO (dg (bH (aO ?_)))))))
    obtain rfl:=oI h
    exact aJ (aT Tryz.results181) (bT R (bP ⟨aG mN,R,aN R,Sub.rfl⟩))
   replace h:=aA h mf
   refine LH.skip (ai ?_)
   obtain ⟨v12,Pg,h⟩:=ae h
   obtain ⟨ew,CF,h⟩:=ae h
   refine LH.ax [(0,.lst 3 (p0.map cK.lv)),(1,.I p1),(7,.lst 3 (p0.map cK.lv)),(8,.I (p0.length:Int)),(9,.I n1),(39,.bool ew)] [] R (dY R (aZ R (sN (ZL (f:=cK.lv) u3 np nt R R R Pg (sN (z7 (vs:=[.sptr [.I x3.Index,.I x3.bQ,.I x3.cO]]) R (sN (dq (args:=[.lst 3 (v12.map cK.lv),.fn 213 [.sptr [.I x3.Index,.I x3.bQ,.I x3.cO]]]) R Qe R (aw (aw bl)) (T3 (cH:=213) (ca:=[.sptr [.I x3.Index,.I x3.bQ,.I x3.cO]]) Qf R (fun _ _ h=>T7 h) CF) R zS)))))))) (LH.cond (t:=ew) R (fun jy=>?_) (fun jy=>?_))
   ·replace h:=aB h jy
    refine LH.aj R (br R zQ) (LH.ret (bH (aO (dg (bH (aO ?_))))))
    obtain rfl:=oI h
    exact aJ (aT Tryz.results181) (bT R (bP ⟨aG mN,R,aN R,Sub.rfl⟩))
   replace h:=aA h jy
   refine LH.skip (aQ (ai (LH.bd R (sN (b8 R R (aZ R zQ))) ?_)))
   exact a7 ⟨(i64 (n1+1)),aI ▸ h,R,R⟩ (Wk.eq R R R R)
  replace h:=aA h dI
  refine LH.exit (cg (bO (bK (ai (LH.aj R (br R zQ) (LH.ret ?_))))))
  obtain rfl:=oI h
  exact aJ (aT Tryz.results181) (bT R (bP ⟨aG mN,R,aN R,Sub.rfl⟩))
theorem UD {F:Nat} {p0:qR} {r:Int} (h:A5 F p0=some r):aF Tryz.prog 114 [.agg [.I p0.bf,.I p0.bB,.I p0.bg,.I p0.bC,.lst 3 (p0.b6.map cK.lv),.lst 3 (p0.aP.map cK.lv),.L p0.bb,.lst 2 (p0.bm.map bG.lv),.I p0.aV]] (Mem.of []) (.I r) (Mem.of []):=by
  unfold A5 at h
  refine bh Tryz.func114 R (nT Tryz.ntmps114 R) (LH.aj R (sB (dm R R R R (br R zQ))) (LH.seq ?_))
  obtain ⟨w2,hv,h⟩:=ae h
  refine LH.ax [(1,.sptr [.I p0.bf,.I p0.bB,.I p0.bg,.I p0.bC,.lst 3 (p0.b6.map cK.lv),.lst 3 (p0.aP.map cK.lv),.L p0.bb,.lst 2 (p0.bm.map bG.lv),.I p0.aV]),(37,.bool w2)] [] R ?_ ?_
  ·refine sN (aC DE aD aW R R R (sN (bj R aD b5 ?_)))
   obtain ⟨r3,hr3,hv⟩:=ae hv
   refine sN (dq (args:=[.I p0.bf]) R ri R (aw bl) (Gq hr3) R (sN (eM R (bZ R ?_))))
   by_cases bY:(!r3)=true
   ·replace hv:=aB hv bY
    refine sF R R bY (sF R R bY (sF R R bY (sF R R bY (sN (aY (cB bY) (v:=(.bool _)) R (bZ R (sF R R R (sF R R R (sF R R R (sF R R R (sN (aY R (v:=(.bool _)) R (bZ R (sF R R R (sF R R R (sF R R R (sF R R R (sN (aY R (v:=(.bool _)) R (bZ R (sF R R R (sF R R R (sF R R R (sN (aY R (v:=(.bool _)) R (bZ R (sF R R R (sF R R R (sF R R R (sN (aY R (v:=(.bool _)) R ?_)))))))))))))))))))))))))))))))
    obtain rfl:=oI hv
    exact zS
   ·replace bY:=bF bY
    replace hv:=aA hv bY
    refine sT R (cB bY) (aC DF aD aW R R R (sT R (cB bY) (bj R aD b5 ?_)))
    obtain ⟨r5,vR,hv⟩:=ae hv
    refine sT R (cB bY) (dq (args:=[.I p0.bB]) R ri R (aw bl) (Gq vR) R (sT R (cB bY) (eM R (sN (bc (cB bY) (v:=(.bool _)) R (bZ R ?_))))))
    by_cases bV:(!r5)=true
    ·replace hv:=aB hv bV
     refine sF R R bV (sF R R bV (sF R R bV (sF R R bV (sN (aY (cB bV) (v:=(.bool _)) R (bZ R (sF R R R (sF R R R (sF R R R (sF R R R (sN (aY R (v:=(.bool _)) R (bZ R (sF R R R (sF R R R (sF R R R (sN (aY R (v:=(.bool _)) R (bZ R (sF R R R (sF R R R (sF R R R (sN (aY R (v:=(.bool _)) R ?_))))))))))))))))))))))))
     obtain rfl:=oI hv
     exact zS
    ·replace bV:=bF bV
     replace hv:=aA hv bV
     refine sT R (cB bV) (aC Ks aD aW R R R (sT R (cB bV) (bj R aD b5 ?_)))
     obtain ⟨r7,CJ,hv⟩:=ae hv
     refine sT R (cB bV) (dq (args:=[.I p0.bg]) R ri R (aw bl) (Gq CJ) R (sT R (cB bV) (eM R (sN (bc (cB bV) (v:=(.bool _)) R (bZ R ?_))))))
     by_cases cA:(!r7)=true
     ·replace hv:=aB hv cA
      refine sF R R cA (sF R R cA (sF R R cA (sF R R cA (sN (aY (cB cA) (v:=(.bool _)) R (bZ R (sF R R R (sF R R R (sF R R R (sN (aY R (v:=(.bool _)) R (bZ R (sF R R R (sF R R R (sF R R R (sN (aY R (v:=(.bool _)) R ?_)))))))))))))))))
      obtain rfl:=oI hv
      exact zS
     ·replace cA:=bF cA
      replace hv:=aA hv cA
      refine sT R (cB cA) (aC DG aD aW R R R (sT R (cB cA) (bj R aD b5 ?_)))
      obtain ⟨r9,CK,hv⟩:=ae hv
      refine sT R (cB cA) (dq (args:=[.I p0.bC]) R ri R (aw bl) (Gq CK) R (sT R (cB cA) (eM R (sN (bc (cB cA) (v:=(.bool _)) R (bZ R ?_))))))
      by_cases dC:(!r9)=true
      ·replace hv:=aB hv dC
       refine sF R R dC (sF R R dC (sF R R dC (sN (aY (cB dC) (v:=(.bool _)) R (bZ R (sF R R R (sF R R R (sF R R R (sN (aY R (v:=(.bool _)) R ?_))))))))))
       obtain rfl:=oI hv
       exact zS
      ·replace dC:=bF dC
       replace hv:=aA hv dC
       refine sT R (cB dC) (aC DK aD aW R R R (sT R (cB dC) (bj R aD b5 (sT R (cB dC) (eG R R (sN (bc (cB dC) (v:=(.bool _)) R (bZ R ?_))))))))
       by_cases dj:(decide (p0.aV<0))=true
       ·replace hv:=aB hv dj
        refine sF R R dj (sF R R dj (sF R R dj (sN (aY (cB dj) (v:=(.bool _)) R ?_))))
        obtain rfl:=oI hv
        exact zS
       ·replace dj:=bF dj
        replace hv:=aA hv dj
        refine sT R (cB dj) (aC DK aD aW R R R (sT R (cB dj) (bj R aD b5 (sT R (cB dj) (jf R R (sN (bc (cB dj) (v:=(.bool _)) R ?_)))))))
        obtain rfl:=oI hv
        exact zS
  clear hv
  refine LH.cond (t:=w2) R (fun gl=>?_) (fun gl=>?_)
  ·replace h:=aB h gl
   refine LH.aj R (br R zQ) (LH.ret (aO ?_))
   obtain rfl:=oI h
   exact aJ (aT Tryz.results114) (bT R (bP ⟨aG mN,R,aN R,Sub.rfl⟩))
  replace h:=aA h gl
  refine LH.skip (ai (LH.seq (LH.ax [(1,.sptr [.I p0.bf,.I p0.bB,.I p0.bg,.I p0.bC,.lst 3 (p0.b6.map cK.lv),.lst 3 (p0.aP.map cK.lv),.L p0.bb,.lst 2 (p0.bm.map bG.lv),.I p0.aV]),(59,.bool ((decide ((p0.b6.length:Int) > 16)) || ((decide ((p0.aP.length:Int) > 6)) || ((decide ((p0.bb.length:Int) > 12)) || (decide ((p0.bm.length:Int) > 4))))))] [] R ?_ ?_)))
  ·refine sN (aC DH sK GM R R R (sN (bj R sK GJ (sN (bW (f:=cK.lv) u3 R (sN (jf R R (bZ R ?_))))))))
   by_cases c9:(decide ((p0.b6.length:Int) > 16))=true
   ·exact sF R R c9 (sF R R c9 (sF R R c9 (sF R R c9 (sN (aY (cB c9) (v:=(.bool _)) R (bZ R (sF R R R (sF R R R (sF R R R (sF R R R (sN (aY R (v:=(.bool _)) R (bZ R (sF R R R (sF R R R (sF R R R (sF R R R (sN (aY R (v:=(.bool _)) R (s0 (Wk.to (eC R (eC (cB (mq c9)) eN)) mN R (aN R))))))))))))))))))))))
   ·replace c9:=bF c9
    refine sT R (cB c9) (aC DI sK GM R R R (sT R (cB c9) (bj R sK GJ (sT R (cB c9) (bW (f:=cK.lv) u3 R (sT R (cB c9) (jf R R (sN (bc (cB c9) (v:=(.bool _)) R (bZ R ?_))))))))))
    by_cases cd:(decide ((p0.aP.length:Int) > 6))=true
    ·exact sF R R cd (sF R R cd (sF R R cd (sF R R cd (sN (aY (cB cd) (v:=(.bool _)) R (bZ R (sF R R R (sF R R R (sF R R R (sF R R R (sN (aY R (v:=(.bool _)) R (s0 (Wk.to (eC R (eC (cB (Eq.trans (mq cd) (gN c9))) eN)) mN R (aN R)))))))))))))))
    ·replace cd:=bF cd
     refine sT R (cB cd) (aC u4 cm dQ R R R (sT R (cB cd) (bj R cm eu (sT R (cB cd) (bW (f:=LV.I) bU R (sT R (cB cd) (jf R R (sN (bc (cB cd) (v:=(.bool _)) R (bZ R ?_))))))))))
     by_cases iQ:(decide ((p0.bb.length:Int) > 12))=true
     ·exact sF R R iQ (sF R R iQ (sF R R iQ (sF R R iQ (sN (aY (cB iQ) (v:=(.bool _)) R (s0 (Wk.to (eC R (eC (cB (Eq.trans (Eq.trans (mq iQ) (gN cd)) (gN c9))) eN)) mN R (aN R))))))))
     ·replace iQ:=bF iQ
      exact sT R (cB iQ) (aC DJ GL Mi R R R (sT R (cB iQ) (bj R GL Vi (sT R (cB iQ) (bW (f:=bG.lv) Mc R (sT R (cB iQ) (jf R R (sN (bc (cB iQ) (v:=(.bool _)) R (s0 (Wk.to (eC R (eC (cB (Eq.trans (Eq.trans (gN iQ) (gN cd)) (gN c9))) eN)) mN R (aN R))))))))))))
  refine LH.cond (t:=((decide ((p0.b6.length:Int) > 16)) || ((decide ((p0.aP.length:Int) > 6)) || ((decide ((p0.bb.length:Int) > 12)) || (decide ((p0.bm.length:Int) > 4)))))) R (fun tQ=>?_) (fun tQ=>?_)
  ·replace h:=aB h tQ
   refine LH.aj R (br R zQ) (LH.ret (aO ?_))
   obtain rfl:=oI h
   exact aJ (aT Tryz.results114) (bT R (bP ⟨aG mN,R,aN R,Sub.rfl⟩))
  replace h:=aA h tQ
  refine LH.skip (ai (LH.seq ?_))
  obtain ⟨xD,Ii,h⟩:=ae h
  refine LH.aj R (sN (aC DH sK GM R R R (sN (bj R sK GJ (sN (dq (args:=[.lst 3 (p0.b6.map cK.lv),.I 16]) R IP R (aw (aw bl)) (Nb Ii) R (br R zQ))))))) (LH.aj R (aZ R (sN (iC R R zQ))) (LH.cond (t:=(xD != 0)) R (fun FK=>?_) (fun FK=>?_)))
  ·replace h:=aB h FK
   refine LH.aj R (aZ R (br R zQ)) (LH.ret (aO ?_))
   obtain rfl:=oI h
   exact aJ (aT Tryz.results114) (bT R (bP ⟨aG mN,R,aN R,Sub.rfl⟩))
  replace h:=aA h FK
  refine LH.skip (ai (LH.seq ?_))
  obtain ⟨pH,yo,h⟩:=ae h
  refine LH.aj R (sN (aC DI sK GM R R R (sN (bj R sK GJ (sN (dq (args:=[.lst 3 (p0.aP.map cK.lv),.I 6]) R IP R (aw (aw bl)) (Nb yo) R (br R zQ))))))) (LH.aj R (aZ R (sN (iC R R zQ))) (LH.cond (t:=(pH != 0)) R (fun pq=>?_) (fun pq=>?_)))
  ·replace h:=aB h pq
   refine LH.aj R (aZ R (br R zQ)) (LH.ret (aO ?_))
   obtain rfl:=oI h
   exact aJ (aT Tryz.results114) (bT R (bP ⟨aG mN,R,aN R,Sub.rfl⟩))
  replace h:=aA h pq
  refine LH.skip (ai (LH.seq (LH.ax [(1,.sptr [.I p0.bf,.I p0.bB,.I p0.bg,.I p0.bC,.lst 3 (p0.b6.map cK.lv),.lst 3 (p0.aP.map cK.lv),.L p0.bb,.lst 2 (p0.bm.map bG.lv),.I p0.aV]),(5,.I 1)] [] R (br R zS) (LH.block (LH.loop (fun n e m=>∃ (n22:Int),AE p0 n n22=some r∧e=Env.of [(1,.sptr [.I p0.bf,.I p0.bB,.I p0.bg,.I p0.bC,.lst 3 (p0.b6.map cK.lv),.lst 3 (p0.aP.map cK.lv),.L p0.bb,.lst 2 (p0.bm.map bG.lv),.I p0.aV]),(5,.I n22)]∧m=Mem.of []) F ⟨1,h,R,R⟩ ?_)))))
  clear h
  rintro n e m ⟨n22,h,rfl,rfl⟩
  rcases n with _ | n
  · cases (show Option.none=some _ from h)
  obtain ⟨aH,aI⟩:∃ f,f=AE p0 n:=⟨_,rfl⟩
  replace h:Ew p0 aH n22=some r:=aI ▸ h
  unfold Ew at h
  refine LH.seq (LH.aj R (aZ R (sN (aC u4 cm dQ R R R (sN (bj R cm eu (sN (bW (f:=LV.I) bU R (sN (eG R R zQ))))))))) (LH.cond (t:=(decide (n22<(p0.bb.length:Int)))) R (fun Cr=>?_) (fun Cr=>?_)))
  ·replace h:=aB h Cr
   refine LH.skip (ai (LH.seq (LH.block ?_)))
   obtain ⟨V0,XS,h⟩:=ae h
   obtain ⟨Ca,Ix,h⟩:=ae h
   refine LH.du mixed [] [0,0,0,0,0,0,0,0,0,0,0,0] [(1,.sptr [.I p0.bf,.I p0.bB,.I p0.bg,.I p0.bC,.lst 3 (p0.b6.map cK.lv),.lst 3 (p0.aP.map cK.lv),.L p0.bb,.lst 2 (p0.bm.map bG.lv),.I p0.aV]),(5,.I n22),(90,.bool (decide (V0 ≥ Ca)))] [] R R (by kernel_rfl) (aX (aC u4 cm dQ R R R ⟨R,aX (bj R cm eu ⟨R,iT R (aX (kq R R ⟨R,aX (eF (f:=LV.I) bU aD aW R R jB XS R ⟨R,aX (bj R aD b5 ⟨R,aX (aC u4 cm dQ R R R ⟨R,aX (bj R cm eu ⟨R,iT R (aX (eF (f:=LV.I) bU aD aW R R jB Ix R ⟨R,aX (bj R aD b5 ⟨R,aX (oY R R ⟨R,zM⟩)⟩)⟩))⟩)⟩)⟩)⟩)⟩))⟩)⟩)) (LH.cond (t:=(decide (V0 ≥ Ca))) R (fun tS=>?_) (fun tS=>?_))
   ·replace h:=aB h tS
    refine LH.aj R (br R zQ) (LH.ret (bH (aO (dg (bH (aO ?_))))))
    obtain rfl:=oI h
    exact aJ (aT Tryz.results114) (bT R (bP ⟨aG mN,R,aN R,Sub.rfl⟩))
   replace h:=aA h tS
   refine LH.skip (aQ (ai (LH.bd R (aZ R (sN (b8 R R (br R zQ)))) ?_)))
   exact a7 ⟨(i64 (n22+1)),aI ▸ h,R,R⟩ (Wk.eq R R R R)
  replace h:=aA h Cr
  refine LH.exit (cg (bO (bK (ai (LH.aj R (br R zQ) (LH.ret ?_))))))
  obtain rfl:=oI h
  exact aJ (aT Tryz.results114) (bT R (bP ⟨aG mN,R,aN R,Sub.rfl⟩))
theorem xh {F:Nat} {p0:List ab} {p1:Int} {p2:Int} {p3:(ab→Option Int)} {r:aq} {mr:Nat} {kr:List LV} (Yl:dn Tryz.prog mr) (TX:LV.bt kr=true) (Ym:∀ (x0:ab) (q:Int),p3 x0=some q→aF Tryz.prog mr ([.agg [.I x0.ID,.I x0.Version,.str x0.cn,.lst 6 (x0.aK.map ag.lv),.L x0.aL]]++kr) (Mem.of []) (.I q) (Mem.of [])) (h:sz F p0 p1 p2 p3=some r):aF Tryz.prog 116 [.lst 5 (p0.map ab.lv),.I p1,.I p2,.fn mr kr] (Mem.of []) (.agg [.L r.cu,.I r.bQ,.I r.cO]) (Mem.of []):=by
  have Yn:∀ {l:List LV},LV.bt l=true→LV.bt (l++kr)=true:=Ju TX
  have rm:LV.a8 kr=[]:=et TX
  unfold sz at h
  refine bh Tryz.func116 R (nT Tryz.ntmps116 R) (LH.wk (Wk.to (el:=[(0,.lst 5 (p0.map ab.lv)),(1,.I p1),(2,.I p2),(3,.fn mr kr)]) (ml:=[]) (eQ ⟨R,R,R,R,trivial⟩) mN (by simp [av,LV.refs,LV.a8,LV.cells,cP,Env.args,Env.of,Env.put,Env.drop,rm]) (aN R)) (LH.ax [(0,.lst 5 (p0.map ab.lv)),(1,.I p1),(2,.I p2),(3,.fn mr kr),(8,.ptr 108 0)] [(108,.box [.nil,.I 0,.I 0])] R (sN (hD (id:=108) R qD R R (s0 (Wk.to (eQ ⟨R,R,R,R,R,trivial⟩) ⟨R,trivial⟩ (by simp [av,LV.refs,LV.a8,LV.cells,cP,Env.args,Env.of,Env.put,Env.drop,rm]) (aN R))))) ?_))
  obtain ⟨v1,iR,h⟩:=ae h
  refine LH.ax [(0,.lst 5 (p0.map ab.lv)),(1,.I p1),(2,.I p2),(3,.fn mr kr),(8,.ptr 108 0),(9,.arr 114 v1.length)] [(108,.box [.nil,.I 0,.I 0]),(114,.arr 3 1 (v1.map LV.I))] R (dY R (sN (bW (f:=ab.lv) eR R (sN (Qw (f:=LV.I) (z:=0) (id:=114) R bU NZ qL aW R R R iR R (uT R (s0 (Wk.to (eQ ⟨R,R,R,R,R,R,trivial⟩) ⟨R,R,trivial⟩ (by simp [av,LV.refs,LV.a8,LV.cells,cP,Env.args,Env.of,Env.put,Env.drop,rm]) (aN R))))))))) (LH.seq (LH.ax [(1,.I p1),(2,.I p2),(3,.fn mr kr),(8,.ptr 108 0),(9,.arr 114 v1.length),(15,.lst 5 (p0.map ab.lv)),(16,.I (p0.length:Int)),(17,.I 0)] [(108,.box [.nil,.I 0,.I 0]),(114,.arr 3 1 (v1.map LV.I))] R (dY R (sN (bW (f:=ab.lv) eR R (aZ R (s0 (Wk.to (eQ ⟨R,R,R,R,R,R,R,R,trivial⟩) ⟨R,R,trivial⟩ (by simp [av,LV.refs,LV.a8,LV.cells,cP,Env.args,Env.of,Env.put,Env.drop,rm]) (aN R))))))) (LH.block (LH.loop (fun n e m=>∃ (n2:Int) (l3:List Int),Dq p0 p1 p2 p3 n n2 l3=some r∧e=Env.of [(1,.I p1),(2,.I p2),(3,.fn mr kr),(8,.ptr 108 0),(9,.arr 114 l3.length),(15,.lst 5 (p0.map ab.lv)),(16,.I (p0.length:Int)),(17,.I n2)]∧m=Mem.of [(108,.box [.nil,.I 0,.I 0]),(114,.arr 3 1 (l3.map LV.I))]) F ⟨0,v1,h,R,R⟩ ?_))))
  clear h
  rintro n e m ⟨n2,l3,h,rfl,rfl⟩
  rcases n with _ | n
  · cases (show Option.none=some _ from h)
  obtain ⟨aH,aI⟩:∃ f,f=Dq p0 p1 p2 p3 n:=⟨_,rfl⟩
  replace h:AF p0 p1 p2 p3 aH n2 l3=some r:=aI ▸ h
  unfold AF at h
  refine LH.ax [(1,.I p1),(2,.I p2),(3,.fn mr kr),(8,.ptr 108 0),(9,.arr 114 l3.length),(15,.lst 5 (p0.map ab.lv)),(16,.I (p0.length:Int)),(17,.I n2),(18,.bool (decide (n2<(p0.length:Int))))] [(108,.box [.nil,.I 0,.I 0]),(114,.arr 3 1 (l3.map LV.I))] R (sN (eG R R (s0 (Wk.to (eQ ⟨R,R,R,R,R,R,R,R,R,trivial⟩) ⟨R,R,trivial⟩ (by simp [av,LV.refs,LV.a8,LV.cells,cP,Env.args,Env.of,Env.put,Env.drop,rm]) (aN R))))) (LH.seq (LH.cond (t:=(decide (n2<(p0.length:Int)))) R (fun jj=>?_) (fun jj=>?_)))
  ·replace h:=aB h jj
   refine LH.skip (ai (LH.wk (Wk.to (el:=[(1,.I p1),(2,.I p2),(3,.fn mr kr),(8,.ptr 108 0),(9,.arr 114 l3.length),(15,.lst 5 (p0.map ab.lv)),(16,.I (p0.length:Int)),(17,.I n2)]) (ml:=[(108,.box [.nil,.I 0,.I 0]),(114,.arr 3 1 (l3.map LV.I))]) (eQ ⟨R,R,R,R,R,R,R,R,trivial⟩) ⟨R,R,trivial⟩ (by simp [av,LV.refs,LV.a8,LV.cells,cP,Env.args,Env.of,Env.put,Env.drop,rm]) (aN R)) (LH.seq (LH.block ?_))))
   obtain ⟨x5,nB,h⟩:=ae h
   refine LH.ax [(1,.I p1),(2,.I p2),(3,.fn mr kr),(8,.ptr 108 0),(9,.arr 114 l3.length),(10,.I n2),(11,.ptr 111 0),(15,.lst 5 (p0.map ab.lv)),(16,.I (p0.length:Int)),(17,.I n2)] [(108,.box [.nil,.I 0,.I 0]),(111,.box [.I x5.ID,.I x5.Version,.str x5.cn,.lst 6 (x5.aK.map ag.lv),.L x5.aL]),(114,.arr 3 1 (l3.map LV.I))] R (aZ R (sN (eF (f:=ab.lv) eR bA bn R R ab.ok nB R (sN (bw R bA c7 bn R R (sN (hD (id:=111) R jO R R (br R (s_ (cM R R R bA bn R R R (s0 (Wk.to (eQ ⟨R,R,R,R,R,R,R,R,R,R,trivial⟩) ⟨R,R,R,trivial⟩ (by simp [av,LV.refs,LV.a8,LV.cells,cP,Env.args,Env.of,Env.put,Env.drop,rm]) (aN R))))))))))))) ?_
   obtain ⟨r6,Ip,h⟩:=ae h
   obtain ⟨x7,vA,h⟩:=ae h
   refine LH.df [(1,.I p1),(2,.I p2),(3,.fn mr kr),(8,.ptr 108 0),(9,.arr 114 (List.length (l3.set n2.toNat r6))),(15,.lst 5 (p0.map ab.lv)),(16,.I (p0.length:Int)),(17,.I n2)] [(108,.box [.nil,.I 0,.I 0]),(114,.arr 3 1 (List.map LV.I (l3.set n2.toNat r6)))] R ?_ ?_
   ·refine lq R (aZ R (sN (oM (v:=(.fn _ _)) R (sN (kp R R R bA c7 bn R R (sN (dq (args:=[.agg [.I x5.ID,.I x5.Version,.str x5.cn,.lst 6 (x5.aK.map ag.lv),.L x5.aL]]++kr) (eH:=[.agg [.I x5.ID,.I x5.Version,.str x5.cn,.lst 6 (x5.aK.map ag.lv),.L x5.aL]]++kr) R Yl R fl.rfl (Ym _ _ Ip) (Yn R) ?_)))))))
    exact sN (fP (f:=LV.I) bU aD aW R R R vA (s_ (nZ (f:=LV.I) (z':=r6) R R R R aD aW R (dp vA).2 R (s0 (Wk.to (eC R (eC R (eC R (eC R (eC (congrArg (LV.arr 114) (by simp)) (eC R (eC R (eC R eN)))))))) ⟨R,R,trivial⟩ (by simp [av,LV.refs,LV.a8,LV.cells,cP,Env.args,Env.of,Env.put,Env.drop,rm]) (aN R))))))
   refine aQ (ai (LH.df [(1,.I p1),(2,.I p2),(3,.fn mr kr),(8,.ptr 108 0),(9,.arr 114 (List.length (l3.set n2.toNat r6))),(15,.lst 5 (p0.map ab.lv)),(16,.I (p0.length:Int)),(17,.I (i64 (n2+1)))] [(108,.box [.nil,.I 0,.I 0]),(114,.arr 3 1 (List.map LV.I (l3.set n2.toNat r6)))] R (sN (b8 R R (aZ R (s0 (Wk.to (eQ ⟨R,R,R,R,R,R,R,R,trivial⟩) ⟨R,R,trivial⟩ (by simp [av,LV.refs,LV.a8,LV.cells,cP,Env.args,Env.of,Env.put,Env.drop,rm]) (aN R)))))) ?_))
   exact a7 ⟨(i64 (n2+1)),(l3.set n2.toNat r6),aI ▸ h,R,R⟩ (Wk.to (eQ ⟨R,R,R,R,R,R,R,R,trivial⟩) ⟨R,R,trivial⟩ (by simp [av,LV.refs,LV.a8,LV.cells,cP,Env.args,Env.of,Env.put,Env.drop,rm]) (aN R))
  replace h:=aA h jj
  refine LH.exit (cg (bO (bK (ai (LH.wk ((Wk.trans (Wk.to (el:=[(1,.I p1),(2,.I p2),(8,.ptr 108 0),(9,.arr 114 l3.length)]) (ml:=[(108,.box [.nil,.I 0,.I 0]),(114,.arr 3 1 (l3.map LV.I))]) (eQ ⟨R,R,R,R,trivial⟩) ⟨R,R,trivial⟩ (by simp [av,LV.refs,LV.a8,LV.cells,cP,Env.args,Env.of,Env.put,Env.drop,rm]) (aN R)) (Wk.trans (Wk.pj (f:=LV.I) (iP:=[(1,.I p1),(2,.I p2),(8,.ptr 108 0),(9,.L l3)]) 114 3 1 l3 R R (cc R) (fK R (fK R (fK R (fZ fN))))) (Wk.to (el:=[(1,.I p1),(2,.I p2),(8,.ptr 108 0),(9,.L l3)]) (ml:=[(108,.box [.nil,.I 0,.I 0])]) (eQ ⟨R,R,R,R,trivial⟩) ⟨R,trivial⟩ (by simp [av,LV.refs,LV.a8,LV.cells,cP,Env.args,Env.of,Env.put,Env.drop,rm]) (aN R))))) (LH.ax [(8,.ptr 108 0)] [(108,.box [.L l3,.I p1,.I p2])] R (dY R (aZ R (aZ R (sN (gJ (vs:=[(0,.L l3),(1,.I p1),(2,.I p2)]) Ky qD R (lf jr dQ cm R R R (lf mO aW aD R R R (lf mP aW aD R R R gI))) (s_ (cM R R R iL fF R R R (s0 (Wk.to (eQ ⟨R,trivial⟩) ⟨R,trivial⟩ (by simp [av,LV.refs,LV.a8,LV.cells,cP,Env.args,Env.of,Env.put,Env.drop,rm]) (aN R)))))))))) (LH.ret ?_)))))))
  obtain rfl:=oI h
  exact aJ (aT Tryz.results116) (Qq R R R iL uZ fF R R (bP ⟨aG mN,R,aN R,Sub.rfl⟩))
theorem Uu {p0:ab} {r:Int} (h:AZ p0=some r):aF Tryz.prog 117 [ab.lv p0] (Mem.of []) (.I r) (Mem.of []):=by
  unfold AZ at h
  refine bh Tryz.func117 R (nT Tryz.ntmps117 R) (LH.aj R (sB (dm R R R R (br R zQ))) (LH.aj R (br R zQ) (LH.ret ?_)))
  obtain rfl:=oI h
  exact aJ (aT Tryz.results117) (bT R (bP ⟨aG mN,R,aN R,Sub.rfl⟩))
theorem JK {F:Nat} {p0:List ag} {r:Int} (h:uJ F p0=some r):aF Tryz.prog 84 [.lst 6 (p0.map ag.lv)] (Mem.of []) (.I r) (Mem.of []):=by
  unfold uJ at h
  refine bh Tryz.func84 R (nT Tryz.ntmps84 R) (LH.aj R (br R zQ) (LH.aj R (br R zQ) (LH.seq (LH.ax [(3,.I 0),(6,.lst 6 (p0.map ag.lv)),(7,.I (p0.length:Int)),(8,.I 0)] [] R (dY R (sN (bW (f:=ag.lv) eP R (aZ R zS)))) (LH.block (LH.loop (fun n e m=>∃ (n1:Int) (n2:Int),Bp p0 n n1 n2=some r∧e=Env.of [(3,.I n1),(6,.lst 6 (p0.map ag.lv)),(7,.I (p0.length:Int)),(8,.I n2)]∧m=Mem.of []) F ⟨0,0,h,R,R⟩ ?_))))))
  clear h
  rintro n e m ⟨n1,n2,h,rfl,rfl⟩
  rcases n with _ | n
  · cases (show Option.none=some _ from h)
  obtain ⟨aH,aI⟩:∃ f,f=Bp p0 n:=⟨_,rfl⟩
  replace h:AH p0 aH n1 n2=some r:=aI ▸ h
  unfold AH at h
  refine LH.aj R (sN (eG R R zQ)) (LH.seq (LH.cond (t:=(decide (n2<(p0.length:Int)))) R (fun fT=>?_) (fun fT=>?_)))
  ·replace h:=aB h fT
   refine LH.skip (ai (LH.seq (LH.block ?_)))
   obtain ⟨x4,zL,h⟩:=ae h
   refine LH.ax [(3,.I n1),(5,.sptr (ag.lv x4).cells),(6,.lst 6 (p0.map ag.lv)),(7,.I (p0.length:Int)),(8,.I n2)] [] R (sN (eF (f:=ag.lv) eP cT cF R R ag.ok zL R (sN (bw R cT fb cF R R (sN (hD (id:=105) R sq R R (s_ (cM R R R cT cF R R R (s0 ((Wk.trans (bM [(3,.I n1),(5,.ptr 105 0),(6,.lst 6 (p0.map ag.lv)),(7,.I (p0.length:Int)),(8,.I n2)] [(105,.box (ag.lv x4).cells)]) (Wk.trans (Wk.bD 105 (ag.lv x4).cells R R R (cc R)) (Wk.eq R R R R))))))))))))) (LH.bd R (aZ R (sN (aC kO aD aW R R R (sN (bj R aD b5 (sN (b8 R R (br R zQ)))))))) (aQ (ai (LH.bd R (sN (b8 R R (aZ R zQ))) ?_))))
   exact a7 ⟨(i64 (n1+x4.Max)),(i64 (n2+1)),aI ▸ h,R,R⟩ (Wk.eq R R R R)
  replace h:=aA h fT
  refine LH.exit (cg (bO (bK (ai (LH.aj R (aZ R (br R zQ)) (LH.ret ?_))))))
  obtain rfl:=oI h
  exact aJ (aT Tryz.results84) (bT R (bP ⟨aG mN,R,aN R,Sub.rfl⟩))
theorem U0 {F:Nat} {p0:ab} {r:Int} (h:uN F p0=some r):aF Tryz.prog 118 [ab.lv p0] (Mem.of []) (.I r) (Mem.of []):=by
  unfold uN at h
  refine bh Tryz.func118 R (nT Tryz.ntmps118 R) (LH.aj R (sB (dm R R R R (br R zQ))) (LH.seq ?_))
  obtain ⟨r1,dR,h⟩:=ae h
  refine LH.aj R (sN (bw R bA c7 bn R R (sN (dq (args:=[ab.lv p0]) R qj R (aw bl) (yF dR) R (sN (iC R R zQ)))))) (LH.cond (t:=(r1 != 0)) R (fun dI=>?_) (fun dI=>?_))
  ·replace h:=aB h dI
   refine LH.aj R (br R zQ) (LH.ret (aO ?_))
   obtain rfl:=oI h
   exact aJ (aT Tryz.results118) (bT R (bP ⟨aG mN,R,aN R,Sub.rfl⟩))
  replace h:=aA h dI
  refine LH.skip (ai ?_)
  obtain ⟨r3,hr3,h⟩:=ae h
  refine LH.aj R (sN (aC dA cE dP R R R (sN (bj R cE gf (sN (dq (args:=[.lst 6 (p0.aK.map ag.lv)]) R IZ R (aw bl) (JK hr3) R (br R zQ))))))) (LH.ret ?_)
  obtain rfl:=oI h
  exact aJ (aT Tryz.results118) (bT R (bP ⟨aG mN,R,aN R,Sub.rfl⟩))
theorem Gp {p0:List aq} {p1:List aq} {r:List aq} (h:G5 p0 p1=some r):aF Tryz.prog 115 [.ptr 511 0,.lst 3 (p1.map aq.lv)] (Mem.of [(511,.box [.arr 512 p0.length]),(512,.arr 230 3 (p0.map aq.lv))]) (.tup []) (Mem.of [(511,.box [.arr 512 r.length]),(512,.arr 230 3 (r.map aq.lv))]):=by
  unfold G5 at h
  refine bh Tryz.func115 R (nT Tryz.ntmps115 R) (?_)
  obtain ⟨v1,iR,h⟩:=ae h
  refine LH.bd R (iA R (iA R (sN (Gc R (sN (dv R R R R lh u1 (dY R (sX (uy (f:=aq.lv) lU va fF R R R iR) (sN (Gc R (s_ (cM R R R lh wg R R R zQ)))))))))))) ?_
  obtain rfl:=oI h
  exact uR (aT Tryz.results115) (bP ⟨aG (mC R (mC R mN)),R,aN R,(Sub.tup bl)⟩)
theorem Uh {p0:ag} {c0:cK} {r:Bool} (h:JD p0 c0=some r):aF Tryz.prog 121 [ag.lv p0,.sptr [.I c0.Index,.I c0.bQ,.I c0.cO]] (Mem.of []) (.bool r) (Mem.of []):=by
  unfold JD at h
  refine bh Tryz.func121 R (nT Tryz.ntmps121 R) (LH.aj R (sB (dm R R R R (cr R zQ))) (LH.aj R (sN (aC qy aD aW R R R (sN (bj R aD b5 (sN (aC oN aD aW R R R (sN (bj R aD b5 (sN (iX R R (cr R zQ))))))))))) (LH.ret ?_)))
  obtain rfl:=oI h
  exact aJ (aT Tryz.results121) (bT R (bP ⟨aG mN,R,aN R,Sub.rfl⟩))
theorem Ni {F:Nat} {p0:ab} {p1:(ag→Option Bool)} {r:Int} {cH:Nat} {ca:List LV} (rk:dn Tryz.prog cH) (jA:LV.bt ca=true) (rl:∀ (x0:ag) (q:Bool),p1 x0=some q→aF Tryz.prog cH ([.agg [.I x0.Kind,.I x0.Max,.I x0.gi,.I x0.cU,.I x0.Options,.I x0.Key]]++ca) (Mem.of []) (.bool q) (Mem.of [])) (h:EG F p0 p1=some r):aF Tryz.prog 120 [.agg [.I p0.ID,.I p0.Version,.str p0.cn,.lst 6 (p0.aK.map ag.lv),.L p0.aL],.fn cH ca] (Mem.of []) (.I r) (Mem.of []):=by
  have vY:∀ {l:List LV},LV.bt l=true→LV.bt (l++ca)=true:=Ju jA
  have cZ:LV.a8 ca=[]:=et jA
  unfold EG at h
  refine bh Tryz.func120 R (nT Tryz.ntmps120 R) (LH.wk (Wk.to (el:=[(0,.agg [.I p0.ID,.I p0.Version,.str p0.cn,.lst 6 (p0.aK.map ag.lv),.L p0.aL]),(1,.fn cH ca)]) (ml:=[]) (eQ ⟨R,R,trivial⟩) mN (by simp [av,LV.refs,LV.a8,LV.cells,cP,Env.args,Env.of,Env.put,Env.drop,cZ]) (aN R)) (LH.ax [(1,.fn cH ca),(2,.sptr [.I p0.ID,.I p0.Version,.str p0.cn,.lst 6 (p0.aK.map ag.lv),.L p0.aL])] [] R (sB (dm R R R R (br R (s0 (Wk.to (eQ ⟨R,R,trivial⟩) mN (by simp [av,LV.refs,LV.a8,LV.cells,cP,Env.args,Env.of,Env.put,Env.drop,cZ]) (aN R)))))) (LH.ax [(1,.fn cH ca),(2,.sptr [.I p0.ID,.I p0.Version,.str p0.cn,.lst 6 (p0.aK.map ag.lv),.L p0.aL]),(5,.I 0)] [] R (br R (s0 (Wk.to (eQ ⟨R,R,R,trivial⟩) mN (by simp [av,LV.refs,LV.a8,LV.cells,cP,Env.args,Env.of,Env.put,Env.drop,cZ]) (aN R)))) (LH.seq (LH.ax [(1,.fn cH ca),(5,.I 0),(9,.lst 6 (p0.aK.map ag.lv)),(10,.I (p0.aK.length:Int)),(11,.I 0)] [] R (sN (aC dA cE dP R R R (sN (bj R cE gf (sN (bW (f:=ag.lv) eP R (aZ R (s0 (Wk.to (eQ ⟨R,R,R,R,R,trivial⟩) mN (by simp [av,LV.refs,LV.a8,LV.cells,cP,Env.args,Env.of,Env.put,Env.drop,cZ]) (aN R)))))))))) (LH.block (LH.loop (fun n e m=>∃ (n1:Int) (n2:Int),Ex p0 p1 n n1 n2=some r∧e=Env.of [(1,.fn cH ca),(5,.I n1),(9,.lst 6 (p0.aK.map ag.lv)),(10,.I (p0.aK.length:Int)),(11,.I n2)]∧m=Mem.of []) F ⟨0,0,h,R,R⟩ ?_)))))))
  clear h
  rintro n e m ⟨n1,n2,h,rfl,rfl⟩
  rcases n with _ | n
  · cases (show Option.none=some _ from h)
  obtain ⟨aH,aI⟩:∃ f,f=Ex p0 p1 n:=⟨_,rfl⟩
  replace h:Jy p0 p1 aH n1 n2=some r:=aI ▸ h
  unfold Jy at h
  refine LH.ax [(1,.fn cH ca),(5,.I n1),(9,.lst 6 (p0.aK.map ag.lv)),(10,.I (p0.aK.length:Int)),(11,.I n2),(12,.bool (decide (n2<(p0.aK.length:Int))))] [] R (sN (eG R R (s0 (Wk.to (eQ ⟨R,R,R,R,R,R,trivial⟩) mN (by simp [av,LV.refs,LV.a8,LV.cells,cP,Env.args,Env.of,Env.put,Env.drop,cZ]) (aN R))))) (LH.seq (LH.cond (t:=(decide (n2<(p0.aK.length:Int)))) R (fun fT=>?_) (fun fT=>?_)))
  ·replace h:=aB h fT
   refine LH.skip (ai (LH.wk (Wk.to (el:=[(1,.fn cH ca),(5,.I n1),(9,.lst 6 (p0.aK.map ag.lv)),(10,.I (p0.aK.length:Int)),(11,.I n2)]) (ml:=[]) (eQ ⟨R,R,R,R,R,trivial⟩) mN (by simp [av,LV.refs,LV.a8,LV.cells,cP,Env.args,Env.of,Env.put,Env.drop,cZ]) (aN R)) (LH.seq (LH.block ?_))))
   obtain ⟨x4,zL,h⟩:=ae h
   refine LH.ax [(1,.fn cH ca),(5,.I n1),(7,.ptr 107 0),(9,.lst 6 (p0.aK.map ag.lv)),(10,.I (p0.aK.length:Int)),(11,.I n2)] [(107,.box [.I x4.Kind,.I x4.Max,.I x4.gi,.I x4.cU,.I x4.Options,.I x4.Key])] R (sN (eF (f:=ag.lv) eP cT cF R R ag.ok zL R (sN (bw R cT fb cF R R (sN (hD (id:=107) R sq R R (s_ (cM R R R cT cF R R R (s0 (Wk.to (eQ ⟨R,R,R,R,R,R,trivial⟩) ⟨R,trivial⟩ (by simp [av,LV.refs,LV.a8,LV.cells,cP,Env.args,Env.of,Env.put,Env.drop,cZ]) (aN R))))))))))) ?_
   obtain ⟨r5,vR,h⟩:=ae h
   refine LH.ax [(1,.fn cH ca),(5,.I n1),(7,.ptr 107 0),(9,.lst 6 (p0.aK.map ag.lv)),(10,.I (p0.aK.length:Int)),(11,.I n2),(17,.bool r5)] [(107,.box [.I x4.Kind,.I x4.Max,.I x4.gi,.I x4.cU,.I x4.Options,.I x4.Key])] R ?_ ?_
   ·refine sN (oM (v:=(.fn _ _)) R (sN (kp R R R cT fb cF R R (sN (dq (args:=[.agg [.I x4.Kind,.I x4.Max,.I x4.gi,.I x4.cU,.I x4.Options,.I x4.Key]]++ca) (eH:=[.agg [.I x4.Kind,.I x4.Max,.I x4.gi,.I x4.cU,.I x4.Options,.I x4.Key]]++ca) R rk R fl.rfl (rl _ _ vR) (vY R) ?_)))))
    exact s0 (Wk.to (eQ ⟨R,R,R,R,R,R,R,trivial⟩) ⟨R,trivial⟩ (by simp [av,LV.refs,LV.a8,LV.cells,cP,Env.args,Env.of,Env.put,Env.drop,cZ]) (aN R))
   refine LH.cond (t:=r5) R (fun fY=>?_) (fun fY=>?_)
   ·replace h:=aB h fY
    refine LH.df [(1,.fn cH ca),(5,.I (i64 (n1+x4.Max))),(9,.lst 6 (p0.aK.map ag.lv)),(10,.I (p0.aK.length:Int)),(11,.I n2)] [] R (aZ R (sN (fo kO aD aW R R (sN (dv R R R R aD b5 (sN (b8 R R (br R (s0 (Wk.to (eQ ⟨R,R,R,R,R,trivial⟩) mN (by simp [av,LV.refs,LV.a8,LV.cells,cP,Env.args,Env.of,Env.put,Env.drop,cZ]) (aN R))))))))))) (aQ (ai (LH.df [(1,.fn cH ca),(5,.I (i64 (n1+x4.Max))),(9,.lst 6 (p0.aK.map ag.lv)),(10,.I (p0.aK.length:Int)),(11,.I (i64 (n2+1)))] [] R (sN (b8 R R (aZ R (s0 (Wk.to (eQ ⟨R,R,R,R,R,trivial⟩) mN (by simp [av,LV.refs,LV.a8,LV.cells,cP,Env.args,Env.of,Env.put,Env.drop,cZ]) (aN R)))))) ?_)))
    exact a7 ⟨(i64 (n1+x4.Max)),(i64 (n2+1)),aI ▸ h,R,R⟩ (Wk.to (eQ ⟨R,R,R,R,R,trivial⟩) mN (by simp [av,LV.refs,LV.a8,LV.cells,cP,Env.args,Env.of,Env.put,Env.drop,cZ]) (aN R))
   replace h:=aA h fY
   refine LH.skip (aQ (ai (LH.df [(1,.fn cH ca),(5,.I n1),(9,.lst 6 (p0.aK.map ag.lv)),(10,.I (p0.aK.length:Int)),(11,.I (i64 (n2+1)))] [] R (sN (b8 R R (aZ R (s0 (Wk.to (eQ ⟨R,R,R,R,R,trivial⟩) mN (by simp [av,LV.refs,LV.a8,LV.cells,cP,Env.args,Env.of,Env.put,Env.drop,cZ]) (aN R)))))) ?_)))
   exact a7 ⟨n1,(i64 (n2+1)),aI ▸ h,R,R⟩ (Wk.to (eQ ⟨R,R,R,R,R,trivial⟩) mN (by simp [av,LV.refs,LV.a8,LV.cells,cP,Env.args,Env.of,Env.put,Env.drop,cZ]) (aN R))
  replace h:=aA h fT
  refine LH.exit (cg (bO (bK (ai (LH.ax [(4,.I n1)] [] R (aZ R (br R (s0 (Wk.to (eQ ⟨R,trivial⟩) mN (by simp [av,LV.refs,LV.a8,LV.cells,cP,Env.args,Env.of,Env.put,Env.drop,cZ]) (aN R))))) (LH.ret ?_))))))
  obtain rfl:=oI h
  exact aJ (aT Tryz.results120) (bT R (bP ⟨aG mN,R,aN R,Sub.rfl⟩))
theorem Uv {F:Nat} {p0:ab} {c0:cK} {r:Int} (h:JH F p0 c0=some r):aF Tryz.prog 119 [ab.lv p0,.sptr [.I c0.Index,.I c0.bQ,.I c0.cO]] (Mem.of []) (.I r) (Mem.of []):=by
  unfold JH at h
  refine bh Tryz.func119 R (nT Tryz.ntmps119 R) (LH.aj R (sB (dm R R R R (br R zQ))) ?_)
  obtain ⟨r1,dR,h⟩:=ae h
  refine LH.ax [(3,.I r1)] [] R (sN (bw R bA c7 bn R R (sN (z7 (vs:=[.sptr [.I c0.Index,.I c0.bQ,.I c0.cO]]) R (sN (dq (args:=[ab.lv p0,.fn 121 [.sptr [.I c0.Index,.I c0.bQ,.I c0.cO]]]) R Iz R (aw (aw bl)) (Ni (cH:=121) (ca:=[.sptr [.I c0.Index,.I c0.bQ,.I c0.cO]]) PE R (fun _ _ h=>Uh h) dR) R (br R zS))))))) (LH.ret ?_)
  obtain rfl:=oI h
  exact aJ (aT Tryz.results119) (bT R (bP ⟨aG mN,R,aN R,Sub.rfl⟩))
theorem Ui {p0:ag} {c0:cK} {r:Bool} (h:JE p0 c0=some r):aF Tryz.prog 123 [ag.lv p0,.sptr [.I c0.Index,.I c0.bQ,.I c0.cO]] (Mem.of []) (.bool r) (Mem.of []):=by
  unfold JE at h
  refine bh Tryz.func123 R (nT Tryz.ntmps123 R) (LH.aj R (sB (dm R R R R (cr R zQ))) (LH.aj R (sN (aC qz aD aW R R R (sN (bj R aD b5 (sN (aC oN aD aW R R R (sN (bj R aD b5 (sN (iX R R (cr R zQ))))))))))) (LH.ret ?_)))
  obtain rfl:=oI h
  exact aJ (aT Tryz.results123) (bT R (bP ⟨aG mN,R,aN R,Sub.rfl⟩))
theorem Uw {F:Nat} {p0:ab} {c0:cK} {r:Int} (h:JI F p0 c0=some r):aF Tryz.prog 122 [ab.lv p0,.sptr [.I c0.Index,.I c0.bQ,.I c0.cO]] (Mem.of []) (.I r) (Mem.of []):=by
  unfold JI at h
  refine bh Tryz.func122 R (nT Tryz.ntmps122 R) (LH.aj R (sB (dm R R R R (br R zQ))) ?_)
  obtain ⟨r1,dR,h⟩:=ae h
  refine LH.ax [(3,.I r1)] [] R (sN (bw R bA c7 bn R R (sN (z7 (vs:=[.sptr [.I c0.Index,.I c0.bQ,.I c0.cO]]) R (sN (dq (args:=[ab.lv p0,.fn 123 [.sptr [.I c0.Index,.I c0.bQ,.I c0.cO]]]) R Iz R (aw (aw bl)) (Ni (cH:=123) (ca:=[.sptr [.I c0.Index,.I c0.bQ,.I c0.cO]]) PG R (fun _ _ h=>Ui h) dR) R (br R zS))))))) (LH.ret ?_)
  obtain rfl:=oI h
  exact aJ (aT Tryz.results122) (bT R (bP ⟨aG mN,R,aN R,Sub.rfl⟩))
theorem Nr {p0:Bool} {r:Int} (h:Bh p0=some r):aF Tryz.prog 125 [.bool p0] (Mem.of []) (.I r) (Mem.of []):=by
  unfold Bh at h
  refine bh Tryz.func125 R (nT Tryz.ntmps125 R) (LH.aj R (br R zQ) (LH.seq (LH.aj R (bZ R zQ) (LH.cond (t:=p0) R (fun hc1=>?_) (fun hc1=>?_)))))
  ·replace h:=aB h hc1
   refine LH.aj R (br R zQ) (LH.ret (aO ?_))
   obtain rfl:=oI h
   exact aJ (aT Tryz.results125) (bT R (bP ⟨aG mN,R,aN R,Sub.rfl⟩))
  replace h:=aA h hc1
  refine LH.skip (ai (LH.aj R (br R zQ) (LH.ret ?_)))
  obtain rfl:=oI h
  exact aJ (aT Tryz.results125) (bT R (bP ⟨aG mN,R,aN R,Sub.rfl⟩))
theorem Ux {p0:ab} {c0:Int} {r:Int} (h:JJ p0 c0=some r):aF Tryz.prog 124 [ab.lv p0,.sptr [.I c0]] (Mem.of []) (.I r) (Mem.of []):=by
  unfold JJ at h
  refine bh Tryz.func124 R (nT Tryz.ntmps124 R) (LH.aj R (sB (dm R R R R (br R zQ))) ?_)
  obtain ⟨r1,dR,h⟩:=ae h
  refine LH.aj R (sN (aC dZ aD aW R R R (sN (bj R aD b5 (sN (bj R aD b5 (sN (iX R R (sN (dq (args:=[.bool (p0.ID == c0)]) R IA R (aw bl) (Nr dR) R (br R zQ))))))))))) (LH.ret ?_)
  obtain rfl:=oI h
  exact aJ (aT Tryz.results124) (bT R (bP ⟨aG mN,R,aN R,Sub.rfl⟩))
theorem Ug {F:Nat} {p0:List Int} {p1:Int} {r:Int} (h:EA F p0 p1=some r):aF Tryz.prog 194 [.L p0,.I p1] (Mem.of []) (.I r) (Mem.of []):=by
  unfold EA at h
  refine bh Tryz.func194 R (nT Tryz.ntmps194 R) (LH.aj R (br R zQ) (LH.seq (LH.ax [(0,.L p0),(1,.I p1),(7,.I (p0.length:Int)),(8,.I 0)] [] R (dY R (sN (bW (f:=LV.I) bU R (aZ R zS)))) (LH.block (LH.loop (fun n e m=>∃ (n1:Int),AG p0 p1 n n1=some r∧e=Env.of [(0,.L p0),(1,.I p1),(7,.I (p0.length:Int)),(8,.I n1)]∧m=Mem.of []) F ⟨0,h,R,R⟩ ?_)))))
  clear h
  rintro n e m ⟨n1,h,rfl,rfl⟩
  rcases n with _ | n
  · cases (show Option.none=some _ from h)
  obtain ⟨aH,aI⟩:∃ f,f=AG p0 p1 n:=⟨_,rfl⟩
  replace h:JU p0 p1 aH n1=some r:=aI ▸ h
  unfold JU at h
  refine LH.aj R (sN (eG R R zQ)) (LH.seq (LH.cond (t:=(decide (n1<(p0.length:Int)))) R (fun dI=>?_) (fun dI=>?_)))
  ·replace h:=aB h dI
   refine LH.skip (ai (LH.seq (LH.block (LH.aj R (aZ R (br R zQ)) ?_))))
   obtain ⟨x3,fj,h⟩:=ae h
   refine LH.aj R (aZ R (dY R (aZ R (sN (eF (f:=LV.I) bU aD aW R R jB fj R (sN (bj R aD b5 (sN (iX R R zQ))))))))) (LH.cond (t:=(p1 == x3)) R (fun jj=>?_) (fun jj=>?_))
   ·replace h:=aB h jj
    refine LH.aj R (aZ R (br R zQ)) (LH.ret (bH (aO (dg (bH (aO ?_))))))
    obtain rfl:=oI h
    exact aJ (aT Tryz.results194) (bT R (bP ⟨aG mN,R,aN R,Sub.rfl⟩))
   replace h:=aA h jj
   refine LH.skip (aQ (ai (LH.bd R (sN (b8 R R (aZ R zQ))) ?_)))
   exact a7 ⟨(i64 (n1+1)),aI ▸ h,R,R⟩ (Wk.eq R R R R)
  replace h:=aA h dI
  refine LH.exit (cg (bO (bK (ai (LH.aj R (br R zQ) (LH.ret ?_))))))
  obtain rfl:=oI h
  exact aJ (aT Tryz.results194) (bT R (bP ⟨aG mN,R,aN R,Sub.rfl⟩))
theorem Na {F:Nat} {p0:List Int} {p1:Int} {r:Bool} (h:Gl F p0 p1=some r):aF Tryz.prog 149 [.L p0,.I p1] (Mem.of []) (.bool r) (Mem.of []):=by
  unfold Gl at h
  refine bh Tryz.func149 R (nT Tryz.ntmps149 R) (LH.aj R (cr R zQ) ?_)
  obtain ⟨r1,dR,h⟩:=ae h
  refine LH.aj R (dY R (aZ R (sN (dq (args:=[.L p0,.I p1]) R P7 R (aw (aw bl)) (Ug dR) R (sN (oY R R (cr R zQ))))))) (LH.ret ?_)
  obtain rfl:=oI h
  exact aJ (aT Tryz.results149) (bT R (bP ⟨aG mN,R,aN R,Sub.rfl⟩))
theorem UZ {F:Nat} {p0:ab} {p1:ab} {r:Bool} (h:xC F p0 p1=some r):aF Tryz.prog 86 [ab.lv p0,ab.lv p1] (Mem.of []) (.bool r) (Mem.of []):=by
  unfold xC at h
  refine bh Tryz.func86 R (nT Tryz.ntmps86 R) (LH.aj R (sB (dm R R R R (sB (dm R R R R (cr R zQ))))) (LH.seq ?_))
  obtain ⟨w2,hv,h⟩:=ae h
  refine LH.ax [(2,.sptr (ab.lv p0).cells),(3,.sptr (ab.lv p1).cells),(19,.bool w2)] [] R ?_ ?_
  ·refine sN (bw R bA c7 bn R R ?_)
   obtain ⟨r3,hr3,hv⟩:=ae hv
   refine sN (dq (args:=[ab.lv p0]) R qj R (aw bl) (yF hr3) R (sN (iC R R (bZ R ?_))))
   by_cases bY:(r3 != 0)=true
   ·replace hv:=aB hv bY
    refine sF R R bY (sF R R bY (sF R R bY (sN (aY (cB bY) (v:=(.bool _)) R (bZ R (sF R R R (sF R R R (sF R R R (sF R R R (sF R R R (sN (aY R (v:=(.bool _)) R ?_))))))))))))
    obtain rfl:=oI hv
    exact zS
   ·replace bY:=bF bY
    replace hv:=aA hv bY
    refine sT R (cB bY) (bw R bA c7 bn R R ?_)
    obtain ⟨r5,vR,hv⟩:=ae hv
    refine sT R (cB bY) (dq (args:=[ab.lv p1]) R qj R (aw bl) (yF vR) R (sT R (cB bY) (iC R R (sN (bc (cB bY) (v:=(.bool _)) R (bZ R ?_))))))
    by_cases bV:(r5 != 0)=true
    ·replace hv:=aB hv bV
     refine sF R R bV (sF R R bV (sF R R bV (sF R R bV (sF R R bV (sN (aY (cB bV) (v:=(.bool _)) R ?_))))))
     obtain rfl:=oI hv
     exact zS
    ·replace bV:=bF bV
     replace hv:=aA hv bV
     refine sT R (cB bV) (aC dZ aD aW R R R (sT R (cB bV) (bj R aD b5 (sT R (cB bV) (aC dZ aD aW R R R (sT R (cB bV) (bj R aD b5 (sT R (cB bV) (iX R R (sN (bc (cB bV) (v:=(.bool _)) R ?_)))))))))))
     obtain rfl:=oI hv
     exact zS
  clear hv
  refine LH.cond (t:=w2) R (fun ln=>?_) (fun ln=>?_)
  ·replace h:=aB h ln
   refine LH.aj R (cr R zQ) (LH.ret (aO ?_))
   obtain rfl:=oI h
   exact aJ (aT Tryz.results86) (bT R (bP ⟨aG mN,R,aN R,Sub.rfl⟩))
  replace h:=aA h ln
  refine LH.skip (ai ?_)
  obtain ⟨w9,hv,h⟩:=ae h
  refine LH.ax [(4,.bool w9)] [] R ?_ ?_
  ·refine sN (aC hT cm dQ R R R (sN (bj R cm eu (sN (aC dZ aD aW R R R (sN (bj R aD b5 ?_)))))))
   obtain ⟨ea,pz,hv⟩:=ae hv
   refine sN (dq (args:=[.L p0.aL,.I p1.ID]) R IN R (aw (aw bl)) (Na pz) R (bZ R ?_))
   by_cases dj:ea=true
   ·replace hv:=aB hv dj
    refine sF R R dj (sF R R dj (sF R R dj (sF R R dj (sF R R dj (sN (aY (cB dj) (v:=(.bool _)) R (cr R ?_)))))))
    obtain rfl:=oI hv
    exact zS
   ·replace dj:=bF dj
    replace hv:=aA hv dj
    refine sT R (cB dj) (aC hT cm dQ R R R (sT R (cB dj) (bj R cm eu (sT R (cB dj) (aC dZ aD aW R R R (sT R (cB dj) (bj R aD b5 ?_)))))))
    obtain ⟨fx,qZ,hv⟩:=ae hv
    refine sT R (cB dj) (dq (args:=[.L p1.aL,.I p0.ID]) R IN R (aw (aw bl)) (Na qZ) R (sN (bc (cB dj) (v:=(.bool _)) R (cr R ?_))))
    obtain rfl:=oI hv
    exact zS
  clear hv
  refine LH.ret ?_
  obtain rfl:=oI h
  exact aJ (aT Tryz.results86) (bT R (bP ⟨aG mN,R,aN R,Sub.rfl⟩))
end Go.Proofs.YtiinmaihgmfniaaGreat
