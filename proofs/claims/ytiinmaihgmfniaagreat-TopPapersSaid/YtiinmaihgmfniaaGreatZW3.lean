import Derived.Test.YtiinmaihgmfniaaGreatZW2
set_option linter.unusedVariables false
set_option linter.unusedSimpArgs false
set_option maxRecDepth 100000
set_option maxHeartbeats 1000000
namespace Go.Proofs.YtiinmaihgmfniaaGreat
open Go.L Go.Sh
set_option maxHeartbeats 4000000 in
theorem Rw {F:Nat} {p0:List bu} {p1:Int} {r:bV × List gM × Int} (h:iK F p0 p1=some r):aF Tryz.prog 63 [.lst 12 (p0.map bu.lv),.I p1] (Mem.of []) (.tup [.agg [.lst 5 (r.1.ab.map a8.lv)],.lst 3 (r.2.1.map gM.lv),.I r.2.2]) (Mem.of []):=by
  unfold iK at h
  refine aW Tryz.func63 R (nT Tryz.ntmps63 R)<|LH.ae R (sN<|ib (id:=104) R Hb R R<|kE R<|aX R zQ) ?_
  obtain ⟨r1,dI,h⟩:=aa h
  refine LH.ae R (dC R<|sN<|dh Tm (YO dI)<|sG R<|sN<|gj R R<|sN<|gj R R<|qV R<|aX R zQ)<|LH.seq<|LH.ae R (aN R<|sN<|iR R R zQ) (LH.cd h R (fun gK h=>?_) fun gK h=>?_)
  ·refine LH.cM R (sN<|hD (vs:=[]) adF Hb R gZ<|aN R<|s_<|cN R R R lD lE R R R<|kE R<|aX R<|s0<|zB [4,5,6] [104] 104 R)<|LH.ret<|aA ?_
   obtain rfl:=oI h
   exact bL (aT Tryz.results63)<|eE R lD sm lE R R<|dx R<|dx R<|dN lY
  refine LH.skip<|ag<|LH.cM R (sX (j8 711 R Hb R R)<|s0<|Wk.trans (bQ [1,4,7,9] [104,811])<|Wk.Ur 812 179 5 [(1,108,5),(2,4,1),(3,182,3)] 811 0 R R R R R<|cv R)<|LH.ae R (kE R zQ)<|LH.ae R (sN<|mw (args:=[]) (ml:=[]) (eD:=[(14501,.map 3 171 (mv LV.I ji mg))]) R XD R fF (YX (F:=F) (r:=mg) R) mN (MM R dO) R<|sN<|oA (v:=(.mp _)) R zQ)<|LH.seq<|LH.ae R (dC R<|sN<|bx (f:=bu.lv) my R<|aN R zQ)<|LH.block<|LH.wk ((Wk.trans (bQ [1,4,9,10,11,27,28,29] [104,811,812,14501])<|Wk.trans (Wk.wA (ig:=[(1,.I p1),(4,.ptr 104 0),(9,.ptr 811 0),(10,.arr 162 (List.length ([]:List gM))),(11,.mp 14501),(27,.lst 12 (r1.1.map bu.lv)),(28,.I (r1.1.length:Int)),(29,.I 0)]) 162 143 3 R R<|wK<|wK<|wK<|wO<|wK<|wK<|wK<|wK wN)<|bQ [1,4,9,10,11,27,28,29] [104,162,811,812,14501]))<|LH.bW (fun n e m=>∃ (n3:Int) (l4:List gM) (l5:List a8),rZ F p1 r1 n n3 l4 l5=some r∧e=Env.of [(1,.I p1),(4,.ptr 104 0),(9,.ptr 811 0),(10,.arr 162 l4.length),(11,.mp 14501),(27,.lst 12 (r1.1.map bu.lv)),(28,.I (r1.1.length:Int)),(29,.I n3)]∧m=Mem.of [(104,.box [.nil]),(162,.arr 143 3 (l4.map gM.lv)),(811,.box [.arr 812 l5.length]),(812,tN (l5.map a8.lv)),(14501,.map 3 171 (mv LV.I ji mg))]) F ⟨0,([]:List gM),([]:List a8),h,R,R⟩ ?_
  clear h
  rintro n e m ⟨n3,l4,l5,h,rfl,rfl⟩
  rcases n with _ | n
  · exact nX h
  obtain ⟨aE,aC⟩:∃ f,f=rZ F p1 r1 n:=⟨_,rfl⟩
  replace h:D3 F p1 r1 aE n3 l4 l5=some r:=aC ▸ h
  unfold D3 at h
  refine LH.ae R (sN<|dK R R zQ)<|LH.seq (LH.cd h R (fun lz h=>?_) fun lz h=>?_)
  ·refine LH.skip<|ag<|LH.seq<|LH.block ?_
   obtain ⟨x7,yP,h⟩:=aa h
   refine LH.cM R (sN<|dJ (f:=bu.lv) my fL eT R R bu.ok yP R<|sN<|a7 R fL lO eT R R<|sN<|ib (id:=113) R xF R R<|s_<|cN R R R fL eT R R R<|s0<|Wk.trans (bQ [1,4,9,10,11,13,27,28,29] [104,113,162,811,812,14501])<|Wk.dz 113 (bu.lv x7).cells R R R<|cv R)<|LH.seq<|LH.ae R (sN<|av ej dw du R R R<|sN<|av mz aw aL R R R<|sN<|aS R aw br<|aN R<|sN<|hJ R R zQ) (LH.cd h R (fun oF h=>?_) fun oF h=>?_)
   ·refine LH.exit<|bB<|Fk R<|bB<|bc<|aZ<|ag<|LH.wk ((Wk.trans (bQ [4,9,10] [104,162,811,812])<|Wk.trans (Wk.mZ (f:=gM.lv) (ig:=[(4,.ptr 104 0),(9,.ptr 811 0),(10,.lst 3 (l4.map gM.lv))]) 162 143 3 l4 R R (cv R)<|fK R<|fK R<|fZ fN)<|bQ [4,9,10] [104,811,812]))<|LH.cM R (cH.wk (bQ [4,9,10] [104,811,812])<|cH.wk (Wk.trans (Wk.trans (Wk.NW (f:=a8.lv) 812 179 5 [(1,108,5),(2,4,1),(3,182,3)] l5 R a8.ok)<|bQ [4,9,10] [104,811,812])<|Wk.trans (Wk.cL (f:=a8.lv) 812 179 5 l5 811 R R R (dW dV) R R<|cv R)<|bQ [4,9,10] [104,811])<|sN<|wq R R R lD sm lE R R<|dC R<|s_<|cN R R R lD lE R R R<|qV R<|aX R<|s0<|zB [4,5,6] [104] 104 R)<|LH.ret ?_
    obtain rfl:=oI h
    exact bL (aT Tryz.results63)<|eE R lD sm lE R R<|dx R<|dx R<|dN lY
   refine LH.skip<|ag<|LH.ae R (aX R zQ)<|LH.seq ?_
   by_cases Vf:(x7.Kind == 1)=true
   ·replace h:=bO h Vf
    refine LH.ae R (sN<|oM (v:=(.mp _)) R<|sN<|av fv aw aL R R R<|sN<|aS R aw br<|sX ((k8 (f:=LV.I) (g:=ji) (xs:=mg) (key:=1) (z:=0) (o:=some 1) nw oL Bp R R (congrArg LV.I<|eq_of_beq Vf) xI R).ok)<|sG R<|sN<|gj R R<|sN<|gj R R<|sN<|oA (v:=(.fn _ _)) R<|bK R zQ)<|LH.ae R (bS R zQ)<|LH.cond (t:=true) R (fun jf=>?_) (fun jf=>?_)
    ·obtain ⟨dS,j5,h⟩:=aa h
     refine LH.aJ R (sN<|oM (v:=(.fn _ _)) R<|sN<|a7 R fL lO eT R R<|sN<|mw (args:=[.ptr 811 0,bu.lv x7]) (ml:=[(811,.box [.arr 812 l5.length]),(812,tN (l5.map a8.lv))]) (eD:=[(811,.box [.arr 812 dS.2.ab.length]),(812,tN (dS.2.ab.map a8.lv))]) R TE R (bZ<|bZ fF) (Y6 j5) ⟨R,R,trivial⟩ (bT R<|bT R dO) R<|aX R zQ)<|ag<|LH.ae R (aN R<|sN<|iR R R zQ) (LH.cd h R (fun jt h=>?_) fun jt h=>?_)
     ·obtain ⟨Kn,S3,h⟩:=aa h
      refine LH.aJ R (lh R<|sN<|av ej dw du R R R<|sN<|av ia aw aL R R R<|sN<|aS R aw br<|sN<|av ej dw du R R R<|sN<|av gH aw aL R R R<|sN<|aS R aw br<|sN<|hD (vs:=[(0,.I x7.ai.Source),(1,.I x7.ai.Seq)]) xD xG R (lf nU aL aw R R R<|lf nV aL aw R R R gZ)<|aN R<|sN<|hD (vs:=[(0,.agg [.I x7.ai.Source,.I x7.ai.Seq]),(1,.I dS.1)]) xE xH R (lf nW xz xy R R R<|lf nY Ha G9 R R R gZ)<|sN<|ic (f:=gM.lv) (ys:=[(gM.mk (xX.mk x7.ai.Source x7.ai.Seq) dS.1)]) sr lV lW R R R gM.ok<|sN<|oN (f:=gM.lv) sr lV lW R R (cv R) R S3<|sE R zQ)<|aB<|ag<|LH.aJ R (sN<|bw R R<|aN R zQ) ?_
      exact aM ⟨(i64 (n3+1)),Kn,dS.2.ab,aC ▸ h,R,R⟩<|Wk.eq R R R R
     refine LH.skip<|aB<|ag<|LH.aJ R (sN<|bw R R<|aN R zQ) ?_
     exact aM ⟨(i64 (n3+1)),l4,dS.2.ab,aC ▸ h,R,R⟩<|Wk.eq R R R R
    ·cases jf
   replace Vf:=bF Vf
   replace h:=bN h Vf
   by_cases I7:(x7.Kind == 2)=true
   ·replace h:=bO h I7
    refine LH.ae R (sN<|oM (v:=(.mp _)) R<|sN<|av fv aw aL R R R<|sN<|aS R aw br<|sX ((k8 (f:=LV.I) (g:=ji) (xs:=mg) (key:=2) (z:=0) (o:=some 2) nw oL Bp R R (congrArg LV.I<|eq_of_beq I7) xI R).ok)<|sG R<|sN<|gj R R<|sN<|gj R R<|sN<|oA (v:=(.fn _ _)) R<|bK R zQ)<|LH.ae R (bS R zQ)<|LH.cond (t:=true) R (fun qd=>?_) (fun qd=>?_)
    ·obtain ⟨gV,vU,h⟩:=aa h
     refine LH.aJ R (sN<|oM (v:=(.fn _ _)) R<|sN<|a7 R fL lO eT R R<|sN<|mw (args:=[.ptr 811 0,bu.lv x7]) (ml:=[(811,.box [.arr 812 l5.length]),(812,tN (l5.map a8.lv))]) (eD:=[(811,.box [.arr 812 gV.2.ab.length]),(812,tN (gV.2.ab.map a8.lv))]) R TF R (bZ<|bZ fF) (Y4 vU) ⟨R,R,trivial⟩ (bT R<|bT R dO) R<|aX R zQ)<|ag<|LH.ae R (aN R<|sN<|iR R R zQ) (LH.cd h R (fun Fz h=>?_) fun Fz h=>?_)
     ·obtain ⟨P7,S4,h⟩:=aa h
      refine LH.aJ R (lh R<|sN<|av ej dw du R R R<|sN<|av ia aw aL R R R<|sN<|aS R aw br<|sN<|av ej dw du R R R<|sN<|av gH aw aL R R R<|sN<|aS R aw br<|sN<|hD (vs:=[(0,.I x7.ai.Source),(1,.I x7.ai.Seq)]) xD xG R (lf nU aL aw R R R<|lf nV aL aw R R R gZ)<|aN R<|sN<|hD (vs:=[(0,.agg [.I x7.ai.Source,.I x7.ai.Seq]),(1,.I gV.1)]) xE xH R (lf nW xz xy R R R<|lf nY Ha G9 R R R gZ)<|sN<|ic (f:=gM.lv) (ys:=[(gM.mk (xX.mk x7.ai.Source x7.ai.Seq) gV.1)]) sr lV lW R R R gM.ok<|sN<|oN (f:=gM.lv) sr lV lW R R (cv R) R S4<|sE R zQ)<|aB<|ag<|LH.aJ R (sN<|bw R R<|aN R zQ) ?_
      exact aM ⟨(i64 (n3+1)),P7,gV.2.ab,aC ▸ h,R,R⟩<|Wk.eq R R R R
     refine LH.skip<|aB<|ag<|LH.aJ R (sN<|bw R R<|aN R zQ) ?_
     exact aM ⟨(i64 (n3+1)),l4,gV.2.ab,aC ▸ h,R,R⟩<|Wk.eq R R R R
    ·cases qd
   replace I7:=bF I7
   replace h:=bN h I7
   by_cases I8:(x7.Kind == 3)=true
   ·replace h:=bO h I8
    refine LH.ae R (sN<|oM (v:=(.mp _)) R<|sN<|av fv aw aL R R R<|sN<|aS R aw br<|sX ((k8 (f:=LV.I) (g:=ji) (xs:=mg) (key:=3) (z:=0) (o:=some 3) nw oL Bp R R (congrArg LV.I<|eq_of_beq I8) xI R).ok)<|sG R<|sN<|gj R R<|sN<|gj R R<|sN<|oA (v:=(.fn _ _)) R<|bK R zQ)<|LH.ae R (bS R zQ)<|LH.cond (t:=true) R (fun qe=>?_) (fun qe=>?_)
    ·obtain ⟨nA,FM,h⟩:=aa h
     refine LH.aJ R (sN<|oM (v:=(.fn _ _)) R<|sN<|a7 R fL lO eT R R<|sN<|mw (args:=[.ptr 811 0,bu.lv x7]) (ml:=[(811,.box [.arr 812 l5.length]),(812,tN (l5.map a8.lv))]) (eD:=[(811,.box [.arr 812 nA.2.ab.length]),(812,tN (nA.2.ab.map a8.lv))]) R TG R (bZ<|bZ fF) (Y0 FM) ⟨R,R,trivial⟩ (bT R<|bT R dO) R<|aX R zQ)<|ag<|LH.ae R (aN R<|sN<|iR R R zQ) (LH.cd h R (fun As h=>?_) fun As h=>?_)
     ·obtain ⟨v23,L2,h⟩:=aa h
      refine LH.aJ R (lh R<|sN<|av ej dw du R R R<|sN<|av ia aw aL R R R<|sN<|aS R aw br<|sN<|av ej dw du R R R<|sN<|av gH aw aL R R R<|sN<|aS R aw br<|sN<|hD (vs:=[(0,.I x7.ai.Source),(1,.I x7.ai.Seq)]) xD xG R (lf nU aL aw R R R<|lf nV aL aw R R R gZ)<|aN R<|sN<|hD (vs:=[(0,.agg [.I x7.ai.Source,.I x7.ai.Seq]),(1,.I nA.1)]) xE xH R (lf nW xz xy R R R<|lf nY Ha G9 R R R gZ)<|sN<|ic (f:=gM.lv) (ys:=[(gM.mk (xX.mk x7.ai.Source x7.ai.Seq) nA.1)]) sr lV lW R R R gM.ok<|sN<|oN (f:=gM.lv) sr lV lW R R (cv R) R L2<|sE R zQ)<|aB<|ag<|LH.aJ R (sN<|bw R R<|aN R zQ) ?_
      exact aM ⟨(i64 (n3+1)),v23,nA.2.ab,aC ▸ h,R,R⟩<|Wk.eq R R R R
     refine LH.skip<|aB<|ag<|LH.aJ R (sN<|bw R R<|aN R zQ) ?_
     exact aM ⟨(i64 (n3+1)),l4,nA.2.ab,aC ▸ h,R,R⟩<|Wk.eq R R R R
    ·cases qe
   replace I8:=bF I8
   replace h:=bN h I8
   by_cases I9:(x7.Kind == 4)=true
   ·replace h:=bO h I9
    refine LH.ae R (sN<|oM (v:=(.mp _)) R<|sN<|av fv aw aL R R R<|sN<|aS R aw br<|sX ((k8 (f:=LV.I) (g:=ji) (xs:=mg) (key:=4) (z:=0) (o:=some 4) nw oL Bp R R (congrArg LV.I<|eq_of_beq I9) xI R).ok)<|sG R<|sN<|gj R R<|sN<|gj R R<|sN<|oA (v:=(.fn _ _)) R<|bK R zQ)<|LH.ae R (bS R zQ)<|LH.cond (t:=true) R (fun V4=>?_) (fun V4=>?_)
    ·obtain ⟨En,LO,h⟩:=aa h
     refine LH.aJ R (sN<|oM (v:=(.fn _ _)) R<|sN<|a7 R fL lO eT R R<|sN<|mw (args:=[.ptr 811 0,bu.lv x7]) (ml:=[(811,.box [.arr 812 l5.length]),(812,tN (l5.map a8.lv))]) (eD:=[(811,.box [.arr 812 En.2.ab.length]),(812,tN (En.2.ab.map a8.lv))]) R TH R (bZ<|bZ fF) (Zc LO) ⟨R,R,trivial⟩ (bT R<|bT R dO) R<|aX R zQ)<|ag<|LH.ae R (aN R<|sN<|iR R R zQ) (LH.cd h R (fun Sm h=>?_) fun Sm h=>?_)
     ·obtain ⟨v28,acB,h⟩:=aa h
      refine LH.aJ R (lh R<|sN<|av ej dw du R R R<|sN<|av ia aw aL R R R<|sN<|aS R aw br<|sN<|av ej dw du R R R<|sN<|av gH aw aL R R R<|sN<|aS R aw br<|sN<|hD (vs:=[(0,.I x7.ai.Source),(1,.I x7.ai.Seq)]) xD xG R (lf nU aL aw R R R<|lf nV aL aw R R R gZ)<|aN R<|sN<|hD (vs:=[(0,.agg [.I x7.ai.Source,.I x7.ai.Seq]),(1,.I En.1)]) xE xH R (lf nW xz xy R R R<|lf nY Ha G9 R R R gZ)<|sN<|ic (f:=gM.lv) (ys:=[(gM.mk (xX.mk x7.ai.Source x7.ai.Seq) En.1)]) sr lV lW R R R gM.ok<|sN<|oN (f:=gM.lv) sr lV lW R R (cv R) R acB<|sE R zQ)<|aB<|ag<|LH.aJ R (sN<|bw R R<|aN R zQ) ?_
      exact aM ⟨(i64 (n3+1)),v28,En.2.ab,aC ▸ h,R,R⟩<|Wk.eq R R R R
     refine LH.skip<|aB<|ag<|LH.aJ R (sN<|bw R R<|aN R zQ) ?_
     exact aM ⟨(i64 (n3+1)),l4,En.2.ab,aC ▸ h,R,R⟩<|Wk.eq R R R R
    ·cases V4
   replace I9:=bF I9
   replace h:=bN h I9
   by_cases Ja:(x7.Kind == 5)=true
   ·replace h:=bO h Ja
    refine LH.ae R (sN<|oM (v:=(.mp _)) R<|sN<|av fv aw aL R R R<|sN<|aS R aw br<|sX ((k8 (f:=LV.I) (g:=ji) (xs:=mg) (key:=5) (z:=0) (o:=some 5) nw oL Bp R R (congrArg LV.I<|eq_of_beq Ja) xI R).ok)<|sG R<|sN<|gj R R<|sN<|gj R R<|sN<|oA (v:=(.fn _ _)) R<|bK R zQ)<|LH.ae R (bS R zQ)<|LH.cond (t:=true) R (fun rE=>?_) (fun rE=>?_)
    ·obtain ⟨jV,AE,h⟩:=aa h
     refine LH.aJ R (sN<|oM (v:=(.fn _ _)) R<|sN<|a7 R fL lO eT R R<|sN<|mw (args:=[.ptr 811 0,bu.lv x7,.sptr [.bool true]]) (ml:=[(811,.box [.arr 812 l5.length]),(812,tN (l5.map a8.lv))]) (eD:=[(811,.box [.arr 812 jV.2.ab.length]),(812,tN (jV.2.ab.map a8.lv))]) R Mr R (bZ<|bZ<|bZ fF) (Q4 AE) ⟨R,R,trivial⟩ (bT R<|bT R dO) R<|aX R zQ)<|ag<|LH.ae R (aN R<|sN<|iR R R zQ) (LH.cd h R (fun Au h=>?_) fun Au h=>?_)
     ·obtain ⟨v33,S7,h⟩:=aa h
      refine LH.aJ R (lh R<|sN<|av ej dw du R R R<|sN<|av ia aw aL R R R<|sN<|aS R aw br<|sN<|av ej dw du R R R<|sN<|av gH aw aL R R R<|sN<|aS R aw br<|sN<|hD (vs:=[(0,.I x7.ai.Source),(1,.I x7.ai.Seq)]) xD xG R (lf nU aL aw R R R<|lf nV aL aw R R R gZ)<|aN R<|sN<|hD (vs:=[(0,.agg [.I x7.ai.Source,.I x7.ai.Seq]),(1,.I jV.1)]) xE xH R (lf nW xz xy R R R<|lf nY Ha G9 R R R gZ)<|sN<|ic (f:=gM.lv) (ys:=[(gM.mk (xX.mk x7.ai.Source x7.ai.Seq) jV.1)]) sr lV lW R R R gM.ok<|sN<|oN (f:=gM.lv) sr lV lW R R (cv R) R S7<|sE R zQ)<|aB<|ag<|LH.aJ R (sN<|bw R R<|aN R zQ) ?_
      exact aM ⟨(i64 (n3+1)),v33,jV.2.ab,aC ▸ h,R,R⟩<|Wk.eq R R R R
     refine LH.skip<|aB<|ag<|LH.aJ R (sN<|bw R R<|aN R zQ) ?_
     exact aM ⟨(i64 (n3+1)),l4,jV.2.ab,aC ▸ h,R,R⟩<|Wk.eq R R R R
    ·cases rE
   replace Ja:=bF Ja
   replace h:=bN h Ja
   by_cases Jb:(x7.Kind == 6)=true
   ·replace h:=bO h Jb
    refine LH.ae R (sN<|oM (v:=(.mp _)) R<|sN<|av fv aw aL R R R<|sN<|aS R aw br<|sX ((k8 (f:=LV.I) (g:=ji) (xs:=mg) (key:=6) (z:=0) (o:=some 6) nw oL Bp R R (congrArg LV.I<|eq_of_beq Jb) xI R).ok)<|sG R<|sN<|gj R R<|sN<|gj R R<|sN<|oA (v:=(.fn _ _)) R<|bK R zQ)<|LH.ae R (bS R zQ)<|LH.cond (t:=true) R (fun V5=>?_) (fun V5=>?_)
    ·obtain ⟨Eo,SN,h⟩:=aa h
     refine LH.aJ R (sN<|oM (v:=(.fn _ _)) R<|sN<|a7 R fL lO eT R R<|sN<|mw (args:=[.ptr 811 0,bu.lv x7,.sptr [.bool false]]) (ml:=[(811,.box [.arr 812 l5.length]),(812,tN (l5.map a8.lv))]) (eD:=[(811,.box [.arr 812 Eo.2.ab.length]),(812,tN (Eo.2.ab.map a8.lv))]) R Mr R (bZ<|bZ<|bZ fF) (Q4 SN) ⟨R,R,trivial⟩ (bT R<|bT R dO) R<|aX R zQ)<|ag<|LH.ae R (aN R<|sN<|iR R R zQ) (LH.cd h R (fun Sn h=>?_) fun Sn h=>?_)
     ·obtain ⟨v38,acE,h⟩:=aa h
      refine LH.aJ R (lh R<|sN<|av ej dw du R R R<|sN<|av ia aw aL R R R<|sN<|aS R aw br<|sN<|av ej dw du R R R<|sN<|av gH aw aL R R R<|sN<|aS R aw br<|sN<|hD (vs:=[(0,.I x7.ai.Source),(1,.I x7.ai.Seq)]) xD xG R (lf nU aL aw R R R<|lf nV aL aw R R R gZ)<|aN R<|sN<|hD (vs:=[(0,.agg [.I x7.ai.Source,.I x7.ai.Seq]),(1,.I Eo.1)]) xE xH R (lf nW xz xy R R R<|lf nY Ha G9 R R R gZ)<|sN<|ic (f:=gM.lv) (ys:=[(gM.mk (xX.mk x7.ai.Source x7.ai.Seq) Eo.1)]) sr lV lW R R R gM.ok<|sN<|oN (f:=gM.lv) sr lV lW R R (cv R) R acE<|sE R zQ)<|aB<|ag<|LH.aJ R (sN<|bw R R<|aN R zQ) ?_
      exact aM ⟨(i64 (n3+1)),v38,Eo.2.ab,aC ▸ h,R,R⟩<|Wk.eq R R R R
     refine LH.skip<|aB<|ag<|LH.aJ R (sN<|bw R R<|aN R zQ) ?_
     exact aM ⟨(i64 (n3+1)),l4,Eo.2.ab,aC ▸ h,R,R⟩<|Wk.eq R R R R
    ·cases V5
   replace Jb:=bF Jb
   replace h:=bN h Jb
   refine LH.ae R (sN<|oM (v:=(.mp _)) R<|sN<|av fv aw aL R R R<|sN<|aS R aw br<|sX ((k8 (f:=LV.I) (g:=ji) (xs:=mg) (key:=x7.Kind) (z:=0) (o:=none) nw oL Bp R R R xI<|Vo Vf<|Vo I7<|Vo I8<|Vo I9<|Vo Ja<|Vo Jb R).ok)<|sG R<|sN<|gj R R<|sN<|gj R R<|sN<|oA (v:=.nilf) R<|bK R zQ)<|LH.ae R (bS R zQ)<|LH.cond (t:=false) R (fun I1=>?_) (fun I1=>?_)
   ·cases I1
   refine LH.skip<|ag<|LH.ae R (aN R<|sN<|iR R R zQ) (LH.cd h R (fun Lk h=>?_) fun Lk h=>?_)
   ·obtain ⟨v41,L3,h⟩:=aa h
    refine LH.aJ R (lh R<|sN<|av ej dw du R R R<|sN<|av ia aw aL R R R<|sN<|aS R aw br<|sN<|av ej dw du R R R<|sN<|av gH aw aL R R R<|sN<|aS R aw br<|sN<|hD (vs:=[(0,.I x7.ai.Source),(1,.I x7.ai.Seq)]) xD xG R (lf nU aL aw R R R<|lf nV aL aw R R R gZ)<|aN R<|sN<|hD (vs:=[(0,.agg [.I x7.ai.Source,.I x7.ai.Seq]),(1,.I 2)]) xE xH R (lf nW xz xy R R R<|lf nY Ha G9 R R R gZ)<|sN<|ic (f:=gM.lv) (ys:=[(gM.mk (xX.mk x7.ai.Source x7.ai.Seq) 2)]) sr lV lW R R R gM.ok<|sN<|oN (f:=gM.lv) sr lV lW R R (cv R) R L3<|sE R zQ)<|aB<|ag<|LH.aJ R (sN<|bw R R<|aN R zQ) ?_
    exact aM ⟨(i64 (n3+1)),v41,l5,aC ▸ h,R,R⟩<|Wk.eq R R R R
   refine LH.skip<|aB<|ag<|LH.aJ R (sN<|bw R R<|aN R zQ) ?_
   exact aM ⟨(i64 (n3+1)),l4,l5,aC ▸ h,R,R⟩<|Wk.eq R R R R
  refine LH.exit<|bB<|bc<|aZ<|ag<|LH.wk ((Wk.trans (bQ [4,9,10] [104,162,811,812])<|Wk.trans (Wk.mZ (f:=gM.lv) (ig:=[(4,.ptr 104 0),(9,.ptr 811 0),(10,.lst 3 (l4.map gM.lv))]) 162 143 3 l4 R R (cv R)<|fK R<|fK R<|fZ fN)<|bQ [4,9,10] [104,811,812]))<|LH.cM R (cH.wk (bQ [4,9,10] [104,811,812])<|cH.wk (Wk.trans (Wk.trans (Wk.NW (f:=a8.lv) 812 179 5 [(1,108,5),(2,4,1),(3,182,3)] l5 R a8.ok)<|bQ [4,9,10] [104,811,812])<|Wk.trans (Wk.cL (f:=a8.lv) 812 179 5 l5 811 R R R (dW dV) R R<|cv R)<|bQ [4,9,10] [104,811])<|sN<|wq R R R lD sm lE R R<|dC R<|s_<|cN R R R lD lE R R R<|qV R<|aX R<|s0<|zB [4,5,6] [104] 104 R)<|LH.ret ?_
  obtain rfl:=oI h
  exact bL (aT Tryz.results63)<|eE R lD sm lE R R<|dx R<|dx R<|dN lY
theorem Rf {F:Nat} {p0:a8} {r:Bool} (h:zj F p0=some r):aF Tryz.prog 140 [a8.lv p0] (Mem.of []) (.bool r) (Mem.of []):=by
  unfold zj at h
  refine aW Tryz.func140 R (nT Tryz.ntmps140 R)<|LH.ae R (sB<|da R R R R<|bK R zQ)<|LH.seq<|LH.dF [1] 31 ((decide ((p0.ak.length:Int)<1)) || ((decide ((p0.ak.length:Int) > 8)) || (((p0.au.length:Int) != (p0.ak.length:Int)) || (decide ((p0.Uses.length:Int) > 300))))) [] R ?_ ?_
  ·refine sN<|av ix lr tz R R R<|sN<|aS R lr yB<|sN<|bx (f:=ah.lv) fA R<|sN<|dK R R<|bS R ?_
   by_cases hb2:(decide ((p0.ak.length:Int)<1))=true
   ·exact bl hb2<|bl hb2<|bl hb2<|bl hb2<|sN<|df hb2 R<|bS R<|sK<|sN<|df R R<|bS R<|sK<|sN<|df R R<|s0<|Wk.to (eC R<|eC (cB<|wz hb2) eN) mN R<|cF R
   ·replace hb2:=bF hb2
    refine aK hb2<|av ix lr tz R R R<|aK hb2<|aS R lr yB<|aK hb2<|bx (f:=ah.lv) fA R<|aK hb2<|hJ R R<|sN<|bY hb2 R<|bS R ?_
    by_cases hb3:(decide ((p0.ak.length:Int) > 8))=true
    ·exact bl hb3<|bl hb3<|bl hb3<|bl hb3<|bl hb3<|bl hb3<|bl hb3<|sN<|df hb3 R<|bS R<|sK<|sN<|df R R<|s0<|Wk.to (eC R<|eC (cB<|Eq.trans (wz hb3)<|kR hb2) eN) mN R<|cF R
    ·replace hb3:=bF hb3
     refine aK hb3<|av kH gI pD R R R<|aK hb3<|aS R gI ow<|aK hb3<|bx (f:=LV.bool) ll R<|aK hb3<|av ix lr tz R R R<|aK hb3<|aS R lr yB<|aK hb3<|bx (f:=ah.lv) fA R<|aK hb3<|iR R R<|sN<|bY hb3 R<|bS R ?_
     by_cases bP:((p0.au.length:Int) != (p0.ak.length:Int))=true
     ·exact bl bP<|bl bP<|bl bP<|bl bP<|sN<|df bP R<|s0<|Wk.to (eC R<|eC (cB<|Eq.trans (Eq.trans (wz bP)<|kR hb3)<|kR hb2) eN) mN R<|cF R
     ·replace bP:=bF bP
      exact aK bP<|av lS kq sy R R R<|aK bP<|aS R kq xr<|aK bP<|bx (f:=bH.lv) sq R<|aK bP<|hJ R R<|sN<|bY bP R<|s0<|Wk.to (eC R<|eC (cB<|Eq.trans (Eq.trans (kR bP)<|kR hb3)<|kR hb2) eN) mN R<|cF R
  refine LH.cd h R (fun oV h=>?_) fun oV h=>?_
  ·refine LH.ae R (bK R zQ)<|LH.ret<|aA ?_
   obtain rfl:=oI h
   exact ba<|aT Tryz.results140
  refine LH.skip<|ag<|LH.seq<|LH.ae R (sN<|av ix lr tz R R R<|sN<|aS R lr yB<|sN<|bx (f:=ah.lv) fA R<|aN R zQ)<|LH.block<|LH.bW (fun n e m=>∃ (n6:Int),zb F p0 n n6=some r∧e=Env.of [(1,.sptr (a8.lv p0).cells),(33,.lst 5 (p0.ak.map ah.lv)),(34,.I (p0.ak.length:Int)),(35,.I n6)]∧m=Mem.of []) F ⟨0,h,R,R⟩ ?_
  clear h
  rintro n e m ⟨n6,h,rfl,rfl⟩
  rcases n with _ | n
  · exact nX h
  obtain ⟨aE,aC⟩:∃ f,f=zb F p0 n:=⟨_,rfl⟩
  replace h:C1 F p0 aE n6=some r:=aC ▸ h
  unfold C1 at h
  refine LH.ae R (sN<|dK R R zQ)<|LH.seq (LH.cd h R (fun xS h=>?_) fun xS h=>?_)
  ·refine LH.skip<|ag<|LH.seq<|LH.block ?_
   obtain ⟨x8,Ck,h⟩:=aa h
   refine LH.cM R (aN R<|sN<|dJ (f:=ah.lv) fA bm bk R R ah.ok Ck R<|sN<|a7 R bm dn bk R R<|sN<|ib (id:=104) R lX R R<|aX R<|s_<|cN R R R bm bk R R R<|s0<|Wk.trans (bQ [1,3,4,33,34,35] [104])<|Wk.dz 104 (ah.lv x8).cells R R R<|cv R) ?_
   obtain ⟨UU,hv,h⟩:=aa h
   refine LH.dF [1,33,34,35] 56 UU [] R ?_ ?_
   ·refine sN<|a7 R bm dn bk R R ?_
    obtain ⟨dS,j5,hv⟩:=aa hv
    refine sN<|dh tM (tS j5)<|sN<|iR R R<|bS R ?_
    by_cases cY:(dS != 0)=true
    ·obtain rfl:=oI (bO hv cY)
     rw [cY]; exact zA
    ·replace cY:=bF cY
     replace hv:=bN hv cY
     refine aK cY<|av ei aw aL R R R<|aK cY<|aS R aw br<|aK cY<|av nZ aw aL R R R<|aK cY<|aS R aw br<|aK cY<|iR R R<|sN<|bY cY R<|bS R ?_
     by_cases dq:(x8.ID != p0.ID)=true
     ·obtain rfl:=oI (bO hv dq)
      rw [dq]; exact zA
     ·replace dq:=bF dq
      replace hv:=bN hv dq
      refine aK dq<|av gR aw aL R R R<|aK dq<|aS R aw br<|aK dq<|oM (v:=(.int _ _)) R<|aK dq<|bw R R<|aK dq<|iR R R<|sN<|bY dq R ?_
      obtain rfl:=oI hv
      exact zS
   clear hv
   refine LH.cd h R (fun sV h=>?_) fun sV h=>?_
   ·refine LH.ae R (bK R zQ)<|LH.ret<|aU<|aA<|cc<|aU<|aA ?_
    obtain rfl:=oI h
    exact ba<|aT Tryz.results140
   refine LH.skip<|aB<|ag<|LH.aJ R (sN<|bw R R<|aN R zQ) ?_
   exact aM ⟨(i64 (n6+1)),aC ▸ h,R,R⟩<|Wk.eq R R R R
  refine LH.exit<|bB<|bc<|aZ<|ag<|LH.seq<|LH.ae R (sN<|av lS kq sy R R R<|sN<|aS R kq xr<|sN<|bx (f:=bH.lv) sq R<|aN R zQ)<|LH.block<|LH.bW (fun n e m=>∃ (n15:Int),GC p0 n n15=some r∧e=Env.of [(1,.sptr (a8.lv p0).cells),(59,.lst 3 (p0.Uses.map bH.lv)),(60,.I (p0.Uses.length:Int)),(61,.I n15)]∧m=Mem.of []) F ⟨0,h,R,R⟩ ?_
  clear h
  rintro n e m ⟨n15,h,rfl,rfl⟩
  rcases n with _ | n
  · exact nX h
  obtain ⟨dU,dR⟩:∃ f,f=GC p0 n:=⟨_,rfl⟩
  replace h:C2 p0 dU n15=some r:=dR ▸ h
  unfold C2 at h
  refine LH.ae R (sN<|dK R R zQ)<|LH.seq (LH.cd h R (fun o8 h=>?_) fun o8 h=>?_)
  ·refine LH.skip<|ag<|LH.seq<|LH.block ?_
   obtain ⟨jn,oK,h⟩:=aa h
   refine LH.cM R (sN<|dJ (f:=bH.lv) sq EN xB R R bH.ok oK R<|sN<|a7 R EN RD xB R R<|sN<|ib (id:=106) R RO R R<|s_<|cN R R R EN xB R R R<|s0<|zB [1,6,59,60,61] [106] 106 R)<|LH.dF [1,59,60,61] 75 ((decide (jn.Version<1)) || (decide (jn.Version > (p0.ak.length:Int)))) [] R ?_ ?_
   ·refine sN<|av A9 aw aL R R R<|sN<|aS R aw br<|sN<|dK R R<|bS R ?_
    generalize (decide (jn.Version<1))=uk; cases uk
    ·exact sT R R<|av A9 aw aL R R R<|sT R R<|aS R aw br<|sT R R<|av ix lr tz R R R<|sT R R<|aS R lr yB<|sT R R<|bx (f:=ah.lv) fA R<|sT R R<|hJ R R<|sN<|bY R R zS
    ·exact sK<|sN<|df R R zS
   refine LH.cd h R (fun qe h=>?_) fun qe h=>?_
   ·refine LH.ae R (bK R zQ)<|LH.ret<|aU<|aA<|cc<|aU<|aA ?_
    obtain rfl:=oI h
    exact ba<|aT Tryz.results140
   refine LH.skip<|aB<|ag<|LH.aJ R (sN<|bw R R<|aN R zQ) ?_
   exact aM ⟨(i64 (n15+1)),dR ▸ h,R,R⟩<|Wk.eq R R R R
  refine LH.exit<|bB<|bc<|aZ<|ag<|LH.ae R (bK R zQ)<|LH.ret ?_
  obtain rfl:=oI h
  exact ba<|aT Tryz.results140
theorem Y8 {F:Nat} {p0:bV} {r:Bool} (h:Eg F p0=some r):aF Tryz.prog 74 [.agg [.lst 5 (p0.ab.map a8.lv)]] (Mem.of []) (.bool r) (Mem.of []):=by
  unfold Eg at h
  refine aW Tryz.func74 R (nT Tryz.ntmps74 R)<|LH.ae R (sB<|da R R R R<|bK R zQ)<|LH.seq<|LH.ae R (sN<|av mA nu xC R R R<|sN<|aS R nu A8<|sN<|bx (f:=a8.lv) ss R<|sN<|hJ R R zQ) (LH.cd h R (fun hc1 h=>?_) fun hc1 h=>?_)
  ·refine LH.ae R (bK R zQ)<|LH.ret<|aA ?_
   obtain rfl:=oI h
   exact ba<|aT Tryz.results74
  refine LH.skip<|ag<|LH.seq<|LH.ae R (sN<|av mA nu xC R R R<|sN<|aS R nu A8<|sN<|bx (f:=a8.lv) ss R<|aN R zQ)<|LH.block<|LH.bW (fun n e m=>∃ (n2:Int),zC F p0 n n2=some r∧e=Env.of [(1,.sptr [.lst 5 (p0.ab.map a8.lv)]),(10,.lst 5 (p0.ab.map a8.lv)),(11,.I (p0.ab.length:Int)),(12,.I n2)]∧m=Mem.of []) F ⟨0,h,R,R⟩ ?_
  clear h
  rintro n e m ⟨n2,h,rfl,rfl⟩
  rcases n with _ | n
  · exact nX h
  obtain ⟨aE,aC⟩:∃ f,f=zC F p0 n:=⟨_,rfl⟩
  replace h:DX F p0 aE n2=some r:=aC ▸ h
  unfold DX at h
  refine LH.ae R (sN<|dK R R zQ)<|LH.seq (LH.cd h R (fun mn h=>?_) fun mn h=>?_)
  ·refine LH.skip<|ag<|LH.seq<|LH.block ?_
   obtain ⟨x4,AG,h⟩:=aa h
   refine LH.cM R (aN R<|sN<|dJ (f:=a8.lv) ss jS jm R R a8.ok AG R<|sN<|a7 R jS xt jm R R<|sN<|ib (id:=104) R Iw R R<|aX R<|s_<|cN R R R jS jm R R R<|s0<|Wk.trans (bQ [1,3,4,10,11,12] [104])<|Wk.dz 104 (a8.lv x4).cells R R R<|cv R) ?_
   obtain ⟨w6,hv,h⟩:=aa h
   refine LH.eY mixed [] [0,0,0,0,0,0,0,0,0,0,0,0,0,0,0,0,0,0,0] [(1,.sptr [.lst 5 (p0.ab.map a8.lv)]),(10,.lst 5 (p0.ab.map a8.lv)),(11,.I (p0.ab.length:Int)),(12,.I n2),(35,.bool w6)] [] R R (by kernel_rfl) ?_ ?_
   ·refine gu R<|aI<|hJ R R ⟨R,qg R ?_⟩
    by_cases cg:(decide (n2 > 0))=true
    ·replace hv:=bO hv cg
     refine mT R (cB cg)<|aI<|av mA nu xC R R R ⟨R,mT R (cB cg)<|aI<|aS R nu A8 ⟨R,mT R (cB cg)<|gu R<|mT R (cB cg)<|aI<|j7 R R ⟨R,?_⟩⟩⟩
     obtain ⟨x8,Ck,hv⟩:=aa hv
     refine mT R (cB cg)<|aI<|dJ (f:=a8.lv) ss jS jm R R a8.ok Ck R ⟨R,mT R (cB cg)<|aI<|av nZ aw aL R R R ⟨R,mT R (cB cg)<|aI<|aS R aw br ⟨R,mT R (cB cg)<|aI<|av nZ aw aL R R R ⟨R,mT R (cB cg)<|aI<|aS R aw br ⟨R,mT R (cB cg)<|aI<|ot R R ⟨R,aI<|df cg R ⟨R,qg R ?_⟩⟩⟩⟩⟩⟩⟩
     by_cases c7:(decide (x8.ID ≥ x4.ID))=true
     ·replace hv:=bO hv c7
      refine cJ c7<|cJ c7<|cJ c7<|aI<|df c7 R ⟨R,?_⟩
      obtain rfl:=oI hv
      exact zM
     ·replace c7:=bF c7
      replace hv:=bN hv c7
      refine mT R (cB c7)<|aI<|a7 R jS xt jm R R ⟨R,?_⟩
      obtain ⟨fR,s7,hv⟩:=aa hv
      refine mT R (cB c7)<|aI<|dh Mf (Rf s7) ⟨R,mT R (cB c7)<|aI<|dB R ⟨R,aI<|bY c7 R ⟨R,?_⟩⟩⟩
      obtain rfl:=oI hv
      exact zM
    ·replace cg:=bF cg
     replace hv:=bN hv cg
     refine cJ cg<|cJ cg<|cJ cg<|cJ cg<|cJ cg<|cJ cg<|cJ cg<|cJ cg<|cJ cg<|cJ cg<|aI<|bY cg R ⟨R,qg R<|mT R R<|aI<|a7 R jS xt jm R R ⟨R,?_⟩⟩
     obtain ⟨dS,j5,hv⟩:=aa hv
     refine mT R R<|aI<|dh Mf (Rf j5) ⟨R,mT R R<|aI<|dB R ⟨R,aI<|bY R R ⟨R,?_⟩⟩⟩
     obtain rfl:=oI hv
     exact zM
   clear hv
   refine LH.cd h R (fun jt h=>?_) fun jt h=>?_
   ·refine LH.ae R (bK R zQ)<|LH.ret<|aU<|aA<|cc<|aU<|aA ?_
    obtain rfl:=oI h
    exact ba<|aT Tryz.results74
   refine LH.skip<|aB<|ag<|LH.aJ R (sN<|bw R R<|aN R zQ) ?_
   exact aM ⟨(i64 (n2+1)),aC ▸ h,R,R⟩<|Wk.eq R R R R
  refine LH.exit<|bB<|bc<|aZ<|ag<|LH.ae R (bK R zQ)<|LH.ret ?_
  obtain rfl:=oI h
  exact ba<|aT Tryz.results74
theorem YH {p0:bH} {c0:Int} {c1:Int} {r:Bool} (h:DW p0 c0 c1=some r):aF Tryz.prog 78 [.agg [.I p0.Version,.I p0.Form,.I p0.Time],.sptr [.I c0],.sptr [.I c1]] (Mem.of []) (.bool r) (Mem.of []):=by
  unfold DW at h
  refine aW Tryz.func78 R (nT Tryz.ntmps78 R)<|LH.ae R (sB<|da R R R R<|bK R zQ)<|LH.ae R (sN<|av Ir aw aL R R R<|sN<|aS R aw br<|sN<|aS R aw br<|sN<|aS R aw br<|sN<|j7 R R<|sN<|hJ R R<|bK R zQ)<|LH.ret ?_
  obtain rfl:=oI h
  exact ba<|aT Tryz.results78
theorem Rn {F:Nat} {p0:bV} {p1:Int} {p2:Int} {p3:Int} {r:List bD} (h:zy F p0 p1 p2 p3=some r):aF Tryz.prog 28 [.agg [.lst 5 (p0.ab.map a8.lv)],.I p1,.I p2,.I p3] (Mem.of []) (.lst 2 (r.map bD.lv)) (Mem.of []):=by
  unfold zy at h
  refine aW Tryz.func28 R (nT Tryz.ntmps28 R)<|LH.ae R (sB<|da R R R R<|sB<|da R R R R<|sB<|da R R R R<|kE R zQ)<|LH.seq ?_
  obtain ⟨w2,hv,h⟩:=aa h
  refine LH.dF [3,4,5,6] 35 w2 [] R ?_ ?_
  ·refine sN<|a7 R lD sm lE R R ?_
   obtain ⟨r3,hr3,hv⟩:=aa hv
   refine sN<|dh XC (Y8 hr3)<|sN<|dB R<|bS R ?_
   by_cases bP:(!r3)=true
   ·obtain rfl:=oI (bO hv bP)
    rw [bP]; exact zA
   ·replace bP:=bF bP
    replace hv:=bN hv bP
    refine aK bP<|aS R aw br<|aK bP<|dK R R<|sN<|bY bP R<|bS R ?_
    by_cases fz:(decide (p1<0))=true
    ·obtain rfl:=oI (bO hv fz)
     rw [fz]; exact zA
    ·replace fz:=bF fz
     replace hv:=bN hv fz
     refine aK fz<|aS R aw br<|aK fz<|hJ R R<|sN<|bY fz R<|bS R ?_
     by_cases bn:(decide (p1 > 1000000))=true
     ·obtain rfl:=oI (bO hv bn)
      rw [bn]; exact zA
     ·replace bn:=bF bn
      replace hv:=bN hv bn
      refine aK bn<|aS R aw br<|aK bn<|dK R R<|sN<|bY bn R<|bS R ?_
      by_cases cg:(decide (p2<0))=true
      ·obtain rfl:=oI (bO hv cg)
       rw [cg]; exact zA
      ·replace cg:=bF cg
       replace hv:=bN hv cg
       refine aK cg<|aS R aw br<|aK cg<|hJ R R<|sN<|bY cg R<|bS R ?_
       by_cases cu:(decide (p2 > 1000000))=true
       ·obtain rfl:=oI (bO hv cu)
        rw [cu]; exact zA
       ·replace cu:=bF cu
        replace hv:=bN hv cu
        refine aK cu<|oM (v:=(.int _ _)) R<|aK cu<|dK R R<|sN<|bY cu R ?_
        obtain rfl:=oI hv
        exact zS
  clear hv
  refine LH.cd h R (fun I2 h=>?_) fun I2 h=>?_
  ·refine LH.ae R (kE R zQ)<|LH.ret<|aA ?_
   obtain rfl:=oI h
   exact bL (aT Tryz.results28)<|dx R<|dN ⟨gP mN,R,cF R,Sub.nil⟩
  refine LH.skip<|ag<|LH.ae R (kE R zQ)<|LH.seq<|LH.ae R (sN<|av mA nu xC R R R<|sN<|aS R nu A8<|sN<|bx (f:=a8.lv) ss R<|aN R zQ)<|LH.block<|LH.wk ((Wk.trans (bQ [3,5,6,9,37,38,39] [])<|Wk.trans (Wk.wA (ig:=[(3,.I p3),(5,.sptr [.I p1]),(6,.sptr [.I p2]),(9,.arr 176 (List.length ([]:List bD))),(37,.lst 5 (p0.ab.map a8.lv)),(38,.I (p0.ab.length:Int)),(39,.I 0)]) 176 105 2 R R<|wK<|wK<|wK<|wO<|wK<|wK<|wK wN)<|bQ [3,5,6,9,37,38,39] [176]))<|LH.bW (fun n e m=>∃ (n10:Int) (fe:List bD),wV F p0 p1 p2 p3 n n10 fe=some r∧e=Env.of [(3,.I p3),(5,.sptr [.I p1]),(6,.sptr [.I p2]),(9,.arr 176 fe.length),(37,.lst 5 (p0.ab.map a8.lv)),(38,.I (p0.ab.length:Int)),(39,.I n10)]∧m=Mem.of [(176,.arr 105 2 (fe.map bD.lv))]) F ⟨0,([]:List bD),h,R,R⟩ ?_
  clear h
  rintro n e m ⟨n10,fe,h,rfl,rfl⟩
  rcases n with _ | n
  · exact nX h
  obtain ⟨aE,aC⟩:∃ f,f=wV F p0 p1 p2 p3 n:=⟨_,rfl⟩
  replace h:Dz F p0 p1 p2 p3 aE n10 fe=some r:=aC ▸ h
  unfold Dz at h
  refine LH.ae R (sN<|dK R R zQ)<|LH.seq (LH.cd h R (fun jt h=>?_) fun jt h=>?_)
  ·refine LH.skip<|ag<|LH.seq<|LH.block ?_
   obtain ⟨jc,qf,h⟩:=aa h
   refine LH.cM R (sN<|dJ (f:=a8.lv) ss jS jm R R a8.ok qf R<|sN<|a7 R jS xt jm R R<|sN<|ib (id:=111) R Iw R R<|s_<|cN R R R jS jm R R R<|s0<|Wk.trans (bQ [3,5,6,9,11,37,38,39] [111,176])<|Wk.dz 111 (a8.lv jc).cells R R R<|cv R)<|LH.seq<|LH.dF [3,5,6,9,11,37,38,39] 51 (jc.al || (decide ((jc.Uses.length:Int) > p3))) [176] R ?_ ?_
   ·refine sN<|av p4 jG oU R R R<|sN<|aS R jG yA<|bS R ?_
    generalize jc.al=cw; cases cw
    ·exact sT R R<|av lS kq sy R R R<|sT R R<|aS R kq xr<|sT R R<|bx (f:=bH.lv) sq R<|sT R R<|oM (v:=(.int _ _)) R<|sT R R<|hJ R R<|sN<|bY R R zS
    ·exact sK<|sN<|df R R zS
   refine LH.cd h R (fun o8 h=>?_) fun o8 h=>?_
   ·refine LH.exit<|bB<|aZ<|ag<|LH.aJ R (sN<|bw R R<|aN R zQ) ?_
    exact aM ⟨(i64 (n10+1)),fe,aC ▸ h,R,R⟩<|Wk.eq R R R R
   refine LH.skip<|ag<|LH.seq ?_
   obtain ⟨jk,AA,h⟩:=aa h
   refine LH.ae R (sN<|av lS kq sy R R R<|sN<|aS R kq xr<|sN<|Br (vs:=[.sptr [.I p1],.sptr [.I p2]]) R<|sN<|dh QR (Q0 (dQ:=78) (cW:=[.sptr [.I p1],.sptr [.I p2]]) XE R (fun _ _ h=>YH h) AA) zQ) (LH.cd h R (fun sW h=>?_) fun sW h=>?_)
   ·refine LH.exit<|bB<|aZ<|ag<|LH.aJ R (sN<|bw R R<|aN R zQ) ?_
    exact aM ⟨(i64 (n10+1)),fe,aC ▸ h,R,R⟩<|Wk.eq R R R R
   refine LH.skip<|ag<|LH.ae R (sN<|av kH gI pD R R R<|sN<|aS R gI ow<|sN<|bx (f:=LV.bool) ll R<|sN<|j7 R R<|aX R zQ)<|LH.block<|LH.bW (fun n e m=>∃ (n19:Int),wW aE n10 fe jc n n19=some r∧e=Env.of [(3,.I p3),(5,.sptr [.I p1]),(6,.sptr [.I p2]),(9,.arr 176 fe.length),(11,.sptr (a8.lv jc).cells),(12,.I n19),(37,.lst 5 (p0.ab.map a8.lv)),(38,.I (p0.ab.length:Int)),(39,.I n10)]∧m=Mem.of [(176,.arr 105 2 (fe.map bD.lv))]) F ⟨(i64 ((jc.au.length:Int) - 1)),h,R,R⟩ ?_
   clear h
   rintro n e m ⟨n19,h,rfl,rfl⟩
   rcases n with _ | n
   · exact nX h
   obtain ⟨dU,dR⟩:∃ f,f=wW aE n10 fe jc n:=⟨_,rfl⟩
   replace h:DA aE n10 fe jc dU n19=some r:=dR ▸ h
   unfold DA at h
   refine LH.seq<|LH.ae R (aN R<|sN<|ot R R zQ) (LH.cd h R (fun qe h=>?_) fun qe h=>?_)
   ·refine LH.skip<|ag<|LH.seq<|LH.block ?_
    obtain ⟨E7,L6,h⟩:=aa h
    refine LH.ae R (sN<|av kH gI pD R R R<|sN<|aS R gI ow<|aN R<|sN<|dJ (f:=LV.bool) ll jG oU R R okB L6 R<|sN<|aS R jG yA zQ) (LH.cd h R (fun As h=>?_) fun As h=>?_)
    ·obtain ⟨v23,L2,h⟩:=aa h
     refine LH.ae R (lh R<|sN<|av nZ aw aL R R R<|sN<|aS R aw br<|aN R<|sN<|bw R R<|sN<|hD (vs:=[(0,.I jc.ID),(1,.I (i64 (n19+1)))]) z6 z7 R (lf jE aL aw R R R<|lf fq aL aw R R R gZ)<|sN<|ic (f:=bD.lv) (ys:=[(bD.mk jc.ID<|i64 (n19+1))]) uG Is eM R R R bD.ok<|sN<|oN (f:=bD.lv) uG Is eM R R (cv R) R L2<|sE R zQ)<|LH.exit<|Fk R<|bB<|bc<|aZ<|aB<|ag<|LH.aJ R (sN<|bw R R<|aN R zQ) ?_
     exact aM ⟨(i64 (n10+1)),v23,aC ▸ h,R,R⟩<|Wk.eq R R R R
    refine LH.skip<|aB<|ag<|LH.aJ R (aN R<|sN<|j7 R R<|aX R zQ) ?_
    exact aM ⟨(i64 (n19 - 1)),dR ▸ h,R,R⟩<|Wk.eq R R R R
   refine LH.exit<|bB<|bc<|aZ<|aB<|ag<|LH.aJ R (sN<|bw R R<|aN R zQ) ?_
   exact aM ⟨(i64 (n10+1)),fe,aC ▸ h,R,R⟩<|Wk.eq R R R R
  refine LH.exit<|bB<|bc<|aZ<|ag<|LH.wk ((Wk.trans (bQ [9] [176])<|Wk.trans (Wk.mZ (f:=bD.lv) (ig:=[(9,.lst 2 (fe.map bD.lv))]) 176 105 2 fe R R (cv R)<|fZ fN)<|bQ [9] []))<|LH.ae R (dC R<|qV R zQ)<|LH.ret ?_
  obtain rfl:=oI h
  exact ba<|aT Tryz.results28
theorem Rq {F:Nat} {p0:bV} {p1:bD} {r:ah × Bool} (h:zF F p0 p1=some r):aF Tryz.prog 64 [.agg [.lst 5 (p0.ab.map a8.lv)],.agg [.I p1.ID,.I p1.Version]] (Mem.of []) (.tup [ah.lv r.1,.bool r.2]) (Mem.of []):=by
  unfold zF at h
  refine aW Tryz.func64 R (nT Tryz.ntmps64 R)<|LH.ae R (sB<|da R R R R<|sB<|da R R R R<|sN<|ib (id:=104) R lX R R<|bK R zQ)<|LH.seq<|LH.ae R (sN<|av mA nu xC R R R<|sN<|aS R nu A8<|sN<|bx (f:=a8.lv) ss R<|aN R zQ)<|LH.block<|LH.bW (fun n e m=>∃ (n1:Int),zn p0 p1 n n1=some r∧e=Env.of [(3,.sptr [.I p1.ID,.I p1.Version]),(4,.ptr 104 0),(9,.lst 5 (p0.ab.map a8.lv)),(10,.I (p0.ab.length:Int)),(11,.I n1)]∧m=Mem.of [(104,.box VB)]) F ⟨0,h,R,R⟩ ?_
  clear h
  rintro n e m ⟨n1,h,rfl,rfl⟩
  rcases n with _ | n
  · exact nX h
  obtain ⟨aE,aC⟩:∃ f,f=zn p0 p1 n:=⟨_,rfl⟩
  replace h:DI p0 p1 aE n1=some r:=aC ▸ h
  unfold DI at h
  refine LH.ae R (sN<|dK R R zQ)<|LH.seq (LH.cd h R (fun gK h=>?_) fun gK h=>?_)
  ·refine LH.skip<|ag<|LH.seq<|LH.block ?_
   obtain ⟨x3,fo,h⟩:=aa h
   refine LH.cM R (sN<|dJ (f:=a8.lv) ss jS jm R R a8.ok fo R<|sN<|a7 R jS xt jm R R<|sN<|ib (id:=107) R Iw R R<|s_<|cN R R R jS jm R R R<|s0<|Wk.trans (bQ [3,4,7,9,10,11] [104,107])<|Wk.dz 107 (a8.lv x3).cells R R R<|cv R)<|LH.seq<|LH.ae R (sN<|av nZ aw aL R R R<|sN<|aS R aw br<|sN<|av jE aw aL R R R<|sN<|aS R aw br<|sN<|iR R R zQ) (LH.cd h R (fun qE h=>?_) fun qE h=>?_)
   ·refine LH.exit<|bB<|aZ<|ag<|LH.aJ R (sN<|bw R R<|aN R zQ) ?_
    exact aM ⟨(i64 (n1+1)),aC ▸ h,R,R⟩<|Wk.eq R R R R
   refine LH.skip<|ag<|LH.seq<|LH.dF [3,4,7] 30 ((decide (p1.Version<1)) || (decide (p1.Version > (x3.ak.length:Int)))) [104] R ?_ ?_
   ·refine sN<|av fq aw aL R R R<|sN<|aS R aw br<|sN<|dK R R<|bS R ?_
    generalize (decide (p1.Version<1))=bn; cases bn
    ·exact sT R R<|av fq aw aL R R R<|sT R R<|aS R aw br<|sT R R<|av ix lr tz R R R<|sT R R<|aS R lr yB<|sT R R<|bx (f:=ah.lv) fA R<|sT R R<|hJ R R<|sN<|bY R R zS
    ·exact sK<|sN<|df R R zS
   refine LH.cd h R (fun xS h=>?_) fun xS h=>?_
   ·refine LH.exit<|bB<|Fk R<|bB<|bc<|aZ<|ag<|LH.cM R (sN<|hD (vs:=[]) It lX R gZ<|s_<|cN R R R bm bk R R R<|bK R<|s0<|zB [4,5] [104] 104 R)<|LH.ret ?_
    obtain rfl:=oI h
    exact bL (aT Tryz.results64)<|eE R bm dn bk R R<|dx R<|dN lY
   refine LH.skip<|ag ?_
   obtain ⟨x8,Ck,h⟩:=aa h
   obtain ⟨r9,FQ,h⟩:=aa h
   refine LH.cM R (sN<|av ix lr tz R R R<|sN<|aS R lr yB<|sN<|av fq aw aL R R R<|sN<|aS R aw br<|sN<|j7 R R<|sN<|dJ (f:=ah.lv) fA bm bk R R ah.ok Ck R<|sN<|a7 R bm dn bk R R<|sN<|dh AH (H0 FQ)<|s_<|cN R R R bm bk R R R<|bK R<|s0<|Wk.trans (bQ [4,5] [104])<|Wk.dz 104 (ah.lv r9).cells R R R<|cv R)<|LH.ret<|aU<|aA<|cc<|aU<|aA ?_
   obtain rfl:=oI h
   exact bL (aT Tryz.results64)<|eE R bm dn bk R R<|dx R<|dN lY
  refine LH.exit<|bB<|bc<|aZ<|ag<|LH.cM R (sN<|hD (vs:=[]) It lX R gZ<|s_<|cN R R R bm bk R R R<|bK R<|s0<|zB [4,5] [104] 104 R)<|LH.ret ?_
  obtain rfl:=oI h
  exact bL (aT Tryz.results64)<|eE R bm dn bk R R<|dx R<|dN lY
theorem Yo {F:Nat} {p0:List bu} {p1:Int} {p2:Int} {p3:Int} {r:bV × List ah × Bool} (h:DH F p0 p1 p2 p3=some r):aF Tryz.prog 22 [.lst 12 (p0.map bu.lv),.I p1,.I p2,.I p3] (Mem.of []) (.tup [.agg [.lst 5 (r.1.ab.map a8.lv)],.lst 5 (r.2.1.map ah.lv),.bool r.2.2]) (Mem.of []):=by
  unfold DH at h
  refine aW Tryz.func22 R (nT Tryz.ntmps22 R)<|LH.ae R (sN<|ib (id:=108) R Hb R R<|kE R<|bK R zQ) ?_
  obtain ⟨r1,dI,h⟩:=aa h
  refine LH.cM R (dC R<|sN<|dh QP (Rw dI)<|sG R<|sN<|gj R R<|sN<|gj R R<|sN<|gj R R<|sN<|ib (id:=111) R Hb R R<|s_<|cN R R R lD lE R R R<|qV R<|aX R<|s0<|zB [1,2,3,8,11,13] [108,111] 111 R) ?_
  obtain ⟨r2,hr2,h⟩:=aa h
  refine LH.ae R (sN<|a7 R lD sm lE R R<|aN R<|aN R<|aN R<|sN<|dh QL (Rn hr2)<|qV R zQ)<|LH.ae R (kE R zQ)<|LH.seq<|LH.ae R (aX R zQ)<|LH.block<|LH.wk ((Wk.trans (bQ [8,11,13,14,15,16] [108])<|Wk.trans (Wk.wA (ig:=[(8,.ptr 108 0),(11,.sptr [.lst 5 (r1.1.ab.map a8.lv)]),(13,.I r1.2.2),(14,.lst 2 (r2.map bD.lv)),(15,.arr 171 (List.length ([]:List ah))),(16,.I 0)]) 171 108 5 R R<|wK<|wK<|wK<|wK<|wO<|wK wN)<|bQ [8,11,13,14,15,16] [108,171]))<|LH.bW (fun n e m=>∃ (n3:Int) (l4:List ah),Ee F r1 r2 n n3 l4=some r∧e=Env.of [(8,.ptr 108 0),(11,.sptr [.lst 5 (r1.1.ab.map a8.lv)]),(13,.I r1.2.2),(14,.lst 2 (r2.map bD.lv)),(15,.arr 171 l4.length),(16,.I n3)]∧m=Mem.of [(108,.box [.nil]),(171,.arr 108 5 (l4.map ah.lv))]) F ⟨0,([]:List ah),h,R,R⟩ ?_
  clear h
  rintro n e m ⟨n3,l4,h,rfl,rfl⟩
  rcases n with _ | n
  · exact nX h
  obtain ⟨aE,aC⟩:∃ f,f=Ee F r1 r2 n:=⟨_,rfl⟩
  replace h:CN F r1 r2 aE n3 l4=some r:=aC ▸ h
  unfold CN at h
  refine LH.seq<|LH.ae R (aN R<|dC R<|sN<|bx (f:=bD.lv) uG R<|sN<|dK R R zQ) (LH.cd h R (fun oV h=>?_) fun oV h=>?_)
  ·refine LH.skip<|ag<|LH.seq<|LH.block ?_
   obtain ⟨x6,yO,h⟩:=aa h
   obtain ⟨r7,yf,h⟩:=aa h
   refine LH.lN mixed [] [0,0,0,0,0,0,0,0,0,2,100117,0] R R (by kernel_rfl) (aI<|a7 R lD sm lE R R ⟨R,nM R<|gu R<|aI<|dJ (f:=bD.lv) uG fj eM R R bD.ok yO R ⟨R,aI<|a7 R fj sj eM R R ⟨R,aI<|dh QQ (Rq yf) ⟨R,mMt R<|aI<|gj R R ⟨R,aI<|gj R R ⟨R,E2<|ib (id:=117) R lX R R<|mS R R R (fun _ b _ d=>cN R R R bm bk b R R d)<|mAb R<|m0<|Wk.trans (bQ [8,11,13,14,15,16,17,18] [108,117,171])<|Wk.dz 117 (ah.lv r7.1).cells R R R<|cv R⟩⟩⟩⟩⟩⟩)<|LH.seq ?_
   obtain ⟨w9,hv,h⟩:=aa h
   refine LH.eY mixed [] [0,0,0,0,0,0,0,0,0,0,0,0,0,0,0,0,0,0,0,0,0,0] [(8,.ptr 108 0),(11,.sptr [.lst 5 (r1.1.ab.map a8.lv)]),(13,.I r1.2.2),(14,.lst 2 (r2.map bD.lv)),(15,.arr 171 l4.length),(16,.I n3),(17,.sptr (ah.lv r7.1).cells),(66,.bool w9)] [(108,.box [.nil]),(171,.arr 108 5 (l4.map ah.lv))] R R (by kernel_rfl) ?_ ?_
   ·refine qg R<|aI<|dB R ⟨R,qg R ?_⟩
    by_cases dj:(!r7.2)=true
    ·replace hv:=bO hv dj
     refine cJ dj<|cJ dj<|cJ dj<|cJ dj<|cJ dj<|cJ dj<|cJ dj<|cJ dj<|aI<|df dj R ⟨R,qg R<|cJ R<|cJ R<|cJ R<|cJ R<|cJ R<|cJ R<|cJ R<|cJ R<|aI<|df R R ⟨R,?_⟩⟩
     obtain rfl:=oI hv
     exact zM
    ·replace dj:=bF dj
     replace hv:=bN hv dj
     refine mT R (cB dj)<|aI<|av ei aw aL R R R ⟨R,mT R (cB dj)<|aI<|aS R aw br ⟨R,mT R (cB dj)<|nM R<|mT R (cB dj)<|gu R ?_⟩⟩
     obtain ⟨qa,ph,hv⟩:=aa hv
     refine mT R (cB dj)<|aI<|dJ (f:=bD.lv) uG fj eM R R bD.ok ph R ⟨R,mT R (cB dj)<|aI<|av jE aw aL R R R ⟨R,mT R (cB dj)<|aI<|aS R aw br ⟨R,mT R (cB dj)<|aI<|iR R R ⟨R,aI<|bY dj R ⟨R,qg R ?_⟩⟩⟩⟩⟩
     by_cases cY:(r7.1.ID != qa.ID)=true
     ·replace hv:=bO hv cY
      refine cJ cY<|cJ cY<|cJ cY<|cJ cY<|cJ cY<|cJ cY<|cJ cY<|cJ cY<|aI<|df cY R ⟨R,?_⟩
      obtain rfl:=oI hv
      exact zM
     ·replace cY:=bF cY
      replace hv:=bN hv cY
      refine mT R (cB cY)<|aI<|av gR aw aL R R R ⟨R,mT R (cB cY)<|aI<|aS R aw br ⟨R,mT R (cB cY)<|nM R<|mT R (cB cY)<|gu R ?_⟩⟩
      obtain ⟨jc,qf,hv⟩:=aa hv
      refine mT R (cB cY)<|aI<|dJ (f:=bD.lv) uG fj eM R R bD.ok qf R ⟨R,mT R (cB cY)<|aI<|av fq aw aL R R R ⟨R,mT R (cB cY)<|aI<|aS R aw br ⟨R,mT R (cB cY)<|aI<|iR R R ⟨R,aI<|bY cY R ⟨R,?_⟩⟩⟩⟩⟩
      obtain rfl:=oI hv
      exact zM
   clear hv
   refine LH.cd h R (fun sV h=>?_) fun sV h=>?_
   ·refine LH.cM R (sN<|a7 R lD sm lE R R<|s_<|cN R R R lD lE R R R<|kE R<|bK R<|s0<|zB [8,9,10] [108] 108 R)<|LH.ret<|aA<|aU<|aA<|cc<|aU<|aA ?_
    obtain rfl:=oI h
    exact bL (aT Tryz.results22)<|eE R lD sm lE R R<|dx R<|dx R<|dN lY
   refine LH.skip<|ag ?_
   obtain ⟨JZ,L0,h⟩:=aa h
   refine LH.aJ R (lh R<|sN<|a7 R bm dn bk R R<|sN<|ic (f:=ah.lv) (ys:=[r7.1]) fA zX bk R R R ah.ok<|sN<|oN (f:=ah.lv) fA zX bk R R (cv R) R L0<|sE R zQ)<|aB<|ag<|LH.aJ R (aN R<|sN<|bw R R<|aX R zQ) ?_
   exact aM ⟨(i64 (n3+1)),JZ,aC ▸ h,R,R⟩<|Wk.eq R R R R
  refine LH.exit<|bB<|bc<|aZ<|ag<|LH.wk ((Wk.trans (bQ [8,11,13,15] [108,171])<|Wk.trans (Wk.mZ (f:=ah.lv) (ig:=[(8,.ptr 108 0),(11,.sptr [.lst 5 (r1.1.ab.map a8.lv)]),(13,.I r1.2.2),(15,.lst 5 (l4.map ah.lv))]) 171 108 5 l4 R R (cv R)<|fK R<|fK R<|fK R<|fZ fN)<|bQ [8,11,13,15] [108]))<|LH.cM R (sN<|a7 R lD sm lE R R<|dC R<|aN R<|sN<|gv R R<|s_<|cN R R R lD lE R R R<|qV R<|bK R<|s0<|zB [8,9,10] [108] 108 R)<|LH.ret ?_
  obtain rfl:=oI h
  exact bL (aT Tryz.results22)<|eE R lD sm lE R R<|dx R<|dx R<|dN lY
end Go.Proofs.YtiinmaihgmfniaaGreat
