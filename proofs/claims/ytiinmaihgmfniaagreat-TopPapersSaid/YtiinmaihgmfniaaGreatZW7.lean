import Derived.Test.YtiinmaihgmfniaaGreatZW6
set_option linter.unusedVariables false
set_option linter.unusedSimpArgs false
set_option maxRecDepth 100000
set_option maxHeartbeats 1000000
namespace Go.Proofs.YtiinmaihgmfniaaGreat
open Go.L Go.Sh
theorem YE {F:Nat} {p0:cZ} {p1:bb} {r:Int} (h:wY F p0 p1=some r):aF Tryz.prog 39 [.agg [.L p0.aj,.lst 3 (p0.Rows.map ar.lv)],bb.lv p1] (Mem.of []) (.I r) (Mem.of []):=by
  unfold wY at h
  refine aW Tryz.func39 R (nT Tryz.ntmps39 R)<|LH.ae R (sB<|da R R R R<|sB<|da R R R R<|aX R zQ)<|LH.seq ?_
  obtain ⟨r1,dI,h⟩:=aa h
  refine LH.ae R (sN<|a7 R e9 gG fa R R<|sN<|dh rP (AT dI)<|sN<|dB R zQ) (LH.cd h R (fun gK h=>?_) fun gK h=>?_)
  ·refine LH.ae R (aX R zQ)<|LH.ret<|aA ?_
   obtain rfl:=oI h
   exact ba<|aT Tryz.results39
  refine LH.skip<|ag<|LH.wk (bQ [2,3] [])<|LH.mid (fun e m=>Dp F p0 p1=some r∧Wk (fun id=>Mem.of [] id ≠ .none) e m (Env.of [(2,.sptr [.L p0.aj,.lst 3 (p0.Rows.map ar.lv)]),(3,.sptr (bb.lv p1).cells)]) (Mem.of [])) ?_ ?_
  ·refine LH.ae R (sN<|av pB jG oU R R R<|sN<|aS R jG yA zQ) (LH.cd h R (fun jt h=>?_) fun jt h=>?_)
   ·obtain ⟨sD,vT,h⟩:=aa h
    refine LH.ae R (sN<|a7 R e9 gG fa R R<|sN<|av tw bj cC R R R<|sN<|aS R bj dr<|sN<|dh XI (YP vT)<|sG R<|sN<|gj R R<|sN<|gj R R<|aX R<|bK R zQ) ?_
    obtain ⟨w15,hv,h⟩:=aa h
    refine LH.dF [2,3] 32 w15 [] R ?_ ?_
    ·refine sN<|a7 R e9 gG fa R R<|sN<|av tw bj cC R R R<|sN<|aS R bj dr ?_
     obtain ⟨gV,vU,hv⟩:=aa hv
     refine sN<|dh XJ (YJ vU)<|sN<|dB R<|bS R ?_
     by_cases kZ:(!gV)=true
     ·obtain rfl:=oI (bO hv kZ)
      rw [kZ]; exact zA
     ·replace kZ:=bF kZ
      replace hv:=bN hv kZ
      refine aK kZ<|oM (v:=(.int _ _)) R<|aK kZ<|av tx aw aL R R R<|aK kZ<|aS R aw br<|aK kZ<|iR R R<|sN<|bY kZ R ?_
      obtain rfl:=oI hv
      exact zS
    clear hv
    refine LH.cd h R (fun sW h=>?_) fun sW h=>?_
    ·refine LH.ae R (aX R zQ)<|LH.ret<|aA ?_
     obtain rfl:=oI h
     exact ba<|aT Tryz.results39
    exact LH.skip<|ag ⟨h,Wk.eq R R R R⟩
   refine LH.dF [2,3] 41 (((p1.cT.length:Int) != 0) || (p1.jH != 0)) [] R ?_ ?_
   ·refine sN<|av tw bj cC R R R<|sN<|aS R bj dr<|sN<|bx (f:=LV.I) bd R<|sN<|iR R R<|bS R ?_
    generalize ((p1.cT.length:Int) != 0)=qc; cases qc
    ·exact sT R R<|av tx aw aL R R R<|sT R R<|aS R aw br<|sT R R<|iR R R<|sN<|bY R R zS
    ·exact sK<|sN<|df R R zS
   refine LH.cd h R (fun sY h=>?_) fun sY h=>?_
   ·refine LH.ae R (aX R zQ)<|LH.ret<|aA ?_
    obtain rfl:=oI h
    exact ba<|aT Tryz.results39
   exact LH.skip<|ag ⟨h,Wk.eq R R R R⟩
  clear h
  rintro e m ⟨h,hw⟩
  refine LH.wk hw ?_
  clear hw
  unfold Dp at h
  obtain ⟨r3,hr3,h⟩:=aa h
  refine LH.ae R (sN<|a7 R e9 gG fa R R<|sN<|av NQ nv JX R R R<|sN<|aS R nv sn<|sN<|dh XK (Yq hr3)<|sG R<|sN<|gj R R<|sN<|gj R R<|sN<|gj R R<|aX R<|bK R<|aX R zQ)<|LH.seq<|LH.ae R (aN R<|sN<|iR R R zQ) (LH.cd h R (fun qE h=>?_) fun qE h=>?_)
  ·refine LH.ae R (aN R<|aX R zQ)<|LH.ret<|aA ?_
   obtain rfl:=oI h
   exact ba<|aT Tryz.results39
  refine LH.skip<|ag<|LH.seq<|LH.dF [] 72 (if p1.Found=true then ((!r3.2.1) || ((decide (r3.1<p1.jH)) || ((!p1.Found) && r3.2.1))) else ((!p1.Found) && r3.2.1)) [] R ?_ ?_
  ·refine sN<|av pB jG oU R R R<|sN<|aS R jG yA<|bS R ?_
   by_cases bn:p1.Found=true
   ·refine aK bn<|oM (v:=(.bool _)) R<|aK bn<|dB R<|aK bn<|oM (v:=(.bool _)) R ?_
    by_cases cg:(!r3.2.1)=true
    ·exact bl cg<|bl cg<|bl cg<|bl cg<|aK bn<|df cg R<|sN<|df bn R<|bS R<|sK<|sN<|df R R<|s0<|Wk.to (eC (cB<|Eq.trans (wz cg)<|Z6 bn) eN) mN R<|cF R
    ·replace cg:=bF cg
     refine aK cg<|oM (v:=(.int _ _)) R<|aK cg<|av tx aw aL R R R<|aK cg<|aS R aw br<|aK cg<|dK R R<|aK bn<|bY cg R<|sN<|df bn R<|bS R ?_
     by_cases cu:(decide (r3.1<p1.jH))=true
     ·exact bl cu<|bl cu<|bl cu<|bl cu<|sU R R<|bl cu<|sN<|df cu R<|s0<|Wk.to (eC (cB<|Eq.trans (Eq.trans (wz cu)<|kR cg)<|Z6 bn) eN) mN R<|cF R
     ·replace cu:=bF cu
      refine aK cu<|av pB jG oU R R R<|aK cu<|aS R jG yA<|aK cu<|dB R<|aK cu<|oM (v:=(.bool _)) R ?_
      by_cases c7:(!p1.Found)=true
      ·exact aK c7<|oM (v:=(.bool _)) R<|aK cu<|df c7 R<|sN<|bY cu R<|s0<|Wk.to (eC (cB<|Eq.trans (Eq.trans (Eq.trans (eU c7)<|kR cu)<|kR cg)<|Z6 bn) eN) mN R<|cF R
      ·replace c7:=bF c7
       exact bl c7<|aK cu<|bY c7 R<|sN<|bY cu R<|s0<|Wk.to (eC (cB<|Eq.trans (Eq.trans (Eq.trans (mf c7)<|kR cu)<|kR cg)<|Z6 bn) eN) mN R<|cF R
   ·replace bn:=bF bn
    refine bl bn<|bl bn<|bl bn<|sU R R<|sU R R<|sU R R<|sU R R<|bl bn<|sN<|bY bn R<|bS R<|sT R R<|av pB jG oU R R R<|sT R R<|aS R jG yA<|sT R R<|dB R<|sT R R<|oM (v:=(.bool _)) R ?_
    by_cases dj:(!p1.Found)=true
    ·exact aK dj<|oM (v:=(.bool _)) R<|sT R R<|df dj R<|sN<|bY R R<|s0<|Wk.to (eC (cB<|Eq.trans (eU dj)<|itF bn) eN) mN R<|cF R
    ·replace dj:=bF dj
     exact bl dj<|sT R R<|bY dj R<|sN<|bY R R<|s0<|Wk.to (eC (cB<|Eq.trans (mf dj)<|itF bn) eN) mN R<|cF R
  refine LH.cd h R (fun vI h=>?_) fun vI h=>?_
  ·refine LH.ae R (aX R zQ)<|LH.ret<|aA ?_
   obtain rfl:=oI h
   exact ba<|aT Tryz.results39
  refine LH.skip<|ag<|LH.ae R (aX R zQ)<|LH.ret ?_
  obtain rfl:=oI h
  exact ba<|aT Tryz.results39
theorem YT {F:Nat} {p0:List (List Int)} {p1:List Int} {r:Bool} (h:xb F p0 p1=some r):aF Tryz.prog 40 [.lst 1 (List.map (lvl 1 LV.I) p0),.L p1] (Mem.of []) (.bool r) (Mem.of []):=by
  unfold xb at h
  refine aW Tryz.func40 R (nT Tryz.ntmps40 R)<|LH.ae R (bK R zQ)<|LH.seq<|LH.ae R (dC R<|sN<|bx (f:=(lvl 1 LV.I)) lQ R<|sN<|dK R R zQ) (LH.cd h R (fun hc1 h=>?_) fun hc1 h=>?_)
  ·refine LH.ae R (bK R zQ)<|LH.ret<|aA ?_
   obtain rfl:=oI h
   exact ba<|aT Tryz.results40
  refine LH.skip<|ag<|LH.ae R (sX ((k9 (kt:=3) (vt:=4) (id:=119) R).ok)<|sN<|oA (v:=(.mp _)) R zQ)<|LH.seq<|LH.ae R (dC R<|sN<|bx (f:=LV.I) bd R<|aN R zQ)<|LH.block<|LH.bW (fun n e m=>∃ (n2:Int) (m3:List (Int × Bool)),wP F p0 p1 n n2 m3=some r∧e=Env.of [(0,.lst 1 (List.map (lvl 1 LV.I) p0)),(5,.mp 119),(20,.L p1),(21,.I (p1.length:Int)),(22,.I n2)]∧m=Mem.of [(119,.map 3 4 (mv LV.I LV.bool m3))]) F ⟨0,([]:List (Int × Bool)),h,R,R⟩ ?_
  clear h
  rintro n e m ⟨n2,m3,h,rfl,rfl⟩
  rcases n with _ | n
  · exact nX h
  obtain ⟨aE,aC⟩:∃ f,f=wP F p0 p1 n:=⟨_,rfl⟩
  replace h:Dq F p0 p1 aE n2 m3=some r:=aC ▸ h
  unfold Dq at h
  refine LH.ae R (sN<|dK R R zQ)<|LH.seq (LH.cd h R (fun qE h=>?_) fun qE h=>?_)
  ·refine LH.skip<|ag<|LH.seq<|LH.block ?_
   obtain ⟨x5,nb,h⟩:=aa h
   refine LH.ae R (sN<|dJ (f:=LV.I) bd aw aL R R gB nb R<|sN<|aS R aw br<|aX R zQ)<|LH.aJ R (sN<|oM (v:=(.mp _)) R<|aN R<|Kl ((fY (f:=LV.I) (g:=LV.bool) (xs:=m3) (key:=x5) (val:=true) (.inl R) EO oL Bp (fun _=>R) R R R R).ok) zQ)<|aB<|ag<|LH.aJ R (sN<|bw R R<|aN R zQ) ?_
   exact aM ⟨(i64 (n2+1)),(et m3 x5 true),aC ▸ h,R,R⟩<|Wk.eq R R R R
  refine LH.exit<|bB<|bc<|aZ<|ag<|LH.ae R (sX ((k9 (kt:=3) (vt:=3) (id:=129) R).ok)<|sN<|oA (v:=(.mp _)) R zQ)<|LH.seq<|LH.ae R (dC R<|sN<|bx (f:=(lvl 1 LV.I)) lQ R<|aN R zQ)<|LH.block<|LH.bW (fun n e m=>∃ (n6:Int) (m7:List (Int × Int)),AW F p0 m3 n n6 m7=some r∧e=Env.of [(5,.mp 119),(8,.mp 129),(30,.lst 1 (List.map (lvl 1 LV.I) p0)),(31,.I (p0.length:Int)),(32,.I n6)]∧m=Mem.of [(119,.map 3 4 (mv LV.I LV.bool m3)),(129,.map 3 3 (mv LV.I LV.I m7))]) F ⟨0,([]:List (Int × Int)),h,R,R⟩ ?_
  clear h
  rintro n e m ⟨n6,m7,h,rfl,rfl⟩
  rcases n with _ | n
  · exact nX h
  obtain ⟨dU,dR⟩:∃ f,f=AW F p0 m3 n:=⟨_,rfl⟩
  replace h:Dr F p0 m3 dU n6 m7=some r:=dR ▸ h
  unfold Dr at h
  refine LH.ae R (sN<|dK R R zQ)<|LH.seq (LH.cd h R (fun oF h=>?_) fun oF h=>?_)
  ·refine LH.skip<|ag<|LH.seq<|LH.block ?_
   obtain ⟨x9,rM,h⟩:=aa h
   refine LH.ae R (aN R<|sN<|dJ (f:=(lvl 1 LV.I)) lQ bj cC R R XZ rM R<|sN<|aS R bj dr<|aX R<|qV R zQ)<|LH.ae R (sX ((k9 (kt:=3) (vt:=4) (id:=137) R).ok)<|sN<|oA (v:=(.mp _)) R zQ)<|LH.seq<|LH.ae R (dC R<|sN<|bx (f:=LV.I) bd R<|aN R zQ)<|LH.block<|LH.bW (fun n e m=>∃ (n10:Int) (m11:List (Int × Int)) (m12:List (Int × Bool)),wQ dU m3 n6 x9 n n10 m11 m12=some r∧e=Env.of [(5,.mp 119),(8,.mp 129),(9,.I n6),(11,.mp 137),(30,.lst 1 (List.map (lvl 1 LV.I) p0)),(31,.I (p0.length:Int)),(32,.I n6),(38,.L x9),(39,.I (x9.length:Int)),(40,.I n10)]∧m=Mem.of [(119,.map 3 4 (mv LV.I LV.bool m3)),(129,.map 3 3 (mv LV.I LV.I m11)),(137,.map 3 4 (mv LV.I LV.bool m12))]) F ⟨0,m7,([]:List (Int × Bool)),h,R,R⟩ ?_
   clear h
   rintro n e m ⟨n10,m11,m12,h,rfl,rfl⟩
   rcases n with _ | n
   · exact nX h
   obtain ⟨fH,fV⟩:∃ f,f=wQ dU m3 n6 x9 n:=⟨_,rfl⟩
   replace h:Ds dU m3 n6 x9 fH n10 m11 m12=some r:=fV ▸ h
   unfold Ds at h
   refine LH.ae R (sN<|dK R R zQ)<|LH.seq (LH.cd h R (fun mj h=>?_) fun mj h=>?_)
   ·refine LH.skip<|ag<|LH.seq<|LH.block ?_
    obtain ⟨e7,FU,h⟩:=aa h
    refine LH.ae R (sN<|dJ (f:=LV.I) bd aw aL R R gB FU R<|sN<|aS R aw br<|aX R zQ)<|LH.seq<|LH.ae R (sN<|oM (v:=(.mp _)) R<|aN R<|sX ((Jt (f:=LV.I) (g:=LV.bool) (xs:=m3) (key:=e7) (z:=false) EO oL Bp R R R tz4).ok) zQ) (LH.cd h R (fun qd h=>?_) fun qd h=>?_)
    ·refine LH.ae R (sN<|oM (v:=(.mp _)) R<|aN R<|Kl ((fY (f:=LV.I) (g:=LV.bool) (xs:=m12) (key:=e7) (val:=true) (.inl R) EO oL Bp (fun _=>R) R R R R).ok) zQ)<|LH.exit<|bB<|aZ<|ag<|LH.aJ R (sN<|bw R R<|aN R zQ) ?_
     exact aM ⟨(i64 (n10+1)),m11,(et m12 e7 true),fV ▸ h,R,R⟩<|Wk.eq R R R R
    refine LH.skip<|ag<|LH.seq<|LH.ae R (sN<|oM (v:=(.mp _)) R<|aN R<|sX ((qT (f:=LV.I) (g:=LV.I) (xs:=m11) (key:=e7) (z:=0) RG oL Bp R R R Oq).ok)<|sG R<|sN<|gj R R<|sN<|gj R R<|aX R<|bK R zQ)<|LH.dF [5,8,9,11,13,30,31,32,38,39,40] 60 ((eR m11 e7).isSome && (((eR m11 e7).getD 0) != n6)) [119,129,137] R ?_ ?_
    ·refine bS R<|bS R ?_
     generalize (eR m11 e7).isSome=kZ; cases kZ
     ·exact sK<|sN<|bY R R zS
     ·exact sT R R<|oM (v:=(.int _ _)) R<|sT R R<|oM (v:=(.int _ _)) R<|sT R R<|iR R R<|sN<|df R R zS
    refine LH.cd h R (fun sW h=>?_) fun sW h=>?_
    ·refine LH.ae R (bK R zQ)<|LH.ret<|aA<|aU<|aA<|cc<|aU<|aA<|aU<|aA<|cc<|aU<|aA ?_
     obtain rfl:=oI h
     exact ba<|aT Tryz.results40
    refine LH.skip<|ag<|LH.aJ R (sN<|oM (v:=(.mp _)) R<|aN R<|aN R<|Kl ((fY (f:=LV.I) (g:=LV.I) (xs:=m11) (key:=e7) (val:=n6) (.inl R) RG oL Bp (fun _=>R) R R R R).ok) zQ)<|aB<|ag<|LH.aJ R (sN<|bw R R<|aN R zQ) ?_
    exact aM ⟨(i64 (n10+1)),(et m11 e7 n6),m12,fV ▸ h,R,R⟩<|Wk.eq R R R R
   refine LH.exit<|bB<|bc<|aZ<|ag<|LH.ae R (sN<|oM (v:=(.mp _)) R<|sX ((HM (f:=LV.I) (g:=LV.bool) (xs:=m12) EO R R).ok)<|sN<|oM (v:=(.mp _)) R<|sX ((HM (f:=LV.I) (g:=LV.bool) (xs:=m3) EO R R).ok)<|sN<|iR R R zQ) (LH.cd h R (fun Sk h=>?_) fun Sk h=>?_)
   ·refine LH.ae R (bK R zQ)<|LH.ret<|aU<|aA<|cc<|aU<|aA ?_
    obtain rfl:=oI h
    exact ba<|aT Tryz.results40
   refine LH.skip<|aB<|ag<|LH.aJ R (sN<|bw R R<|aN R zQ) ?_
   exact aM ⟨(i64 (n6+1)),m11,dR ▸ h,R,R⟩<|Wk.eq R R R R
  refine LH.exit<|bB<|bc<|aZ<|ag<|LH.ae R (bK R zQ)<|LH.ret ?_
  obtain rfl:=oI h
  exact ba<|aT Tryz.results40
set_option maxHeartbeats 4000000 in
theorem ae1 {F:Nat} {p0:List Int} {r:Bool} (h:Ic F p0=some r):aF Tryz.prog 5 [.L p0] (Mem.of []) (.bool r) (Mem.of []):=by
  unfold Ic at h
  refine aW Tryz.func5 R (nT Tryz.ntmps5 R)<|LH.ae R (bK R zQ) ?_
  obtain ⟨r1,dI,h⟩:=aa h
  refine LH.ae R (dC R<|sN<|mw (args:=[.L p0]) (ml:=[]) (eD:=[(7,.box [.L r1.L,.I r1.At])]) R ac8 R (bZ fF) (Ze dI) mN (MM R dO) R<|sAp R zQ) ?_
  obtain ⟨r2,hr2,h⟩:=aa h
  obtain ⟨r3,hr3,h⟩:=aa h
  refine LH.ae R (fW R<|sN<|gq Xk (aar hr2)<|sN<|dh Xl (Yo hr3)<|sG R<|sN<|gj R R<|sN<|gj R R<|sN<|gj R R<|sN<|ib (id:=104) R Hb R R<|s_<|cN R R R lD lE R R R<|qV R<|bK R zQ)<|LH.seq<|LH.ae R (bS R<|sN<|dB R zQ) (LH.cd h R (fun qE h=>?_) fun qE h=>?_)
  ·refine LH.ae R (bK R zQ)<|LH.ret<|aA ?_
   obtain rfl:=oI h
   exact ba<|aT Tryz.results5
  refine LH.skip<|ag ?_
  obtain ⟨r5,qK,h⟩:=aa h
  refine LH.ae R (fW R<|sN<|gq Xo (aas qK)<|sN<|ib (id:=107) R P3 R R<|s_<|cN R R R iS iT R R R zQ)<|LH.cK [(3,.ptr 7 0),(5,.lst 5 (r3.2.1.map ah.lv)),(7,.sptr [.I 1,.I 3,.I r5.1.aY,.I r5.1.bh,.lst 3 (r5.1.b5.map bM.lv),.lst 3 (r5.1.aR.map bM.lv),.nil,.lst 2 (r5.1.bC.map bA.lv),.I r5.1.aV])] [(7,.box [.L r5.2.L,.I r5.2.At])] R (sN<|eF tu aw aL R R<|s_<|cN R R R aw aL R R R<|sN<|eF xv aw aL R R<|s_<|cN R R R aw aL R R R<|sN<|eF mB bj cC R R<|s_<|cN R R R bj cC R R R<|s0<|(Wk.trans (zB [3,5,7] [7,107] 107 R)<|Wk.eq R R R R))<|LH.ae R (kE R<|kE R zQ)<|LH.seq<|LH.ae R (aX R zQ)<|LH.block<|LH.wk ((Wk.trans (bQ [3,5,7,8,9,10] [7])<|Wk.trans (Wk.wA (ig:=[(3,.ptr 7 0),(5,.lst 5 (r3.2.1.map ah.lv)),(7,.sptr [.I 1,.I 3,.I r5.1.aY,.I r5.1.bh,.lst 3 (r5.1.b5.map bM.lv),.lst 3 (r5.1.aR.map bM.lv),.nil,.lst 2 (r5.1.bC.map bA.lv),.I r5.1.aV]),(8,.arr 146 (List.length ([]:List Int))),(9,.nil),(10,.I 0)]) 146 3 1 R R<|wK<|wK<|wK<|wO<|wK<|wK wN)<|bQ [3,5,7,8,9,10] [7,146]))<|LH.bW (fun n e m=>∃ (n6:Int) (l7:List Int) (n8:Int) (l9:List Int),El F r3 r5 n n6 l7 n8 l9=some r∧e=Env.of [(3,.ptr 7 0),(5,.lst 5 (r3.2.1.map ah.lv)),(7,.sptr [.I 1,.I 3,.I r5.1.aY,.I r5.1.bh,.lst 3 (r5.1.b5.map bM.lv),.lst 3 (r5.1.aR.map bM.lv),.nil,.lst 2 (r5.1.bC.map bA.lv),.I r5.1.aV]),(8,.arr 146 l9.length),(9,.nil),(10,.I n6)]∧m=Mem.of [(7,.box [.L l7,.I n8]),(146,.arr 3 1 (l9.map LV.I))]) F ⟨0,r5.2.L,r5.2.At,([]:List Int),h,R,R⟩ ?_
  clear h
  rintro n e m ⟨n6,l7,n8,l9,h,rfl,rfl⟩
  rcases n with _ | n
  · exact nX h
  obtain ⟨aE,aC⟩:∃ f,f=El F r3 r5 n:=⟨_,rfl⟩
  replace h:DE F r3 r5 aE n6 l7 n8 l9=some r:=aC ▸ h
  unfold DE at h
  refine LH.seq<|LH.ae R (aN R<|dC R<|sN<|bx (f:=ah.lv) fA R<|sN<|dK R R zQ) (LH.cd h R (fun jf h=>?_) fun jf h=>?_)
  ·refine LH.skip<|ag<|LH.seq<|LH.block ?_
   obtain ⟨dS,j5,h⟩:=aa h
   obtain ⟨v12,LY,h⟩:=aa h
   refine LH.aJ R (lh R<|fW R<|sN<|gq fb (iP j5)<|sN<|ic (f:=LV.I) (ys:=[dS.1]) bd nB aL R R R gB<|sN<|oN (f:=LV.I) bd nB aL R R (cv R) R LY<|sE R zQ)<|aB<|ag<|LH.aJ R (aN R<|sN<|bw R R<|aX R zQ) ?_
   exact aM ⟨(i64 (n6+1)),dS.2.L,dS.2.At,v12,aC ▸ h,R,R⟩<|Wk.eq R R R R
  refine LH.exit<|bB<|bc<|aZ<|ag<|LH.wk ((Wk.trans (bQ [3,5,7,8,9] [7,146])<|Wk.trans (Wk.mZ (f:=LV.I) (ig:=[(3,.ptr 7 0),(5,.lst 5 (r3.2.1.map ah.lv)),(7,.sptr [.I 1,.I 3,.I r5.1.aY,.I r5.1.bh,.lst 3 (r5.1.b5.map bM.lv),.lst 3 (r5.1.aR.map bM.lv),.nil,.lst 2 (r5.1.bC.map bA.lv),.I r5.1.aV]),(8,.L l9),(9,.nil)]) 146 3 1 l9 R R (cv R)<|fK R<|fK R<|fK R<|fZ<|fK R fN)<|bQ [3,5,7,8,9] [7]))<|LH.mid (fun e m=>∃ (pn:List Int) (lJ:List Int) (n15:Int),zl F r3 r5 l9 pn lJ n15=some r∧Wk (fun id=>Mem.of [] id ≠ .none) e m (Env.of [(3,.ptr 7 0),(5,.lst 5 (r3.2.1.map ah.lv)),(7,.sptr [.I 1,.I 3,.I r5.1.aY,.I r5.1.bh,.lst 3 (r5.1.b5.map bM.lv),.lst 3 (r5.1.aR.map bM.lv),.nil,.lst 2 (r5.1.bC.map bA.lv),.I r5.1.aV]),(8,.L l9),(9,.L pn)]) (Mem.of [(7,.box [.L lJ,.I n15])])) ?_ ?_
  ·obtain ⟨N5,hv,h⟩:=aa h
   refine LH.tr [3,5,7,8,9] 53 N5.1 [(7,.box [.L N5.2.1,.I N5.2.2])] R ?_ ?_
   ·refine dC R<|sN<|bx (f:=ah.lv) fA R<|sN<|hJ R R<|bS R ?_
    by_cases yd:(decide ((r3.2.1.length:Int) > 0))=true
    ·replace hv:=bO hv yd
     refine aK yd<|oM (v:=(.ptr _ _)) R ?_
     obtain ⟨Rz,ab5,hv⟩:=aa hv
     refine aK yd<|gq pk (u7 ab5)<|sN<|df yd R ?_
     obtain rfl:=oI hv
     exact zS
    ·replace yd:=bF yd
     replace hv:=bN hv yd
     refine bl yd<|bl yd<|sN<|bY yd R ?_
     obtain rfl:=oI hv
     exact zS
   clear hv
   refine LH.cd h R (fun abe h=>?_) fun abe h=>?_
   ·obtain ⟨Nr,ab7,h⟩:=aa h
    exact LH.aJ R (fW R<|dC R<|sN<|bx (f:=ah.lv) fA R<|sN<|gq fb (iP ab7)<|sN<|ic (f:=LV.I) (ys:=[Nr.1]) bd nB aL R R R gB<|qV R zQ)<|ag ⟨[Nr.1],Nr.2.L,Nr.2.At,h,Wk.eq R R R R⟩
   exact LH.skip<|ag ⟨([]:List Int),N5.2.1,N5.2.2,h,Wk.to (eC R<|eC R<|eC R<|eC R<|eL R eN) ⟨R,trivial⟩ R<|cF R⟩
  clear h
  rintro e m ⟨pn,lJ,n15,h,hw⟩
  refine LH.wk hw ?_
  clear hw
  unfold zl at h
  obtain ⟨gV,vU,h⟩:=aa h
  refine LH.cK [(3,.ptr 7 0),(5,.lst 5 (r3.2.1.map ah.lv)),(7,.sptr [.I 1,.I 3,.I r5.1.aY,.I r5.1.bh,.lst 3 (r5.1.b5.map bM.lv),.lst 3 (r5.1.aR.map bM.lv),.nil,.lst 2 (r5.1.bC.map bA.lv),.I r5.1.aV]),(9,.L pn),(11,.sptr [.L gV.1.aj,.lst 3 (gV.1.Rows.map ar.lv)]),(12,.I gV.2)] [(7,.box [.L lJ,.I n15])] R (sN<|a7 R iS nt iT R R<|dC R<|dC R<|sN<|dh Xm (Yv vU)<|sG R<|sN<|gj R R<|sN<|gj R R<|sN<|ib (id:=111) R tA R R<|s_<|cN R R R e9 fa R R R<|aX R<|s0<|(Wk.trans (zB [3,5,7,9,11,12] [7,111] 111 R)<|Wk.eq R R R R)) ?_
  obtain ⟨jk,AA,h⟩:=aa h
  obtain ⟨j9,AB,h⟩:=aa h
  refine LH.eY mixed [] [0,0,0,100007,0,0,0,0,0,0] [(5,.lst 5 (r3.2.1.map ah.lv)),(7,.sptr [.I 1,.I 3,.I r5.1.aY,.I r5.1.bh,.lst 3 (r5.1.b5.map bM.lv),.lst 3 (r5.1.aR.map bM.lv),.nil,.lst 2 (r5.1.bC.map bA.lv),.I r5.1.aV]),(9,.L pn),(11,.sptr [.L gV.1.aj,.lst 3 (gV.1.Rows.map ar.lv)]),(12,.I gV.2),(13,.lst 4 (j9.1.map bb.lv)),(14,.I j9.2)] [] R R (by kernel_rfl) (aI<|a7 R e9 gG fa R R ⟨R,nM R<|uy R<|mW R R R (fun _ b _ d=>mw (args:=[.ptr 7 0,.I 1,.I 3]) (ml:=[(7,.box [.L lJ,.I n15])]) (eD:=[(7,.box [.L jk.2.L,.I jk.2.At])]) R ij R (bZ<|bZ<|bZ fF) (me AA) (mC b mN) (bT R dO) R d)<|aI<|dh Xp (Ys AB) ⟨R,mMt R<|aI<|gj R R ⟨R,aI<|gj R R ⟨R,mAl R<|Kf R zM⟩⟩⟩⟩)<|LH.seq<|LH.dF [5,7,9,11,12,13,14] 79 ((gV.2 != 0) || (j9.2 != 0)) [] R ?_ ?_
  ·refine aN R<|sN<|iR R R<|bS R ?_
   generalize (gV.2 != 0)=qc; cases qc
   ·exact sT R R<|oM (v:=(.int _ _)) R<|sT R R<|iR R R<|sN<|bY R R zS
   ·exact sK<|sN<|df R R zS
  refine LH.cd h R (fun sY h=>?_) fun sY h=>?_
  ·obtain ⟨w23,hv,h⟩:=aa h
   refine LH.dF [] 2 w23 [] R ?_ ?_
   ·refine aN R<|sN<|gv R R<|bS R ?_
    by_cases yb:(gV.2 == 0)=true
    ·replace hv:=bO hv yb
     refine aK yb<|oM (v:=(.int _ _)) R<|aK yb<|gv R R<|sN<|df yb R<|bS R ?_
     by_cases B2:(j9.2 == 10)=true
     ·replace hv:=bO hv B2
      obtain ⟨En,LO,hv⟩:=aa hv
      refine aK B2<|dh QM (Rs LO)<|sN<|df B2 R<|bK R ?_
      obtain rfl:=oI hv
      exact zS
     ·replace B2:=bF B2
      replace hv:=bN hv B2
      refine bl B2<|sN<|bY B2 R<|bK R ?_
      obtain rfl:=oI hv
      exact zS
    ·replace yb:=bF yb
     replace hv:=bN hv yb
     refine bl yb<|bl yb<|sN<|bY yb R<|bS R<|sK<|sN<|bY R R<|bK R ?_
     obtain rfl:=oI hv
     exact zS
   clear hv
   refine LH.ret<|aA ?_
   obtain rfl:=oI h
   exact ba<|aT Tryz.results5
  refine LH.skip<|ag<|LH.ae R (kE R zQ)<|LH.seq<|LH.ae R (aX R zQ)<|LH.block<|LH.wk ((Wk.trans (bQ [5,7,9,11,13,15,16] [])<|Wk.trans (Wk.wA (ig:=[(5,.lst 5 (r3.2.1.map ah.lv)),(7,.sptr [.I 1,.I 3,.I r5.1.aY,.I r5.1.bh,.lst 3 (r5.1.b5.map bM.lv),.lst 3 (r5.1.aR.map bM.lv),.nil,.lst 2 (r5.1.bC.map bA.lv),.I r5.1.aV]),(9,.L pn),(11,.sptr [.L gV.1.aj,.lst 3 (gV.1.Rows.map ar.lv)]),(13,.lst 4 (j9.1.map bb.lv)),(15,.arr 230 (List.length ([]:List (List Int)))),(16,.I 0)]) 230 22 1 R R<|wK<|wK<|wK<|wK<|wK<|wO<|wK wN)<|bQ [5,7,9,11,13,15,16] [230]))<|LH.bW (fun n e m=>∃ (n27:Int) (Jj:List (List Int)),Em F r3 r5 pn gV j9 n n27 Jj=some r∧e=Env.of [(5,.lst 5 (r3.2.1.map ah.lv)),(7,.sptr [.I 1,.I 3,.I r5.1.aY,.I r5.1.bh,.lst 3 (r5.1.b5.map bM.lv),.lst 3 (r5.1.aR.map bM.lv),.nil,.lst 2 (r5.1.bC.map bA.lv),.I r5.1.aV]),(9,.L pn),(11,.sptr [.L gV.1.aj,.lst 3 (gV.1.Rows.map ar.lv)]),(13,.lst 4 (j9.1.map bb.lv)),(15,.arr 230 Jj.length),(16,.I n27)]∧m=Mem.of [(230,.arr 22 1 (List.map (lvl 1 LV.I) Jj))]) F ⟨0,([]:List (List Int)),h,R,R⟩ ?_
  clear h
  rintro n e m ⟨n27,Jj,h,rfl,rfl⟩
  rcases n with _ | n
  · exact nX h
  obtain ⟨fH,fV⟩:∃ f,f=Em F r3 r5 pn gV j9 n:=⟨_,rfl⟩
  replace h:DG F r3 r5 pn gV j9 fH n27 Jj=some r:=fV ▸ h
  unfold DG at h
  refine LH.seq<|LH.ae R (aN R<|dC R<|sN<|bx (f:=bb.lv) xu R<|sN<|dK R R zQ) (LH.cd h R (fun aa3 h=>?_) fun aa3 h=>?_)
  ·refine LH.skip<|ag<|LH.seq<|LH.block ?_
   obtain ⟨UZ,acW,h⟩:=aa h
   refine LH.ae R (dC R<|aN R<|sN<|dJ (f:=bb.lv) xu yC uJ R R bb.ok acW R<|sN<|av tw bj cC R R R<|sN<|aS R bj dr<|qV R zQ)<|LH.seq ?_
   obtain ⟨jV,AE,h⟩:=aa h
   refine LH.ae R (dC R<|sN<|bx (f:=ah.lv) fA R<|dC R<|sN<|dh Xq (Y2 AE)<|sN<|dB R zQ) (LH.cd h R (fun Au h=>?_) fun Au h=>?_)
   ·refine LH.ae R (bK R zQ)<|LH.ret<|aA<|aU<|aA<|cc<|aU<|aA ?_
    obtain rfl:=oI h
    exact ba<|aT Tryz.results5
   refine LH.skip<|ag ?_
   obtain ⟨yw,LQ,h⟩:=aa h
   refine LH.cK [(5,.lst 5 (r3.2.1.map ah.lv)),(7,.sptr [.I 1,.I 3,.I r5.1.aY,.I r5.1.bh,.lst 3 (r5.1.b5.map bM.lv),.lst 3 (r5.1.aR.map bM.lv),.nil,.lst 2 (r5.1.bC.map bA.lv),.I r5.1.aV]),(9,.L pn),(11,.sptr [.L gV.1.aj,.lst 3 (gV.1.Rows.map ar.lv)]),(13,.lst 4 (j9.1.map bb.lv)),(15,.arr 230 Jj.length),(16,.I n27),(17,.L UZ.cT),(18,.sptr (jd.lv yw.1).cells),(19,.I yw.2)] [(230,.arr 22 1 (List.map (lvl 1 LV.I) Jj))] R (dC R<|dC R<|aN R<|sN<|dh QN (Rm LQ)<|sG R<|sN<|gj R R<|sN<|gj R R<|sN<|ib (id:=118) R uc R R<|s_<|cN R R R im iq R R R<|aX R<|s0<|(Wk.trans (bQ [5,7,9,11,13,15,16,17,18,19] [118,230])<|Wk.trans (Wk.dz 118 (jd.lv yw.1).cells R R R<|cv R)<|Wk.eq R R R R))<|LH.seq ?_
   obtain ⟨w35,hv,h⟩:=aa h
   refine LH.dF [5,7,9,11,13,15,16,17] 126 w35 [230] R ?_ ?_
   ·refine aN R<|sN<|iR R R<|bS R ?_
    by_cases Aq:(yw.2 != 0)=true
    ·obtain rfl:=oI (bO hv Aq)
     rw [Aq]; exact zA
    ·replace Aq:=bF Aq
     replace hv:=bN hv Aq
     refine aK Aq<|a7 R im lP iq R R ?_
     obtain ⟨GO,LR,hv⟩:=aa hv
     refine aK Aq<|dh Mx (Na LR)<|aK Aq<|dB R<|sN<|bY Aq R<|bS R ?_
     by_cases um:(!GO)=true
     ·obtain rfl:=oI (bO hv um)
      rw [um]; exact zA
     ·replace um:=bF um
      replace hv:=bN hv um
      refine aK um<|a7 R iS nt iT R R<|aK um<|oM (v:=(.lst _ _)) R<|aK um<|oM (v:=(.lst _ _)) R<|aK um<|a7 R im lP iq R R ?_
      obtain ⟨PG,SO,hv⟩:=aa hv
      refine aK um<|dh Xr (YV SO)<|aK um<|dB R<|sN<|bY um R ?_
      obtain rfl:=oI hv
      exact zS
   clear hv
   refine LH.cd h R (fun Lk h=>?_) fun Lk h=>?_
   ·refine LH.ae R (bK R zQ)<|LH.ret<|aA<|aU<|aA<|cc<|aU<|aA ?_
    obtain rfl:=oI h
    exact ba<|aT Tryz.results5
   refine LH.skip<|ag ?_
   obtain ⟨v41,L3,h⟩:=aa h
   refine LH.aJ R (lh R<|dC R<|sN<|ic (f:=(lvl 1 LV.I)) (ys:=[UZ.cT]) lQ UN cC R R R XZ<|sN<|oN (f:=(lvl 1 LV.I)) lQ UN cC R R (cv R) R L3<|sE R zQ)<|aB<|ag<|LH.aJ R (aN R<|sN<|bw R R<|aX R zQ) ?_
   exact aM ⟨(i64 (n27+1)),v41,fV ▸ h,R,R⟩<|Wk.eq R R R R
  refine LH.exit<|bB<|bc<|aZ<|ag<|LH.wk ((Wk.trans (bQ [9,11,13,15] [230])<|Wk.trans (Wk.mZ (f:=(lvl 1 LV.I)) (ig:=[(9,.L pn),(11,.sptr [.L gV.1.aj,.lst 3 (gV.1.Rows.map ar.lv)]),(13,.lst 4 (j9.1.map bb.lv)),(15,.lst 1 (List.map (lvl 1 LV.I) Jj))]) 230 22 1 Jj R R (cv R)<|fK R<|fK R<|fK R<|fZ fN)<|bQ [9,11,13,15] []))<|LH.seq ?_
  obtain ⟨w43,hv,h⟩:=aa h
  refine LH.eY mixed [] [0,0,0,0,0,0,0,0,0,0,0,0,0,0,0,0] [(9,.L pn),(13,.lst 4 (j9.1.map bb.lv)),(15,.lst 1 (List.map (lvl 1 LV.I) Jj)),(146,.bool w43)] [] R R (by kernel_rfl) ?_ ?_
  ·refine nM R<|aI<|bx (f:=LV.I) bd R ⟨R,aI<|gv R R ⟨R,qg R ?_⟩⟩
   by_cases oD:((pn.length:Int) == 0)=true
   ·replace hv:=bO hv oD
    refine mT R (cB oD)<|nM R<|mT R (cB oD)<|aI<|bx (f:=bb.lv) xu R ⟨R,mT R (cB oD)<|aI<|gv R R ⟨R,mT R (cB oD)<|qg R ?_⟩⟩
    by_cases oE:((j9.1.length:Int) == 0)=true
    ·replace hv:=bO hv oE
     refine cJ oE<|cJ oE<|cJ oE<|cJ oE<|cJ oE<|cJ oE<|mT R (cB oD)<|aI<|df oE R ⟨R,aI<|df oD R ⟨R,?_⟩⟩
     obtain rfl:=oI hv
     exact zM
    ·replace oE:=bF oE
     replace hv:=bN hv oE
     refine mT R (cB oE)<|aI<|a7 R e9 gG fa R R ⟨R,mT R (cB oE)<|nM R ?_⟩
     obtain ⟨Ot,FW,hv⟩:=aa hv
     refine mT R (cB oE)<|aI<|dJ (f:=bb.lv) xu yC uJ R R bb.ok FW R ⟨R,mT R (cB oE)<|aI<|a7 R yC NP uJ R R ⟨R,?_⟩⟩
     obtain ⟨zJ,LU,hv⟩:=aa hv
     refine mT R (cB oE)<|aI<|dh Xs (YE LU) ⟨R,mT R (cB oE)<|aI<|iR R R ⟨R,mT R (cB oD)<|aI<|bY oE R ⟨R,aI<|df oD R ⟨R,?_⟩⟩⟩⟩
     obtain rfl:=oI hv
     exact zM
   ·replace oD:=bF oD
    replace hv:=bN hv oD
    refine cJ oD<|cJ oD<|cJ oD<|cJ oD<|mU R R<|mU R R<|mU R R<|mU R R<|mU R R<|mU R R<|cJ oD<|aI<|bY oD R ⟨R,?_⟩
    obtain rfl:=oI hv
    exact zM
  clear hv
  refine LH.cd h R (fun Sr h=>?_) fun Sr h=>?_
  ·refine LH.ae R (bK R zQ)<|LH.ret<|aA ?_
   obtain rfl:=oI h
   exact ba<|aT Tryz.results5
  refine LH.skip<|ag ?_
  obtain ⟨w50,hv,h⟩:=aa h
  refine LH.dF [] 2 w50 [] R ?_ ?_
  ·refine dC R<|sN<|bx (f:=bb.lv) xu R<|sN<|hJ R R<|bS R ?_
   by_cases uq:(decide ((j9.1.length:Int) > 0))=true
   ·replace hv:=bO hv uq
    refine aK uq<|oM (v:=(.lst _ _)) R<|aK uq<|oM (v:=(.lst _ _)) R ?_
    obtain ⟨r52,ab0,hv⟩:=aa hv
    refine aK uq<|dh Xt (YT ab0)<|sN<|df uq R<|bS R ?_
    by_cases B3:r52=true
    ·replace hv:=bO hv B3
     obtain ⟨r54,ab2,hv⟩:=aa hv
     refine aK B3<|dh QM (Rs ab2)<|sN<|df B3 R<|bK R ?_
     obtain rfl:=oI hv
     exact zS
    ·replace B3:=bF B3
     replace hv:=bN hv B3
     refine bl B3<|sN<|bY B3 R<|bK R ?_
     obtain rfl:=oI hv
     exact zS
   ·replace uq:=bF uq
    replace hv:=bN hv uq
    refine bl uq<|bl uq<|bl uq<|sN<|bY uq R<|bS R<|sK<|sN<|bY R R<|bK R ?_
    obtain rfl:=oI hv
    exact zS
  clear hv
  refine LH.ret ?_
  obtain rfl:=oI h
  exact ba<|aT Tryz.results5
end Go.Proofs.YtiinmaihgmfniaaGreat
