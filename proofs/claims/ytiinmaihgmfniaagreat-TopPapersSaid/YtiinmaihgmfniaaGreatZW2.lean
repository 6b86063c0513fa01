import Derived.Test.YtiinmaihgmfniaaGreatZW1
set_option linter.unusedVariables false
set_option linter.unusedSimpArgs false
set_option maxRecDepth 100000
set_option maxHeartbeats 1000000
namespace Go.Proofs.YtiinmaihgmfniaaGreat
open Go.L Go.Sh
theorem Yi {F:Nat} {p0:List Int} {p1:List Int} {r:Bool} (h:Dd F p0 p1=some r):aF Tryz.prog 225 [.L p0,.L p1] (Mem.of []) (.bool r) (Mem.of []):=by
  unfold Dd at h
  refine aW Tryz.func225 R (nT Tryz.ntmps225 R)<|LH.ae R (bK R zQ)<|LH.seq<|LH.ae R (dC R<|sN<|bx (f:=LV.I) bd R<|dC R<|sN<|bx (f:=LV.I) bd R<|sN<|iR R R zQ) (LH.cd h R (fun hc1 h=>?_) fun hc1 h=>?_)
  ·refine LH.ae R (bK R zQ)<|LH.ret<|aA ?_
   obtain rfl:=oI h
   exact ba<|aT Tryz.results225
  refine LH.skip<|ag<|LH.seq<|LH.ae R (dC R<|sN<|bx (f:=LV.I) bd R<|aN R zQ)<|LH.block<|LH.bW (fun n e m=>∃ (n2:Int),JB p0 p1 n n2=some r∧e=Env.of [(0,.L p0),(1,.L p1),(12,.I (p0.length:Int)),(13,.I n2)]∧m=Mem.of []) F ⟨0,h,R,R⟩ ?_
  clear h
  rintro n e m ⟨n2,h,rfl,rfl⟩
  rcases n with _ | n
  · exact nX h
  obtain ⟨aE,aC⟩:∃ f,f=JB p0 p1 n:=⟨_,rfl⟩
  replace h:No p0 p1 aE n2=some r:=aC ▸ h
  unfold No at h
  refine LH.ae R (sN<|dK R R zQ)<|LH.seq (LH.cd h R (fun mn h=>?_) fun mn h=>?_)
  ·refine LH.skip<|ag<|LH.seq<|LH.block<|LH.ae R (aN R<|aX R zQ) ?_
   obtain ⟨x4,AG,h⟩:=aa h
   obtain ⟨x5,nb,h⟩:=aa h
   refine LH.lN mixed [] [0,0,0,0,0,0,0,0,0] R R (by kernel_rfl) (nM R<|gu R<|aI<|dJ (f:=LV.I) bd aw aL R R gB AG R ⟨R,aI<|aS R aw br ⟨R,nM R<|gu R<|aI<|dJ (f:=LV.I) bd aw aL R R gB nb R ⟨R,aI<|aS R aw br ⟨R,aI<|iR R R ⟨R,zV⟩⟩⟩⟩⟩) (LH.cd h R (fun lz h=>?_) fun lz h=>?_)
   ·refine LH.ae R (bK R zQ)<|LH.ret<|aU<|aA<|cc<|aU<|aA ?_
    obtain rfl:=oI h
    exact ba<|aT Tryz.results225
   refine LH.skip<|aB<|ag<|LH.aJ R (sN<|bw R R<|aN R zQ) ?_
   exact aM ⟨(i64 (n2+1)),aC ▸ h,R,R⟩<|Wk.eq R R R R
  refine LH.exit<|bB<|bc<|aZ<|ag<|LH.ae R (bK R zQ)<|LH.ret ?_
  obtain rfl:=oI h
  exact ba<|aT Tryz.results225
theorem YY {F:Nat} {p0:ah} {p1:ah} {r:Bool} (h:D9 F p0 p1=some r):aF Tryz.prog 211 [ah.lv p0,ah.lv p1] (Mem.of []) (.bool r) (Mem.of []):=by
  unfold D9 at h
  refine aW Tryz.func211 R (nT Tryz.ntmps211 R)<|LH.ae R (sB<|da R R R R<|sB<|da R R R R<|bK R zQ) ?_
  obtain ⟨w2,hv,h⟩:=aa h
  refine LH.tr [] 4 w2 [] R ?_ ?_
  ·refine sN<|av ei aw aL R R R<|sN<|aS R aw br<|sN<|av ei aw aL R R R<|sN<|aS R aw br<|sN<|gv R R<|bS R ?_
   by_cases hb3:(p0.ID == p1.ID)=true
   ·replace hv:=bO hv hb3
    refine aK hb3<|av gR aw aL R R R<|aK hb3<|aS R aw br<|aK hb3<|av gR aw aL R R R<|aK hb3<|aS R aw br<|aK hb3<|gv R R<|sN<|df hb3 R<|bS R ?_
    by_cases bP:(p0.Version == p1.Version)=true
    ·replace hv:=bO hv bP
     refine aK bP<|av lR E6 NS R R R<|aK bP<|aS R E6 Vu<|aK bP<|av lR E6 NS R R R<|aK bP<|aS R E6 Vu<|sXT R (cB bP) ((MX R R).ok)<|sN<|df bP R<|bS R ?_
     by_cases fz:(decide (p0.cO=p1.cO))=true
     ·replace hv:=bO hv fz
      refine aK fz<|av dP b8 dG R R R<|aK fz<|aS R b8 fh<|aK fz<|av dP b8 dG R R R<|aK fz<|aS R b8 fh ?_
      obtain ⟨r6,WD,hv⟩:=aa hv
      refine aK fz<|dh T7 (Yg WD)<|sN<|df fz R<|bS R ?_
      by_cases cg:r6=true
      ·replace hv:=bO hv cg
       refine aK cg<|av iv bj cC R R R<|aK cg<|aS R bj dr<|aK cg<|av iv bj cC R R R<|aK cg<|aS R bj dr ?_
       obtain ⟨r8,SS,hv⟩:=aa hv
       refine aK cg<|dh T8 (Yi SS)<|sN<|df cg R<|bK R ?_
       obtain rfl:=oI hv
       exact zS
      ·replace cg:=bF cg
       replace hv:=bN hv cg
       refine bl cg<|bl cg<|bl cg<|bl cg<|bl cg<|sN<|bY cg R<|bK R ?_
       obtain rfl:=oI hv
       exact zS
     ·replace fz:=bF fz
      replace hv:=bN hv fz
      refine bl fz<|bl fz<|bl fz<|bl fz<|bl fz<|sN<|bY fz R<|bS R<|sK<|sN<|bY R R<|bK R ?_
      obtain rfl:=oI hv
      exact zS
    ·replace bP:=bF bP
     replace hv:=bN hv bP
     refine bl bP<|bl bP<|bl bP<|bl bP<|bl bP<|sN<|bY bP R<|bS R<|sK<|sN<|bY R R<|bS R<|sK<|sN<|bY R R<|bK R ?_
     obtain rfl:=oI hv
     exact zS
   ·replace hb3:=bF hb3
    replace hv:=bN hv hb3
    refine bl hb3<|bl hb3<|bl hb3<|bl hb3<|bl hb3<|sN<|bY hb3 R<|bS R<|sK<|sN<|bY R R<|bS R<|sK<|sN<|bY R R<|bS R<|sK<|sN<|bY R R<|bK R ?_
    obtain rfl:=oI hv
    exact zS
  clear hv
  refine LH.ret ?_
  obtain rfl:=oI h
  exact ba<|aT Tryz.results211
theorem Za {F:Nat} {p0:bu} {p1:bu} {r:Bool} (h:kN F p0 p1=some r):aF Tryz.prog 178 [bu.lv p0,bu.lv p1] (Mem.of []) (.bool r) (Mem.of []):=by
  unfold kN at h
  refine aW Tryz.func178 R (nT Tryz.ntmps178 R)<|LH.ae R (sB<|da R R R R<|sB<|da R R R R<|bK R zQ) ?_
  obtain ⟨w2,hv,h⟩:=aa h
  refine LH.dF [] 4 w2 [] R ?_ ?_
  ·refine sN<|av ej dw du R R R<|sN<|a7 R dw kG du R R<|sN<|av ej dw du R R R<|sN<|a7 R dw kG du R R<|sN<|Uf R R (RZ p0.ai p1.ai)<|bS R ?_
   by_cases hb3:(decide (p0.ai=p1.ai))=true
   ·replace hv:=bO hv hb3
    refine aK hb3<|av fv aw aL R R R<|aK hb3<|aS R aw br<|aK hb3<|av fv aw aL R R R<|aK hb3<|aS R aw br<|aK hb3<|gv R R<|sN<|df hb3 R<|bS R ?_
    by_cases bP:(p0.Kind == p1.Kind)=true
    ·replace hv:=bO hv bP
     refine aK bP<|av gm fj eM R R R<|aK bP<|a7 R fj sj eM R R<|aK bP<|av gm fj eM R R R<|aK bP<|a7 R fj sj eM R R<|aK bP<|Uf R R (Qi p0.Ref p1.Ref)<|sN<|df bP R<|bS R ?_
     by_cases fz:(decide (p0.Ref=p1.Ref))=true
     ·replace hv:=bO hv fz
      refine aK fz<|av pZ aw aL R R R<|aK fz<|aS R aw br<|aK fz<|av pZ aw aL R R R<|aK fz<|aS R aw br<|aK fz<|gv R R<|sN<|df fz R<|bS R ?_
      by_cases bn:(p0.Form == p1.Form)=true
      ·replace hv:=bO hv bn
       refine aK bn<|av fw bm bk R R R<|aK bn<|a7 R bm dn bk R R<|aK bn<|av fw bm bk R R R<|aK bn<|a7 R bm dn bk R R ?_
       obtain ⟨r7,yf,hv⟩:=aa hv
       refine aK bn<|dh T0 (YY yf)<|sN<|df bn R<|bK R ?_
       obtain rfl:=oI hv
       exact zS
      ·replace bn:=bF bn
       replace hv:=bN hv bn
       refine bl bn<|bl bn<|bl bn<|bl bn<|bl bn<|sN<|bY bn R<|bK R ?_
       obtain rfl:=oI hv
       exact zS
     ·replace fz:=bF fz
      replace hv:=bN hv fz
      refine bl fz<|bl fz<|bl fz<|bl fz<|bl fz<|sN<|bY fz R<|bS R<|sK<|sN<|bY R R<|bK R ?_
      obtain rfl:=oI hv
      exact zS
    ·replace bP:=bF bP
     replace hv:=bN hv bP
     refine bl bP<|bl bP<|bl bP<|bl bP<|bl bP<|sN<|bY bP R<|bS R<|sK<|sN<|bY R R<|bS R<|sK<|sN<|bY R R<|bK R ?_
     obtain rfl:=oI hv
     exact zS
   ·replace hb3:=bF hb3
    replace hv:=bN hv hb3
    refine bl hb3<|bl hb3<|bl hb3<|bl hb3<|bl hb3<|sN<|bY hb3 R<|bS R<|sK<|sN<|bY R R<|bS R<|sK<|sN<|bY R R<|bS R<|sK<|sN<|bY R R<|bK R ?_
    obtain rfl:=oI hv
    exact zS
  clear hv
  refine LH.ret ?_
  obtain rfl:=oI h
  exact ba<|aT Tryz.results178
theorem H0 {p0:ah} {r:ah} (h:tQ p0=some r):aF Tryz.prog 113 [ah.lv p0] (Mem.of []) (ah.lv r) (Mem.of []):=by
  unfold tQ at h
  refine aW Tryz.func113 R (nT Tryz.ntmps113 R)<|LH.ae R (sN<|oBx (id:=101) R R R R R R<|sN<|ib (id:=102) R lX R R zQ) ?_
  obtain ⟨v1,jj,h⟩:=aa h
  refine LH.ae R (sN<|eF dP b8 dG R R<|sN<|de R R R R b8 fh<|sN<|dh TO (aF.BV (kW (g:=aq.lv) IM R 105 jj) R)<|sN<|eF dP b8 dG R R<|s_<|cN R R R b8 dG R R R zQ) ?_
  obtain ⟨v2,hv2,h⟩:=aa h
  refine LH.cM R (sN<|eF iv bj cC R R<|sN<|de R R R R bj dr<|sN<|dh yR (aF.BV (kW (g:=LV.I) mO R 109 hv2) R)<|sN<|eF iv bj cC R R<|s_<|cN R R R bj cC R R R<|s0<|zB [1,2] [101,102] 101 R)<|LH.cM R (sN<|a7 R bm dn bk R R<|s_<|cN R R R bm bk R R R<|s0<|zB [2] [102] 102 R)<|LH.ret ?_
  obtain rfl:=oI h
  exact bL (aT Tryz.results113)<|eE R bm dn bk R R<|dN lY
theorem YO {F:Nat} {p0:List bu} {r:List bu × Int} (h:D2 F p0=some r):aF Tryz.prog 112 [.lst 12 (p0.map bu.lv)] (Mem.of []) (.tup [.lst 12 (r.1.map bu.lv),.I r.2]) (Mem.of []):=by
  unfold D2 at h
  refine aW Tryz.func112 R (nT Tryz.ntmps112 R)<|LH.ae R (kE R<|aX R zQ) ?_
  obtain ⟨r1,dI,h⟩:=aa h
  refine LH.ae R (dC R<|sN<|dh TL (X8 (dQ:=177) (cW:=[]) TM R (fun _ _ h=>Yx h) (jv:=178) (fO:=[]) TN R (fun _ _ _ h=>Za h) dI)<|sG R<|sN<|gj R R<|sN<|gj R R<|qV R<|aX R zQ)<|LH.seq<|LH.ae R (aN R<|sN<|iR R R zQ) (LH.cd h R (fun gK h=>?_) fun gK h=>?_)
  ·refine LH.ae R (aN R<|kE R<|aX R zQ)<|LH.ret<|aA ?_
   obtain rfl:=oI h
   exact bL (aT Tryz.results112)<|dx R<|dx R<|dN lY
  refine LH.skip<|ag ?_
  obtain ⟨v3,S6,h⟩:=aa h
  refine LH.ae R (dC R<|sN<|bx (f:=LV.I) bd R<|sX (MW (f:=bu.lv) (z:=(bu.mk (bJ.mk 0 0 0) 0 (ah.mk 0 0 (ByteArray.mk #[]) [] []) (bD.mk 0 0) 0)) (id:=119) R my xF zY eT R R R (Sub.agg<|bZ<|bZ<|bZ<|bZ<|bZ<|bZ<|bZ<|Oo<|Oo<|bZ<|bZ<|bZ fF) bu.ok S6 R)<|sE R zQ)<|LH.seq<|LH.ae R (dC R<|sN<|bx (f:=LV.I) bd R<|aN R zQ)<|LH.block<|LH.bW (fun n e m=>∃ (n4:Int) (l5:List bu),wE p0 r1 n n4 l5=some r∧e=Env.of [(0,.lst 12 (p0.map bu.lv)),(6,.arr 119 l5.length),(20,.L r1.1),(21,.I (r1.1.length:Int)),(22,.I n4)]∧m=Mem.of [(119,.arr 110 12 (l5.map bu.lv))]) F ⟨0,v3,h,R,R⟩ ?_
  clear h
  rintro n e m ⟨n4,l5,h,rfl,rfl⟩
  rcases n with _ | n
  · exact nX h
  obtain ⟨aE,aC⟩:∃ f,f=wE p0 r1 n:=⟨_,rfl⟩
  replace h:Dg p0 r1 aE n4 l5=some r:=aC ▸ h
  unfold Dg at h
  refine LH.ae R (sN<|dK R R zQ)<|LH.seq (LH.cd h R (fun lz h=>?_) fun lz h=>?_)
  ·refine LH.skip<|ag<|LH.seq<|LH.block ?_
   obtain ⟨x7,yP,h⟩:=aa h
   refine LH.ae R (aN R<|sN<|dJ (f:=LV.I) bd aw aL R R gB yP R<|sN<|aS R aw br<|aX R<|aX R zQ) ?_
   obtain ⟨x8,Ck,h⟩:=aa h
   obtain ⟨x9,rM,h⟩:=aa h
   refine LH.cK [(0,.lst 12 (p0.map bu.lv)),(6,.arr 119 (List.length<|l5.set n4.toNat x8)),(7,.I n4),(8,.I x7),(20,.L r1.1),(21,.I (r1.1.length:Int)),(22,.I n4)] [(119,.arr 110 12 (List.map bu.lv<|l5.set n4.toNat x8))] R (lh R<|aN R<|dC R<|aN R<|sN<|dJ (f:=bu.lv) my fL eT R R bu.ok Ck R<|sN<|a7 R fL lO eT R R<|sN<|eI (f:=bu.lv) my fL eT R R R rM<|s_<|kC (f:=bu.lv) (z':=x8) R R R R fL eT R (cU rM).2 R<|s0<|Wk.to (eC R<|eC (congrArg (LV.arr 119) (by simp))<|eC R<|eC R<|eC R<|eC R<|eC R eN) ⟨R,trivial⟩ R<|cF R) ?_
   obtain ⟨mI,oJ,h⟩:=aa h
   obtain ⟨dS,j5,h⟩:=aa h
   obtain ⟨kb,ux,h⟩:=aa h
   refine LH.gU [(0,.lst 12 (p0.map bu.lv)),(6,.arr 119 (List.length<|(l5.set n4.toNat x8).set n4.toNat<|bu.mk kb.ai kb.Kind dS kb.Ref kb.Form)),(20,.L r1.1),(21,.I (r1.1.length:Int)),(22,.I n4)] [(119,.arr 110 12 (List.map bu.lv<|(l5.set n4.toNat x8).set n4.toNat<|bu.mk kb.ai kb.Kind dS kb.Ref kb.Form))] R (lh R<|aN R<|dC R<|aN R<|sN<|dJ (f:=bu.lv) my fL eT R R bu.ok oJ R<|sN<|av fw bm bk R R R<|sN<|a7 R bm dn bk R R<|sN<|dh AH (H0 j5)<|sN<|eI (f:=bu.lv) my fL eT R R R ux<|sN<|Jp (f:=bu.lv) fw bm bk R R R<|s_<|kC (f:=bu.lv) (z':=(bu.mk kb.ai kb.Kind dS kb.Ref kb.Form)) R R R R bm bk R (cU ux).2 R<|s0<|Wk.to (eC R<|eC (congrArg (LV.arr 119) (by simp))<|eC R<|eC R<|eC R eN) ⟨R,trivial⟩ R<|cF R)<|aB<|ag<|LH.aJ R (sN<|bw R R<|aN R zQ) ?_
   exact aM ⟨(i64 (n4+1)),((l5.set n4.toNat x8).set n4.toNat<|bu.mk kb.ai kb.Kind dS kb.Ref kb.Form),aC ▸ h,R,R⟩<|Wk.eq R R R R
  refine LH.exit<|bB<|bc<|aZ<|ag<|LH.wk ((Wk.trans (bQ [6] [119])<|Wk.trans (Wk.mZ (f:=bu.lv) (ig:=[(6,.lst 12 (l5.map bu.lv))]) 119 110 12 l5 R R (cv R)<|fZ fN)<|bQ [6] []))<|LH.ae R (dC R<|qV R<|aX R zQ)<|LH.ret ?_
  obtain rfl:=oI h
  exact bL (aT Tryz.results112)<|dx R<|dx R<|dN lY
theorem Rp {p0:Int} {r:Bool} (h:zE p0=some r):aF Tryz.prog 137 [.I p0] (Mem.of []) (.bool r) (Mem.of []):=by
  unfold zE at h
  refine aW Tryz.func137 R (nT Tryz.ntmps137 R)<|LH.ae R (bK R zQ)<|LH.dF [] 2 ((decide (p0 ≥ 0)) && (decide (p0≤9999))) [] R ?_ ?_
  ·refine aN R<|sN<|ot R R<|bS R ?_
   generalize (decide (p0 ≥ 0))=hb2; cases hb2
   ·exact sK<|sN<|bY R R<|bK R zS
   ·exact sT R R<|oM (v:=(.int _ _)) R<|sT R R<|Kh R R<|sN<|df R R<|bK R zS
  refine LH.ret ?_
  obtain rfl:=oI h
  exact ba<|aT Tryz.results137
theorem YS {F:Nat} {p0:ByteArray} {r:Bool} (h:D7 F p0=some r):aF Tryz.prog 138 [.str p0] (Mem.of []) (.bool r) (Mem.of []):=by
  unfold D7 at h
  refine aW Tryz.func138 R (nT Tryz.ntmps138 R)<|LH.ae R (bK R zQ)<|LH.seq<|LH.ae R (aX R zQ)<|LH.block<|LH.bW (fun n e m=>∃ (n1:Int),wM p0 n n1=some r∧e=Env.of [(0,.str p0),(3,.I n1)]∧m=Mem.of []) F ⟨0,h,R,R⟩ ?_
  clear h
  rintro n e m ⟨n1,h,rfl,rfl⟩
  rcases n with _ | n
  · exact nX h
  obtain ⟨aE,aC⟩:∃ f,f=wM p0 n:=⟨_,rfl⟩
  replace h:Dn p0 aE n1=some r:=aC ▸ h
  unfold Dn at h
  refine LH.seq<|LH.ae R (aN R<|sN<|oM (v:=(.str _)) R<|sX ((HP Zo R).ok)<|sN<|dK R R zQ) (LH.cd h R (fun gK h=>?_) fun gK h=>?_)
  ·refine LH.skip<|ag<|LH.seq<|LH.block ?_
   obtain ⟨w4,hv,h⟩:=aa h
   refine LH.tr [0,3] 19 w4 [] R ?_ ?_
   ·refine sN<|oM (v:=(.str _)) R<|aN R ?_
    obtain ⟨x5,nb,hv⟩:=aa hv
    refine sX ((MY Zo R R nb).ok)<|sN<|dK R R<|bS R ?_
    by_cases bn:(decide (x5<32))=true
    ·obtain rfl:=oI (bO hv bn)
     rw [bn]; exact zA
    ·replace bn:=bF bn
     replace hv:=bN hv bn
     refine aK bn<|oM (v:=(.str _)) R<|aK bn<|oM (v:=(.int _ _)) R ?_
     obtain ⟨x7,yP,hv⟩:=aa hv
     refine sXT R (cB bn) ((MY Zo R R yP).ok)<|aK bn<|hJ R R<|sN<|bY bn R ?_
     obtain rfl:=oI hv
     exact zS
   clear hv
   refine LH.cd h R (fun oF h=>?_) fun oF h=>?_
   ·refine LH.ae R (bK R zQ)<|LH.ret<|aU<|aA<|cc<|aU<|aA ?_
    obtain rfl:=oI h
    exact ba<|aT Tryz.results138
   refine LH.skip<|aB<|ag<|LH.aJ R (aN R<|sN<|bw R R<|aX R zQ) ?_
   exact aM ⟨(i64 (n1+1)),aC ▸ h,R,R⟩<|Wk.eq R R R R
  refine LH.exit<|bB<|bc<|aZ<|ag<|LH.ae R (bK R zQ)<|LH.ret ?_
  obtain rfl:=oI h
  exact ba<|aT Tryz.results138
theorem Rl {p0:aq} {r:Bool} (h:zu p0=some r):aF Tryz.prog 83 [aq.lv p0] (Mem.of []) (.bool r) (Mem.of []):=by
  unfold zu at h
  refine aW Tryz.func83 R (nT Tryz.ntmps83 R)<|LH.ae R (sB<|da R R R R<|bK R zQ)<|LH.seq<|LH.dF [1] 30 ((decide (p0.Max<1)) || ((decide (p0.Max > 40)) || ((decide (p0.fx<0)) || ((decide (p0.fx ≥ 16)) || ((decide (p0.cG<0)) || (decide (p0.cG ≥ 6))))))) [] R ?_ ?_
  ·refine sN<|av kI aw aL R R R<|sN<|aS R aw br<|sN<|dK R R<|bS R ?_
   by_cases hb2:(decide (p0.Max<1))=true
   ·exact bl hb2<|bl hb2<|bl hb2<|sN<|df hb2 R<|bS R<|sK<|sN<|df R R<|bS R<|sK<|sN<|df R R<|bS R<|sK<|sN<|df R R<|bS R<|sK<|sN<|df R R<|s0<|Wk.to (eC R<|eC (cB<|wz hb2) eN) mN R<|cF R
   ·replace hb2:=bF hb2
    refine aK hb2<|av kI aw aL R R R<|aK hb2<|aS R aw br<|aK hb2<|hJ R R<|sN<|bY hb2 R<|bS R ?_
    by_cases hb3:(decide (p0.Max > 40))=true
    ·exact bl hb3<|bl hb3<|bl hb3<|sN<|df hb3 R<|bS R<|sK<|sN<|df R R<|bS R<|sK<|sN<|df R R<|bS R<|sK<|sN<|df R R<|s0<|Wk.to (eC R<|eC (cB<|Eq.trans (wz hb3)<|kR hb2) eN) mN R<|cF R
    ·replace hb3:=bF hb3
     refine aK hb3<|av p5 aw aL R R R<|aK hb3<|aS R aw br<|aK hb3<|dK R R<|sN<|bY hb3 R<|bS R ?_
     by_cases bP:(decide (p0.fx<0))=true
     ·exact bl bP<|bl bP<|bl bP<|sN<|df bP R<|bS R<|sK<|sN<|df R R<|bS R<|sK<|sN<|df R R<|s0<|Wk.to (eC R<|eC (cB<|Eq.trans (Eq.trans (wz bP)<|kR hb3)<|kR hb2) eN) mN R<|cF R
     ·replace bP:=bF bP
      refine aK bP<|av p5 aw aL R R R<|aK bP<|aS R aw br<|aK bP<|ot R R<|sN<|bY bP R<|bS R ?_
      by_cases fz:(decide (p0.fx ≥ 16))=true
      ·exact bl fz<|bl fz<|bl fz<|sN<|df fz R<|bS R<|sK<|sN<|df R R<|s0<|Wk.to (eC R<|eC (cB<|Eq.trans (Eq.trans (Eq.trans (wz fz)<|kR bP)<|kR hb3)<|kR hb2) eN) mN R<|cF R
      ·replace fz:=bF fz
       refine aK fz<|av oa aw aL R R R<|aK fz<|aS R aw br<|aK fz<|dK R R<|sN<|bY fz R<|bS R ?_
       by_cases bn:(decide (p0.cG<0))=true
       ·exact bl bn<|bl bn<|bl bn<|sN<|df bn R<|s0<|Wk.to (eC R<|eC (cB<|Eq.trans (Eq.trans (Eq.trans (Eq.trans (wz bn)<|kR fz)<|kR bP)<|kR hb3)<|kR hb2) eN) mN R<|cF R
       ·replace bn:=bF bn
        exact aK bn<|av oa aw aL R R R<|aK bn<|aS R aw br<|aK bn<|ot R R<|sN<|bY bn R<|s0<|Wk.to (eC R<|eC (cB<|Eq.trans (Eq.trans (Eq.trans (Eq.trans (kR bn)<|kR fz)<|kR bP)<|kR hb3)<|kR hb2) eN) mN R<|cF R
  refine LH.cd h R (fun xS h=>?_) fun xS h=>?_
  ·refine LH.ae R (bK R zQ)<|LH.ret<|aA ?_
   obtain rfl:=oI h
   exact ba<|aT Tryz.results83
  refine LH.skip<|ag<|LH.seq<|LH.ae R (sN<|av su aw aL R R R<|sN<|aS R aw br zQ)<|LH.block<|LH.ae R (sN<|gv R R<|bK R zQ) (LH.cd h R (fun oF h=>?_) fun oF h=>?_)
  ·refine LH.dF [] 2 ((p0.Options == 0) && (p0.Key == 0)) [] R ?_ ?_
   ·refine sN<|av oc aw aL R R R<|sN<|aS R aw br<|sN<|gv R R<|bS R ?_
    generalize (p0.Options == 0)=dj; cases dj
    ·exact sK<|sN<|bY R R<|bK R zS
    ·exact sT R R<|av sv aw aL R R R<|sT R R<|aS R aw br<|sT R R<|gv R R<|sN<|df R R<|bK R zS
   refine LH.ret<|aU<|aA ?_
   obtain rfl:=oI h
   exact ba<|aT Tryz.results83
  refine LH.ae R (sN<|gv R R<|bK R zQ) (LH.cd h R (fun vI h=>?_) fun vI h=>?_)
  ·refine LH.dF [] 2 ((decide (p0.Options ≥ 2)) && ((decide (p0.Options≤5)) && ((decide (p0.Key ≥ 0)) && (decide (p0.Key<p0.Options))))) [] R ?_ ?_
   ·refine sN<|av oc aw aL R R R<|sN<|aS R aw br<|sN<|ot R R<|bS R ?_
    by_cases dq:(decide (p0.Options ≥ 2))=true
    ·refine aK dq<|av oc aw aL R R R<|aK dq<|aS R aw br<|aK dq<|Kh R R<|sN<|df dq R<|bS R ?_
     by_cases cI:(decide (p0.Options≤5))=true
     ·refine aK cI<|av sv aw aL R R R<|aK cI<|aS R aw br<|aK cI<|ot R R<|sN<|df cI R<|bS R ?_
      by_cases cw:(decide (p0.Key ≥ 0))=true
      ·exact aK cw<|av sv aw aL R R R<|aK cw<|aS R aw br<|aK cw<|av oc aw aL R R R<|aK cw<|aS R aw br<|aK cw<|dK R R<|sN<|df cw R<|bK R<|s0<|Wk.to (eC (cB<|Eq.trans (Eq.trans (eU cw)<|eU cI)<|eU dq) eN) mN R<|cF R
      ·replace cw:=bF cw
       exact bl cw<|bl cw<|bl cw<|bl cw<|bl cw<|sN<|bY cw R<|bK R<|s0<|Wk.to (eC (cB<|Eq.trans (Eq.trans (mf cw)<|eU cI)<|eU dq) eN) mN R<|cF R
     ·replace cI:=bF cI
      exact bl cI<|bl cI<|bl cI<|sN<|bY cI R<|bS R<|sK<|sN<|bY R R<|bK R<|s0<|Wk.to (eC (cB<|Eq.trans (mf cI)<|eU dq) eN) mN R<|cF R
    ·replace dq:=bF dq
     exact bl dq<|bl dq<|bl dq<|sN<|bY dq R<|bS R<|sK<|sN<|bY R R<|bS R<|sK<|sN<|bY R R<|bK R<|s0<|Wk.to (eC (cB<|mf dq) eN) mN R<|cF R
   refine LH.ret<|aU<|aA ?_
   obtain rfl:=oI h
   exact ba<|aT Tryz.results83
  refine LH.skip<|aB<|ag<|LH.ae R (bK R zQ)<|LH.ret ?_
  obtain rfl:=oI h
  exact ba<|aT Tryz.results83
theorem Yp {F:Nat} {p0:Int} {p1:List Int} {r:Bool} (h:DJ F p0 p1=some r):aF Tryz.prog 139 [.I p0,.L p1] (Mem.of []) (.bool r) (Mem.of []):=by
  unfold DJ at h
  refine aW Tryz.func139 R (nT Tryz.ntmps139 R)<|LH.ae R (bK R zQ)<|LH.seq<|LH.ae R (dC R<|sN<|bx (f:=LV.I) bd R<|aN R zQ)<|LH.block<|LH.bW (fun n e m=>∃ (n1:Int),JI p0 p1 n n1=some r∧e=Env.of [(0,.I p0),(1,.L p1),(7,.L p1),(8,.I (p1.length:Int)),(9,.I n1)]∧m=Mem.of []) F ⟨0,h,R,R⟩ ?_
  clear h
  rintro n e m ⟨n1,h,rfl,rfl⟩
  rcases n with _ | n
  · exact nX h
  obtain ⟨aE,aC⟩:∃ f,f=JI p0 p1 n:=⟨_,rfl⟩
  replace h:CS p0 p1 aE n1=some r:=aC ▸ h
  unfold CS at h
  refine LH.ae R (sN<|dK R R zQ)<|LH.seq (LH.cd h R (fun gK h=>?_) fun gK h=>?_)
  ·refine LH.skip<|ag<|LH.seq<|LH.block ?_
   obtain ⟨x3,fo,h⟩:=aa h
   refine LH.ae R (aN R<|sN<|dJ (f:=LV.I) bd aw aL R R gB fo R<|sN<|aS R aw br<|aX R<|aX R zQ) ?_
   obtain ⟨w5,hv,h⟩:=aa h
   refine LH.dF [0,1,7,8,9] 34 w5 [] R ?_ ?_
   ·refine aN R ?_
    obtain ⟨r6,WD,hv⟩:=aa hv
    refine sN<|dh Me (Rp WD)<|sN<|dB R<|bS R ?_
    by_cases cg:(!r6)=true
    ·obtain rfl:=oI (bO hv cg)
     rw [cg]; exact zA
    ·replace cg:=bF cg
     replace hv:=bN hv cg
     refine aK cg<|oM (v:=(.int _ _)) R<|aK cg<|oM (v:=(.int _ _)) R<|aK cg<|gv R R<|sN<|bY cg R<|bS R ?_
     by_cases cu:(x3 == p0)=true
     ·obtain rfl:=oI (bO hv cu)
      rw [cu]; exact zA
     ·replace cu:=bF cu
      replace hv:=bN hv cu
      refine aK cu<|oM (v:=(.int _ _)) R<|aK cu<|hJ R R<|aK cu<|oM (v:=(.bool _)) R ?_
      by_cases c7:(decide (n1 > 0))=true
      ·replace hv:=bO hv c7
       refine aK c7<|oM (v:=(.lst _ _)) R<|aK c7<|oM (v:=(.int _ _)) R<|aK c7<|j7 R R ?_
       obtain ⟨mI,oJ,hv⟩:=aa hv
       refine aK c7<|dJ (f:=LV.I) bd aw aL R R gB oJ R<|aK c7<|aS R aw br<|aK c7<|oM (v:=(.int _ _)) R<|aK c7<|ot R R<|aK cu<|df c7 R<|sN<|bY cu R ?_
       obtain rfl:=oI hv
       exact zS
      ·replace c7:=bF c7
       replace hv:=bN hv c7
       refine bl c7<|bl c7<|bl c7<|bl c7<|bl c7<|bl c7<|bl c7<|aK cu<|bY c7 R<|sN<|bY cu R ?_
       obtain rfl:=oI hv
       exact zS
   clear hv
   refine LH.cd h R (fun vI h=>?_) fun vI h=>?_
   ·refine LH.ae R (bK R zQ)<|LH.ret<|aU<|aA<|cc<|aU<|aA ?_
    obtain rfl:=oI h
    exact ba<|aT Tryz.results139
   refine LH.skip<|aB<|ag<|LH.aJ R (sN<|bw R R<|aN R zQ) ?_
   exact aM ⟨(i64 (n1+1)),aC ▸ h,R,R⟩<|Wk.eq R R R R
  refine LH.exit<|bB<|bc<|aZ<|ag<|LH.ae R (bK R zQ)<|LH.ret ?_
  obtain rfl:=oI h
  exact ba<|aT Tryz.results139
theorem tS {F:Nat} {p0:ah} {r:Int} (h:ou F p0=some r):aF Tryz.prog 73 [ah.lv p0] (Mem.of []) (.I r) (Mem.of []):=by
  unfold ou at h
  refine aW Tryz.func73 R (nT Tryz.ntmps73 R)<|LH.ae R (sB<|da R R R R<|aX R zQ)<|LH.seq ?_
  obtain ⟨w2,hv,h⟩:=aa h
  refine LH.dF [1] 18 w2 [] R ?_ ?_
  ·refine sN<|av ei aw aL R R R<|sN<|aS R aw br ?_
   obtain ⟨r3,hr3,hv⟩:=aa hv
   refine sN<|dh Me (Rp hr3)<|sN<|dB R<|bS R ?_
   by_cases bP:(!r3)=true
   ·obtain rfl:=oI (bO hv bP)
    rw [bP]; exact zA
   ·replace bP:=bF bP
    replace hv:=bN hv bP
    refine aK bP<|av gR aw aL R R R<|aK bP<|aS R aw br<|aK bP<|dK R R<|sN<|bY bP R<|bS R ?_
    by_cases fz:(decide (p0.Version<1))=true
    ·obtain rfl:=oI (bO hv fz)
     rw [fz]; exact zA
    ·replace fz:=bF fz
     replace hv:=bN hv fz
     refine aK fz<|av gR aw aL R R R<|aK fz<|aS R aw br<|aK fz<|hJ R R<|sN<|bY fz R ?_
     obtain rfl:=oI hv
     exact zS
  clear hv
  refine LH.cd h R (fun lz h=>?_) fun lz h=>?_
  ·refine LH.ae R (aX R zQ)<|LH.ret<|aA ?_
   obtain rfl:=oI h
   exact ba<|aT Tryz.results73
  refine LH.skip<|ag<|LH.seq<|LH.tr [1] 34 ((decide ((p0.cO.size:Int) > 40)) || ((decide ((p0.aH.length:Int) > 6)) || (decide ((p0.aO.length:Int) > 8)))) [] R ?_ ?_
  ·refine sN<|av lR E6 NS R R R<|sN<|aS R E6 Vu<|sX ((HP Zo R).ok)<|sN<|hJ R R<|bS R ?_
   by_cases cu:(decide ((p0.cO.size:Int) > 40))=true
   ·exact bl cu<|bl cu<|bl cu<|bl cu<|sN<|df cu R<|bS R<|sK<|sN<|df R R<|s0<|Wk.to (eC R<|eC (cB<|wz cu) eN) mN R<|cF R
   ·replace cu:=bF cu
    refine aK cu<|av dP b8 dG R R R<|aK cu<|aS R b8 fh<|aK cu<|bx (f:=aq.lv) ey R<|aK cu<|hJ R R<|sN<|bY cu R<|bS R ?_
    by_cases c7:(decide ((p0.aH.length:Int) > 6))=true
    ·exact bl c7<|bl c7<|bl c7<|bl c7<|sN<|df c7 R<|s0<|Wk.to (eC R<|eC (cB<|Eq.trans (wz c7)<|kR cu) eN) mN R<|cF R
    ·replace c7:=bF c7
     exact aK c7<|av iv bj cC R R R<|aK c7<|aS R bj dr<|aK c7<|bx (f:=LV.I) bd R<|aK c7<|hJ R R<|sN<|bY c7 R<|s0<|Wk.to (eC R<|eC (cB<|Eq.trans (kR c7)<|kR cu) eN) mN R<|cF R
  refine LH.cd h R (fun jf h=>?_) fun jf h=>?_
  ·refine LH.ae R (aX R zQ)<|LH.ret<|aA ?_
   obtain rfl:=oI h
   exact ba<|aT Tryz.results73
  refine LH.skip<|ag<|LH.seq ?_
  obtain ⟨w12,hv,h⟩:=aa h
  refine LH.tr [1] 43 w12 [] R ?_ ?_
  ·refine sN<|av lR E6 NS R R R<|sN<|aS R E6 Vu<|sX ((MX R R).ok)<|bS R ?_
   by_cases dq:(decide (p0.cO=(ByteArray.mk #[])))=true
   ·obtain rfl:=oI (bO hv dq)
    rw [dq]; exact zA
   ·replace dq:=bF dq
    replace hv:=bN hv dq
    refine aK dq<|av lR E6 NS R R R<|aK dq<|aS R E6 Vu ?_
    obtain ⟨fJ,s8,hv⟩:=aa hv
    refine aK dq<|dh TC (YS s8)<|aK dq<|dB R<|sN<|bY dq R ?_
    obtain rfl:=oI hv
    exact zS
  clear hv
  refine LH.cd h R (fun qd h=>?_) fun qd h=>?_
  ·refine LH.ae R (aX R zQ)<|LH.ret<|aA ?_
   obtain rfl:=oI h
   exact ba<|aT Tryz.results73
  refine LH.skip<|ag<|LH.seq<|LH.ae R (sN<|av dP b8 dG R R R<|sN<|aS R b8 fh<|sN<|bx (f:=aq.lv) ey R<|sN<|gv R R zQ) (LH.cd h R (fun o8 h=>?_) fun o8 h=>?_)
  ·refine LH.ae R (aX R zQ)<|LH.ret<|aA ?_
   obtain rfl:=oI h
   exact ba<|aT Tryz.results73
  refine LH.skip<|ag<|LH.seq<|LH.ae R (sN<|av dP b8 dG R R R<|sN<|aS R b8 fh<|sN<|bx (f:=aq.lv) ey R<|aN R zQ)<|LH.block<|LH.bW (fun n e m=>∃ (n17:Int),zD F p0 n n17=some r∧e=Env.of [(1,.sptr (ah.lv p0).cells),(49,.lst 6 (p0.aH.map aq.lv)),(50,.I (p0.aH.length:Int)),(51,.I n17)]∧m=Mem.of []) F ⟨0,h,R,R⟩ ?_
  clear h
  rintro n e m ⟨n17,h,rfl,rfl⟩
  rcases n with _ | n
  · exact nX h
  obtain ⟨aE,aC⟩:∃ f,f=zD F p0 n:=⟨_,rfl⟩
  replace h:D0 F p0 aE n17=some r:=aC ▸ h
  unfold D0 at h
  refine LH.ae R (sN<|dK R R zQ)<|LH.seq (LH.cd h R (fun sW h=>?_) fun sW h=>?_)
  ·refine LH.skip<|ag<|LH.seq<|LH.block ?_
   obtain ⟨Vw,Tb,h⟩:=aa h
   refine LH.cM R (sN<|dJ (f:=aq.lv) ey cR cm R R aq.ok Tb R<|sN<|a7 R cR fi cm R R<|sN<|ib (id:=104) R ud R R<|s_<|cN R R R cR cm R R R<|s0<|Wk.trans (bQ [1,4,49,50,51] [104])<|Wk.dz 104 (aq.lv Vw).cells R R R<|cv R) ?_
   obtain ⟨rj,vV,h⟩:=aa h
   refine LH.ae R (sN<|a7 R cR fi cm R R<|sN<|dh QS (Rl vV)<|sN<|dB R zQ) (LH.cd h R (fun sY h=>?_) fun sY h=>?_)
   ·refine LH.ae R (aX R zQ)<|LH.ret<|aU<|aA<|cc<|aU<|aA ?_
    obtain rfl:=oI h
    exact ba<|aT Tryz.results73
   refine LH.skip<|aB<|ag<|LH.aJ R (sN<|bw R R<|aN R zQ) ?_
   exact aM ⟨(i64 (n17+1)),aC ▸ h,R,R⟩<|Wk.eq R R R R
  refine LH.exit<|bB<|bc<|aZ<|ag<|LH.seq ?_
  obtain ⟨sa,AD,h⟩:=aa h
  refine LH.ae R (sN<|av ei aw aL R R R<|sN<|aS R aw br<|sN<|av iv bj cC R R R<|sN<|aS R bj dr<|sN<|dh TD (Yp AD)<|sN<|dB R zQ) (LH.cd h R (fun Li h=>?_) fun Li h=>?_)
  ·refine LH.ae R (aX R zQ)<|LH.ret<|aA ?_
   obtain rfl:=oI h
   exact ba<|aT Tryz.results73
  refine LH.skip<|ag<|LH.ae R (aX R zQ)<|LH.ret ?_
  obtain rfl:=oI h
  exact ba<|aT Tryz.results73
theorem X5 {F:Nat} {p0:List a8} {p1:Int} {p2:(a8→Int→Option Int)} {r:Int × Bool} {jv:Nat} {fO:List LV} (Ju:di Tryz.prog jv) (yr:LV.bf fO=true) (Jv:∀ (x0:a8) (x1:Int) (q:Int),p2 x0 x1=some q→aF Tryz.prog jv ([.agg [.I x0.ID,.lst 5 (x0.ak.map ah.lv),.lst 1 (x0.au.map LV.bool),.lst 3 (x0.Uses.map bH.lv),.bool x0.al],.I x1]++fO) (Mem.of []) (.I q) (Mem.of [])) (h:M7 F p0 p1 p2=some r):aF Tryz.prog 214 [.lst 5 (p0.map a8.lv),.I p1,.fn jv fO] (Mem.of []) (.tup [.I r.1,.bool r.2]) (Mem.of []):=by
  have M4:∀ {l:List LV},LV.bf l=true→LV.bf (l++fO)=true:=M5 yr
  have lB:LV.b6 fO=[]:=eK yr
  unfold M7 at h
  refine aW Tryz.func214 R (nT Tryz.ntmps214 R)<|LH.wk (Wk.to (el:=[(0,.lst 5 (p0.map a8.lv)),(1,.I p1),(2,.fn jv fO)]) (ml:=[]) (eQ ⟨R,R,R,trivial⟩) mN (by simp [aQ,LV.refs,LV.b6,LV.cells,dZ,Env.args,Env.of,Env.put,Env.drop,lB])<|cF R)<|LH.ae R (aX R<|bK R zQ)<|LH.ae R (dC R<|sN<|bx (f:=a8.lv) ss R<|aX R zQ)<|LH.cK [(0,.lst 5 (p0.map a8.lv)),(1,.I p1),(2,.fn jv fO),(8,.I (p0.length:Int)),(9,.I 0),(10,.I (p0.length:Int))] [] R (aN R<|aX R<|aX R<|s0<|Wk.to (eQ ⟨R,R,R,R,R,R,trivial⟩) mN (by simp [aQ,LV.refs,LV.b6,LV.cells,dZ,Env.args,Env.of,Env.put,Env.drop,lB])<|cF R)<|LH.seq<|LH.block<|LH.loop (fun n e m=>∃ (n1:Int) (n2:Int),Vq p0 p1 p2 n n1 n2=some r∧e=Env.of [(0,.lst 5 (p0.map a8.lv)),(1,.I p1),(2,.fn jv fO),(8,.I (p0.length:Int)),(9,.I n1),(10,.I n2)]∧m=Mem.of []) F ⟨0,(p0.length:Int),h,R,R⟩ ?_
  clear h
  rintro n e m ⟨n1,n2,h,rfl,rfl⟩
  rcases n with _ | n
  · exact nX h
  obtain ⟨aE,aC⟩:∃ f,f=Vq p0 p1 p2 n:=⟨_,rfl⟩
  replace h:PC p0 p1 p2 aE n1 n2=some r:=aC ▸ h
  unfold PC at h
  refine LH.seq<|LH.ae R (aN R<|aN R<|sN<|dK R R zQ) (LH.cd h R (fun mn h=>?_) fun mn h=>?_)
  ·refine LH.skip<|ag<|LH.wk (Wk.to (el:=[(0,.lst 5 (p0.map a8.lv)),(1,.I p1),(2,.fn jv fO),(8,.I (p0.length:Int)),(9,.I n1),(10,.I n2)]) (ml:=[]) (eQ ⟨R,R,R,R,R,R,trivial⟩) mN (by simp [aQ,LV.refs,LV.b6,LV.cells,dZ,Env.args,Env.of,Env.put,Env.drop,lB])<|cF R)<|LH.block<|LH.ae R (aN R<|aN R<|sN<|bw R R<|sN<|oCv aw Zu R<|sX ((Up R R (by decide)).ok)<|sN<|oCv Zw ti3 R<|aX R zQ) ?_
   obtain ⟨x4,AG,h⟩:=aa h
   obtain ⟨r5,qK,h⟩:=aa h
   refine LH.cK [(0,.lst 5 (p0.map a8.lv)),(1,.I p1),(2,.fn jv fO),(8,.I (p0.length:Int)),(9,.I n1),(10,.I n2),(11,.I (i64<|uC .u64 (IntKind.u64.wrap<|i64 (n1+n2)) 1)),(31,.bool (decide (r5<0)))] [] R ?_ ?_
   ·refine sN<|oM (v:=(.fn _ _)) R<|dC R<|aN R<|sN<|dJ (f:=a8.lv) ss jS jm R R a8.ok AG R<|sN<|a7 R jS xt jm R R<|aN R<|sN<|F5 (args:=[.agg [.I x4.ID,.lst 5 (x4.ak.map ah.lv),.lst 1 (x4.au.map LV.bool),.lst 3 (x4.Uses.map bH.lv),.bool x4.al],.I p1]++fO) (ew:=[.agg [.I x4.ID,.lst 5 (x4.ak.map ah.lv),.lst 1 (x4.au.map LV.bool),.lst 3 (x4.Uses.map bH.lv),.bool x4.al],.I p1]++fO) R Ju R fc.rfl (Jv _ _ _ qK) (M4 R) ?_
    exact sN<|dK R R<|s0<|Wk.to (eQ ⟨R,R,R,R,R,R,R,R,trivial⟩) mN (by simp [aQ,LV.refs,LV.b6,LV.cells,dZ,Env.args,Env.of,Env.put,Env.drop,lB])<|cF R
   refine LH.cd h R (fun lz h=>?_) fun lz h=>?_
   ·refine LH.aJ R (aN R<|sN<|bw R R<|aX R zQ)<|aB ?_
    exact aM ⟨(i64 ((i64<|uC .u64 (IntKind.u64.wrap<|i64 (n1+n2)) 1)+1)),n2,aC ▸ h,R,R⟩<|Wk.to (eQ ⟨R,R,R,R,R,R,trivial⟩) mN (by simp [aQ,LV.refs,LV.b6,LV.cells,dZ,Env.args,Env.of,Env.put,Env.drop,lB])<|cF R
   refine LH.aJ R (aN R<|aX R zQ)<|aB ?_
   exact aM ⟨n1,(i64<|uC .u64 (IntKind.u64.wrap<|i64 (n1+n2)) 1),aC ▸ h,R,R⟩<|Wk.to (eQ ⟨R,R,R,R,R,R,trivial⟩) mN (by simp [aQ,LV.refs,LV.b6,LV.cells,dZ,Env.args,Env.of,Env.put,Env.drop,lB])<|cF R
  refine LH.exit<|bB<|bc<|aZ<|ag ?_
  obtain ⟨w8,hv,h⟩:=aa h
  refine LH.cK [(6,.I n1),(7,.bool w8)] [] R ?_ ?_
  ·refine aN R<|aN R<|aN R<|sN<|dK R R<|bS R ?_
   by_cases c7:(decide (n1<(p0.length:Int)))=true
   ·replace hv:=bO hv c7
    refine aK c7<|oM (v:=(.fn _ _)) R<|aK c7<|oM (v:=(.lst _ _)) R<|aK c7<|oM (v:=(.int _ _)) R ?_
    obtain ⟨mI,oJ,hv⟩:=aa hv
    refine aK c7<|dJ (f:=a8.lv) ss jS jm R R a8.ok oJ R<|aK c7<|a7 R jS xt jm R R<|aK c7<|oM (v:=(.int _ _)) R ?_
    obtain ⟨dS,j5,hv⟩:=aa hv
    refine aK c7<|F5 (args:=[.agg [.I mI.ID,.lst 5 (mI.ak.map ah.lv),.lst 1 (mI.au.map LV.bool),.lst 3 (mI.Uses.map bH.lv),.bool mI.al],.I p1]++fO) (ew:=[.agg [.I mI.ID,.lst 5 (mI.ak.map ah.lv),.lst 1 (mI.au.map LV.bool),.lst 3 (mI.Uses.map bH.lv),.bool mI.al],.I p1]++fO) R Ju R fc.rfl (Jv _ _ _ j5) (M4 R) ?_
    refine aK c7<|gv R R<|sN<|df c7 R<|aX R<|bK R ?_
    obtain rfl:=oI hv
    exact s0<|Wk.to (eQ ⟨R,R,trivial⟩) mN (by simp [aQ,LV.refs,LV.b6,LV.cells,dZ,Env.args,Env.of,Env.put,Env.drop,lB])<|cF R
   ·replace c7:=bF c7
    replace hv:=bN hv c7
    refine bl c7<|bl c7<|bl c7<|bl c7<|bl c7<|bl c7<|bl c7<|bl c7<|sN<|bY c7 R<|aX R<|bK R ?_
    obtain rfl:=oI hv
    exact s0<|Wk.to (eQ ⟨R,R,trivial⟩) mN (by simp [aQ,LV.refs,LV.b6,LV.cells,dZ,Env.args,Env.of,Env.put,Env.drop,lB])<|cF R
  clear hv
  refine LH.ret ?_
  obtain rfl:=oI h
  exact bL (aT Tryz.results214)<|dx R<|dx R<|dN ⟨gP mN,R,cF R,(Sub.tup<|bZ<|bZ fF)⟩
theorem Y1 {p0:a8} {p1:Int} {r:Int} (h:xc p0 p1=some r):aF Tryz.prog 215 [a8.lv p0,.I p1] (Mem.of []) (.I r) (Mem.of []):=by
  unfold xc at h
  refine aW Tryz.func215 R (nT Tryz.ntmps215 R)<|LH.ae R (sB<|da R R R R<|aX R zQ) ?_
  obtain ⟨r1,dI,h⟩:=aa h
  refine LH.ae R (sN<|av nZ aw aL R R R<|sN<|aS R aw br<|aN R<|sN<|dh qN (dH dI)<|aX R zQ)<|LH.ret ?_
  obtain rfl:=oI h
  exact ba<|aT Tryz.results215
theorem Ru {F:Nat} {p0:bV} {p1:Int} {r:Int × Bool} (h:zI F p0 p1=some r):aF Tryz.prog 186 [.ptr 811 0,.I p1] (Mem.of [OB p0,(812,tN (p0.ab.map a8.lv))]) (.tup [.I r.1,.bool r.2]) (Mem.of [OB p0,(812,tN (p0.ab.map a8.lv))]):=by
  unfold zI at h
  refine aW Tryz.func186 R (nT Tryz.ntmps186 R)<|LH.ae R (aX R<|bK R zQ) ?_
  obtain ⟨r1,dI,h⟩:=aa h
  refine LH.ae R (fW R<|sN<|Jq R<|sN<|eF mA nu xC R R<|sN<|de R R R R nu A8<|aN R<|sN<|mw (args:=[.arr 812 p0.ab.length,.I p1,.fn 215 []]) (ml:=[(812,tN (p0.ab.map a8.lv))]) (eD:=[(812,tN (p0.ab.map a8.lv))]) R T3 R (bZ<|bZ<|bZ fF) (aF.XN 812 179 5 [(1,108,5),(2,4,1),(3,182,3)] (xs:=List.map a8.lv p0.ab) (a8.ok.bf _) (X5 (jv:=215) (fO:=[]) T4 R (fun _ _ _ h=>Y1 h) dI) (.row (by simp) (.keep R (.keep R .nil))) R R R R R Vp) ⟨R,trivial⟩ (bT R dO) R<|sN<|gj R R<|sN<|gj R R<|aX R<|bK R zQ)<|LH.ret ?_
  obtain rfl:=oI h
  exact bL (aT Tryz.results186)<|dx R<|dx R<|dN lY
theorem Y6 {F:Nat} {p0:bV} {p1:bu} {r:Int × bV} (h:Ef F p0 p1=some r):aF Tryz.prog 141 [.ptr 811 0,bu.lv p1] (Mem.of [OB p0,(812,tN (p0.ab.map a8.lv))]) (.I r.1) (Mem.of [(811,.box [.arr 812 r.2.ab.length]),(812,tN (r.2.ab.map a8.lv))]):=by
  unfold Ef at h
  refine aW Tryz.func141 R (nT Tryz.ntmps141 R)<|LH.ae R (sB<|da R R R R<|aX R zQ)<|LH.seq ?_
  obtain ⟨r1,dI,h⟩:=aa h
  refine LH.ae R (sN<|av fw bm bk R R R<|sN<|a7 R bm dn bk R R<|sN<|dh tM (tS dI)<|aX R zQ)<|LH.ae R (aN R<|sN<|iR R R zQ) (LH.cd h R (fun gK h=>?_) fun gK h=>?_)
  ·refine LH.ae R (aN R<|aX R zQ)<|LH.ret<|aA ?_
   obtain rfl:=oI h
   exact ba<|aT Tryz.results141
  refine LH.skip<|ag<|LH.seq<|LH.ae R (sN<|av fw bm bk R R R<|sN<|av gR aw aL R R R<|sN<|aS R aw br<|sN<|iR R R zQ) (LH.cd h R (fun mn h=>?_) fun mn h=>?_)
  ·refine LH.ae R (aX R zQ)<|LH.ret<|aA ?_
   obtain rfl:=oI h
   exact ba<|aT Tryz.results141
  refine LH.skip<|ag ?_
  obtain ⟨r4,FO,h⟩:=aa h
  refine LH.ae R (fW R<|sN<|av fw bm bk R R R<|sN<|av ei aw aL R R R<|sN<|aS R aw br<|sN<|mw (args:=[.ptr 811 0,.I p1.Item.ID]) (ml:=[OB p0,(812,tN (p0.ab.map a8.lv))]) (eD:=[OB p0,(812,tN (p0.ab.map a8.lv))]) R Mp R (bZ<|bZ fF) (Ru FO) ⟨R,R,trivial⟩ (bT R<|bT R dO) R<|sG R<|sN<|gj R R<|sN<|gj R R<|aX R<|bK R zQ)<|LH.seq<|LH.ae R (bS R zQ) (LH.cd h R (fun oV h=>?_) fun oV h=>?_)
  ·refine LH.ae R (aX R zQ)<|LH.ret<|aA ?_
   obtain rfl:=oI h
   exact ba<|aT Tryz.results141
  refine LH.skip<|ag<|LH.seq<|LH.ae R (fW R<|sN<|Jq R<|sN<|eF mA nu xC R R<|sN<|de R R R R nu A8<|sX ((MT (f:=a8.lv) (xs:=p0.ab) ss R R R).ok)<|sN<|ot R R zQ) (LH.cd h R (fun lz h=>?_) fun lz h=>?_)
  ·refine LH.ae R (aX R zQ)<|LH.ret<|aA ?_
   obtain rfl:=oI h
   exact ba<|aT Tryz.results141
  refine LH.skip<|ag ?_
  obtain ⟨r7,yf,h⟩:=aa h
  obtain ⟨v8,hv8,h⟩:=aa h
  refine LH.eY mixed [] [0,0,0,0,1811,0,0,0,0,0,0,0,1000000145,1000000146,0,1146145148,3,0,0,100811] [] [(811,.box [.arr 812 v8.length]),(812,tN (v8.map a8.lv))] R R (by kernel_rfl) ?_ ?_
  ·exact uy R<|uy R<|aI<|Jq R ⟨R,aI<|eF mA nu xC R R ⟨R,mD R R R (fun _ b _ d=>de R b R R nu A8 d)<|gu R<|aI<|av fw bm bk R R R ⟨R,aI<|av ei aw aL R R R ⟨R,aI<|aS R aw br ⟨R,aI<|av fw bm bk R R R ⟨R,aI<|a7 R bm dn bk R R ⟨R,aI<|dh AH (H0 yf) ⟨R,Vn R (oW.fresh R R (fun m0 h0=>cj.Zy [44] (by simp [Op.operands])<|MR (g:=ah.lv) (ys:=[r7]) (id:=145) fA zX bk R R R ah.ok h0))<|Vn R (oW.fresh R R (fun m0 h0=>cj.Zy [] (by simp [Op.operands])<|MR (g:=LV.bool) (ys:=[false]) (id:=146) ll tr4 oU R R R okB h0))<|aI<|hD (vs:=[(0,.I p1.Item.ID),(1,.arr 145 (List.length [r7])),(2,.arr 146 (List.length [false]))]) ZB Iw R (lf nZ aL aw R R R<|lf ix tz lr R R R<|lf kH pD gI R R R gZ) ⟨R,Vn R (oW.gone (S:=[145,146]) R (fun m0 h0=>Ui (id:=148) (os:=[(1,108,5),(2,4,1),(3,182,3)]) (S:=[145,146]) (cs:=[.I p1.Item.ID,.arr 145 (List.length [r7]),.arr 146 (List.length [false]),.nil,.bool false]) (eA:=[.I p1.Item.ID,.lst 5 (List.map ah.lv [r7]),.lst 1 (List.map LV.bool [false]),.lst 3 (List.map bH.lv ([]:List bH)),.bool false]) ss Zz jm R R R R ((h0 148 (by simp)).trans R) (abP R R<|abA (g:=ah.lv) (ys:=[r7]) R ((h0 145 (by simp)).trans R)<|abA (g:=LV.bool) (ys:=[false]) R ((h0 146 (by simp)).trans R)<|abZ R R<|abP R R abN) (by decide)<|fnC (cv R)<|fnC (cv R) fnN))<|mX (Ps (f:=a8.lv) (xs:=p0.ab) (z0:=(a8.mk p1.Item.ID [r7] [false] ([]:List bH) false)) TR Pe R R R R R (by decide) (cv R) hv8)<|aI<|Jq R ⟨R,aI<|eF mA nu xC R R ⟨R,mS R R R (fun _ b _ d=>cN R R R nu xC b R R d) zM⟩⟩⟩⟩⟩⟩⟩⟩⟩⟩⟩
  refine LH.ae R (aX R zQ)<|LH.ret ?_
  obtain rfl:=oI h
  exact ba<|aT Tryz.results141
theorem Nd {F:Nat} {p0:bV} {p1:Int} {r:Option Int} (h:xd F p0 p1=some r):aF Tryz.prog 188 [.ptr 811 0,.I p1] (Mem.of [OB p0,(812,tN (p0.ab.map a8.lv))]) (uz 812 p0.ab.length r) (Mem.of [OB p0,(812,tN (p0.ab.map a8.lv))]):=by
  unfold xd at h
  refine aW Tryz.func188 R (nT Tryz.ntmps188 R)<|LH.ae R (sN<|oA (v:=.nilp) R zQ) ?_
  obtain ⟨r1,dI,h⟩:=aa h
  refine LH.ae R (fW R<|aN R<|sN<|mw (args:=[.ptr 811 0,.I p1]) (ml:=[OB p0,(812,tN (p0.ab.map a8.lv))]) (eD:=[OB p0,(812,tN (p0.ab.map a8.lv))]) R Mp R (bZ<|bZ fF) (Ru dI) ⟨R,R,trivial⟩ (bT R<|bT R dO) R<|sG R<|sN<|gj R R<|sN<|gj R R<|aX R<|bK R zQ)<|LH.seq<|LH.ae R (bS R<|sN<|dB R zQ) (LH.cd h R (fun gK h=>?_) fun gK h=>?_)
  ·refine LH.ae R (sN<|oA (v:=.nilp) R zQ)<|LH.ret<|aA ?_
   obtain rfl:=oI h
   exact ba<|aT Tryz.results188
  refine LH.skip<|ag ?_
  obtain ⟨x3,fo,h⟩:=aa h
  refine LH.ae R (fW R<|sN<|Jq R<|sN<|eF mA nu xC R R<|sN<|de R R R R nu A8<|aN R<|sX ((Uk (f:=a8.lv) (xs:=p0.ab) ss jS jm R R R R fo).ok)<|sN<|oA (v:=(.eptr _ _ _ _)) R zQ)<|LH.ret ?_
  obtain rfl:=oI h
  exact ba<|aT Tryz.results188
theorem Y4 {F:Nat} {p0:bV} {p1:bu} {r:Int × bV} (h:Ed F p0 p1=some r):aF Tryz.prog 142 [.ptr 811 0,.agg [.I p1.ai.Time,.I p1.ai.Source,.I p1.ai.Seq,.I p1.Kind,.I p1.Item.ID,.I p1.Item.Version,.str p1.Item.cO,.lst 6 (p1.Item.aH.map aq.lv),.L p1.Item.aO,.I p1.Ref.ID,.I p1.Ref.Version,.I p1.Form]] (Mem.of [(811,.box [.arr 812 p0.ab.length]),(812,.nest 179 5 [(1,108,5),(2,4,1),(3,182,3)] (p0.ab.map a8.lv))]) (.I r.1) (Mem.of [(811,.box [.arr 812 r.2.ab.length]),(812,.nest 179 5 [(1,108,5),(2,4,1),(3,182,3)] (r.2.ab.map a8.lv))]):=by
  unfold Ed at h
  refine aW Tryz.func142 R (nT Tryz.ntmps142 R) ?_
  refine LH.wk (Wk.eq (el:=[(0,.ptr 811 0),(1,.agg [.I p1.ai.Time,.I p1.ai.Source,.I p1.ai.Seq,.I p1.Kind,.I p1.Item.ID,.I p1.Item.Version,.str p1.Item.cO,.lst 6 (p1.Item.aH.map aq.lv),.L p1.Item.aO,.I p1.Ref.ID,.I p1.Ref.Version,.I p1.Form])]) (ml:=[(811,.box [.arr 812 p0.ab.length]),(812,.nest 179 5 [(1,108,5),(2,4,1),(3,182,3)] (p0.ab.map a8.lv))]) R R R R) ?_
  refine LH.cK [(0,.ptr 811 0),(3,.sptr [.I p1.ai.Time,.I p1.ai.Source,.I p1.ai.Seq,.I p1.Kind,.I p1.Item.ID,.I p1.Item.Version,.str p1.Item.cO,.lst 6 (p1.Item.aH.map aq.lv),.L p1.Item.aO,.I p1.Ref.ID,.I p1.Ref.Version,.I p1.Form])] [(811,.box [.arr 812 p0.ab.length]),(812,.nest 179 5 [(1,108,5),(2,4,1),(3,182,3)] (p0.ab.map a8.lv))] R ?_ ?_
  ·refine sB (da R R R R ?_)
   refine aX R ?_
   exact zS
  refine LH.seq ?_
  obtain ⟨r1,dI,h⟩:=aa h
  refine LH.cK [(0,.ptr 811 0),(3,.sptr [.I p1.ai.Time,.I p1.ai.Source,.I p1.ai.Seq,.I p1.Kind,.I p1.Item.ID,.I p1.Item.Version,.str p1.Item.cO,.lst 6 (p1.Item.aH.map aq.lv),.L p1.Item.aO,.I p1.Ref.ID,.I p1.Ref.Version,.I p1.Form]),(5,.I r1)] [(811,.box [.arr 812 p0.ab.length]),(812,.nest 179 5 [(1,108,5),(2,4,1),(3,182,3)] (p0.ab.map a8.lv))] R ?_ ?_
  ·refine sN (av fw bm bk R R R ?_)
   refine sN (a7 R bm dn bk R R ?_)
   refine sN (F5 (args:=[.agg [.I p1.Item.ID,.I p1.Item.Version,.str p1.Item.cO,.lst 6 (p1.Item.aH.map aq.lv),.L p1.Item.aO]]) R tM R (bZ fF) (tS dI) R ?_)
   refine aX R ?_
   exact zS
  refine LH.cK [(0,.ptr 811 0),(3,.sptr [.I p1.ai.Time,.I p1.ai.Source,.I p1.ai.Seq,.I p1.Kind,.I p1.Item.ID,.I p1.Item.Version,.str p1.Item.cO,.lst 6 (p1.Item.aH.map aq.lv),.L p1.Item.aO,.I p1.Ref.ID,.I p1.Ref.Version,.I p1.Form]),(5,.I r1),(11,.bool (r1 != 0))] [(811,.box [.arr 812 p0.ab.length]),(812,.nest 179 5 [(1,108,5),(2,4,1),(3,182,3)] (p0.ab.map a8.lv))] R ?_ ?_
  ·refine aN R ?_
   refine sN (iR R R ?_)
   exact zS
  refine LH.cond (t:=(r1 != 0)) R (fun gK=>?_) (fun gK=>?_)
  ·replace h:=bO h gK
   refine LH.cK [(4,.I r1)] [(811,.box [.arr 812 p0.ab.length]),(812,.nest 179 5 [(1,108,5),(2,4,1),(3,182,3)] (p0.ab.map a8.lv))] R ?_ ?_
   ·refine aN R ?_
    refine aX R ?_
    exact zS
   refine LH.ret ?_
   refine aA ?_
   obtain rfl:=oI h
   exact bL (aT Tryz.results142) (dx R (dN ⟨gP (mC R (mC R mN)),R,cF R,Sub.rfl⟩))
  replace h:=bN h gK
  refine LH.skip ?_
  refine ag ?_
  obtain ⟨r3,hr3,h⟩:=aa h
  refine LH.cK [(3,.sptr [.I p1.ai.Time,.I p1.ai.Source,.I p1.ai.Seq,.I p1.Kind,.I p1.Item.ID,.I p1.Item.Version,.str p1.Item.cO,.lst 6 (p1.Item.aH.map aq.lv),.L p1.Item.aO,.I p1.Ref.ID,.I p1.Ref.Version,.I p1.Form]),(6,uz 812 p0.ab.length r3)] [(811,.box [.arr 812 p0.ab.length]),(812,.nest 179 5 [(1,108,5),(2,4,1),(3,182,3)] (p0.ab.map a8.lv))] R ?_ ?_
  ·refine fW R ?_
   refine sN (av fw bm bk R R R ?_)
   refine sN (av ei aw aL R R R ?_)
   refine sN (aS R aw br ?_)
   refine sN (mw (args:=[.ptr 811 0,.I p1.Item.ID]) (ml:=[(811,.box [.arr 812 p0.ab.length]),(812,.nest 179 5 [(1,108,5),(2,4,1),(3,182,3)] (p0.ab.map a8.lv))]) (eD:=[(811,.box [.arr 812 p0.ab.length]),(812,.nest 179 5 [(1,108,5),(2,4,1),(3,182,3)] (p0.ab.map a8.lv))]) R F3 R (bZ (bZ fF)) (Nd hr3) ⟨R,R,trivial⟩ (bT R (bT R dO)) R ?_)
   refine sN (oA (v:=(uz _ _ _)) R ?_)
   exact s0 (Wk.to (eQ ⟨R,R,trivial⟩) ⟨R,R,trivial⟩ (by rcases r3 with _ | _ <;> exact R) (cF R))
  rcases r3 with _ | j4
  ·replace h:=M1 h
   refine LH.wk (Wk.eq (el:=[(3,.sptr [.I p1.ai.Time,.I p1.ai.Source,.I p1.ai.Seq,.I p1.Kind,.I p1.Item.ID,.I p1.Item.Version,.str p1.Item.cO,.lst 6 (p1.Item.aH.map aq.lv),.L p1.Item.aO,.I p1.Ref.ID,.I p1.Ref.Version,.I p1.Form]),(6,.nilp)]) (ml:=[(811,.box [.arr 812 p0.ab.length]),(812,.nest 179 5 [(1,108,5),(2,4,1),(3,182,3)] (p0.ab.map a8.lv))]) R R R R) ?_
   refine LH.seq ?_
   refine LH.cK [(3,.sptr [.I p1.ai.Time,.I p1.ai.Source,.I p1.ai.Seq,.I p1.Kind,.I p1.Item.ID,.I p1.Item.Version,.str p1.Item.cO,.lst 6 (p1.Item.aH.map aq.lv),.L p1.Item.aO,.I p1.Ref.ID,.I p1.Ref.Version,.I p1.Form]),(6,.nilp),(19,.bool true)] [(811,.box [.arr 812 p0.ab.length]),(812,.nest 179 5 [(1,108,5),(2,4,1),(3,182,3)] (p0.ab.map a8.lv))] R ?_ ?_
   ·refine sN (oM (v:=.nilp) R ?_)
    refine sX ((wx qt R R).ok) ?_
    exact zS
   refine LH.cond (t:=true) R (fun lz=>?_) (fun lz=>?_)
   ·refine LH.cK [(4,.I 4)] [(811,.box [.arr 812 p0.ab.length]),(812,.nest 179 5 [(1,108,5),(2,4,1),(3,182,3)] (p0.ab.map a8.lv))] R ?_ ?_
    ·refine aX R ?_
     exact zS
    refine LH.ret ?_
    refine aA ?_
    obtain rfl:=oI h
    exact bL (aT Tryz.results142) (dx R (dN ⟨gP (mC R (mC R mN)),R,cF R,Sub.rfl⟩))
   ·cases lz
  replace h:=M3 h
  obtain ⟨x5,nb,h⟩:=aa h
  refine LH.wk (Wk.to (el:=[(3,.sptr [.I p1.ai.Time,.I p1.ai.Source,.I p1.ai.Seq,.I p1.Kind,.I p1.Item.ID,.I p1.Item.Version,.str p1.Item.cO,.lst 6 (p1.Item.aH.map aq.lv),.L p1.Item.aO,.I p1.Ref.ID,.I p1.Ref.Version,.I p1.Form]),(6,.eptr 812 p0.ab.length (j4).toNat 0)]) (ml:=[(811,.box [.arr 812 p0.ab.length]),(812,.nest 179 5 [(1,108,5),(2,4,1),(3,182,3)] ((p0.ab.map a8.lv).set (j4).toNat (.agg [.I x5.ID,.lst 5 (x5.ak.map ah.lv),.lst 1 (x5.au.map LV.bool),.lst 3 (x5.Uses.map bH.lv),.bool x5.al])))]) (eQ ⟨R,R,trivial⟩) (mC R (mC (ry nb) mN)) R (cF R)) ?_
  refine LH.seq ?_
  refine LH.cK [(3,.sptr [.I p1.ai.Time,.I p1.ai.Source,.I p1.ai.Seq,.I p1.Kind,.I p1.Item.ID,.I p1.Item.Version,.str p1.Item.cO,.lst 6 (p1.Item.aH.map aq.lv),.L p1.Item.aO,.I p1.Ref.ID,.I p1.Ref.Version,.I p1.Form]),(6,.eptr 812 p0.ab.length (j4).toNat 0),(19,.bool false)] [(811,.box [.arr 812 p0.ab.length]),(812,.nest 179 5 [(1,108,5),(2,4,1),(3,182,3)] ((p0.ab.map a8.lv).set (j4).toNat (.agg [.I x5.ID,.lst 5 (x5.ak.map ah.lv),.lst 1 (x5.au.map LV.bool),.lst 3 (x5.Uses.map bH.lv),.bool x5.al])))] R ?_ ?_
  ·refine sN (oM (v:=(.eptr _ _ _ _)) R ?_)
   refine sX ((wv qt R R R (by simp) (ct nb)).ok) ?_
   exact zS
  refine LH.cond (t:=false) R (fun xS=>?_) (fun xS=>?_)
  ·cases xS
  refine LH.skip ?_
  refine ag ?_
  refine LH.wk (Wk.eq (el:=[(3,.sptr [.I p1.ai.Time,.I p1.ai.Source,.I p1.ai.Seq,.I p1.Kind,.I p1.Item.ID,.I p1.Item.Version,.str p1.Item.cO,.lst 6 (p1.Item.aH.map aq.lv),.L p1.Item.aO,.I p1.Ref.ID,.I p1.Ref.Version,.I p1.Form]),(6,.eptr 812 p0.ab.length (j4).toNat 0)]) (ml:=[(811,.box [.arr 812 p0.ab.length]),(812,.nest 179 5 [(1,108,5),(2,4,1),(3,182,3)] ((p0.ab.map a8.lv).set (j4).toNat (.agg [.I x5.ID,.lst 5 (x5.ak.map ah.lv),.lst 1 (x5.au.map LV.bool),.lst 3 (x5.Uses.map bH.lv),.bool x5.al])))]) R R R R) ?_
  refine LH.seq ?_
  refine LH.eY mixed [] [0,3,3,3,0,0,0,0,0,3,3,3,3,0,0,0] [(3,.sptr [.I p1.ai.Time,.I p1.ai.Source,.I p1.ai.Seq,.I p1.Kind,.I p1.Item.ID,.I p1.Item.Version,.str p1.Item.cO,.lst 6 (p1.Item.aH.map aq.lv),.L p1.Item.aO,.I p1.Ref.ID,.I p1.Ref.Version,.I p1.Form]),(6,.eptr 812 p0.ab.length (j4).toNat 0),(35,.bool (x5.al || (p1.Item.Version != (i64 ((x5.ak.length:Int)+1)))))] [(811,.box [.arr 812 p0.ab.length]),(812,.nest 179 5 [(1,108,5),(2,4,1),(3,182,3)] ((p0.ab.map a8.lv).set (j4).toNat (.agg [.I x5.ID,.lst 5 (x5.ak.map ah.lv),.lst 1 (x5.au.map LV.bool),.lst 3 (x5.Uses.map bH.lv),.bool x5.al])))] R R (by kernel_rfl) ?_ ?_
  ·refine aI (oM (v:=(.eptr _ _ _ _)) R ⟨R,?_⟩)
   refine mX (gf R R (by simp) (ct nb)) ?_
   refine mX (gb p4 jG oU R R (by simp) (ct nb)) ?_
   refine mX (AN (cs:=[.I x5.ID,.lst 5 (x5.ak.map ah.lv),.lst 1 (x5.au.map LV.bool),.lst 3 (x5.Uses.map bH.lv),.bool x5.al]) R R (by simp) (ct nb) R R jG yA) ?_
   refine qg R ?_
   by_cases c7:x5.al=true
   ·refine mF R R c7 ?_
    refine mF R R c7 ?_
    refine mF R R c7 ?_
    refine mF R R c7 ?_
    refine mF R R c7 ?_
    refine mF R R c7 ?_
    refine mF R R c7 ?_
    refine mF R R c7 ?_
    refine mF R R c7 ?_
    refine mF R R c7 ?_
    refine aI (F6 (cB c7) (v:=(.bool _)) R ⟨R,?_⟩)
    exact m0 (Wk.to (eC R (eC R (eC (cB (wz c7)) eN))) ⟨R,R,trivial⟩ R (cF R))
   ·replace c7:=bF c7
    refine mT R (cB c7) (aI (av fw bm bk R R R ⟨R,?_⟩))
    refine mT R (cB c7) (aI (av gR aw aL R R R ⟨R,?_⟩))
    refine mT R (cB c7) (aI (aS R aw br ⟨R,?_⟩))
    refine mT R (cB c7) (aI (oM (v:=(.eptr _ _ _ _)) R ⟨R,?_⟩))
    refine mT R (cB c7) (mX (gf R R (by simp) (ct nb)) ?_)
    refine mT R (cB c7) (mX (gb ix lr tz R R (by simp) (ct nb)) ?_)
    refine mT R (cB c7) (mX (Ga (g:=ah.lv) (ys:=x5.ak) (cs:=[.I x5.ID,.lst 5 (x5.ak.map ah.lv),.lst 1 (x5.au.map LV.bool),.lst 3 (x5.Uses.map bH.lv),.bool x5.al]) R R (by simp) (ct nb) R R lr yB) ?_)
    refine mT R (cB c7) (mX (AO fA R) ?_)
    refine mT R (cB c7) (aI (bw R R ⟨R,?_⟩))
    refine mT R (cB c7) (aI (iR R R ⟨R,?_⟩))
    refine aI (Jr (cB c7) (v:=(.bool _)) R ⟨R,?_⟩)
    exact m0 (Wk.to (eC R (eC R (eC (cB (kR c7)) eN))) ⟨R,R,trivial⟩ R (cF R))
  refine LH.cond (t:=(x5.al || (p1.Item.Version != (i64 ((x5.ak.length:Int)+1))))) R (fun jf=>?_) (fun jf=>?_)
  ·replace h:=bO h jf
   refine LH.cK [(4,.I 8)] [(811,.box [.arr 812 p0.ab.length]),(812,.nest 179 5 [(1,108,5),(2,4,1),(3,182,3)] (p0.ab.map a8.lv))] R ?_ ?_
   ·refine aX R ?_
    exact s0 (Wk.to (eQ ⟨R,trivial⟩) (mC R (mC (ry nb).symm mN)) R (cF R))
   refine LH.ret ?_
   refine aA ?_
   obtain rfl:=oI h
   exact bL (aT Tryz.results142) (dx R (dN ⟨gP (mC R (mC R mN)),R,cF R,Sub.rfl⟩))
  replace h:=bN h jf
  refine LH.skip ?_
  refine ag ?_
  obtain ⟨dS,j5,h⟩:=aa h
  obtain ⟨v12,LY,h⟩:=aa h
  refine LH.eY mixed [] [0,0,3,3,3,0,0,0,0,2,3,3,3] [(6,.eptr 812 p0.ab.length (j4).toNat 0)] [(811,.box [.arr 812 p0.ab.length]),(812,.nest 179 5 [(1,108,5),(2,4,1),(3,182,3)] ((p0.ab.map a8.lv).set (j4).toNat (.agg [.I x5.ID,.lst 5 (v12.map ah.lv),.lst 1 (x5.au.map LV.bool),.lst 3 (x5.Uses.map bH.lv),.bool x5.al])))] R R (by kernel_rfl) ?_ ?_
  ·refine aI (oM (v:=(.eptr _ _ _ _)) R ⟨R,?_⟩)
   refine aI (oM (v:=(.eptr _ _ _ _)) R ⟨R,?_⟩)
   refine mX (gf R R (by simp) (ct nb)) ?_
   refine mX (gb ix lr tz R R (by simp) (ct nb)) ?_
   refine mX (wy (g:=ah.lv) (ys:=x5.ak) (ls:=List.map a8.lv p0.ab) (cs:=[.I x5.ID,.lst 5 (x5.ak.map ah.lv),.lst 1 (x5.au.map LV.bool),.lst 3 (x5.Uses.map bH.lv),.bool x5.al]) (id2:=140) (eA:=[.I x5.ID,.fp,.lst 1 (x5.au.map LV.bool),.lst 3 (x5.Uses.map bH.lv),.bool x5.al]) R R (by simp) (ct nb) R R R lr yB R) ?_
   refine aI (av fw bm bk R R R ⟨R,?_⟩)
   refine aI (a7 R bm dn bk R R ⟨R,?_⟩)
   refine aI (F5 (args:=[.agg [.I p1.Item.ID,.I p1.Item.Version,.str p1.Item.cO,.lst 6 (p1.Item.aH.map aq.lv),.L p1.Item.aO]]) R AH R (bZ fF) (H0 j5) R ⟨R,?_⟩)
   refine aI (ic (f:=ah.lv) (ys:=[dS]) fA zX bk R R R ah.ok ⟨R,?_⟩)
   refine E2 (oN (f:=ah.lv) fA zX bk R R (cv R) R LY ?_)
   refine mX (gf R R (by simp) (ct nb)) ?_
   refine mX (gb ix lr tz R R (by simp) (ct nb)) ?_
   refine mX_ (AP (g:=ah.lv) (ys:=v12) (ls:=List.map a8.lv p0.ab) (cs:=[.I x5.ID,.fp,.lst 1 (x5.au.map LV.bool),.lst 3 (x5.Uses.map bH.lv),.bool x5.al]) (eA:=[.I x5.ID,.lst 5 (v12.map ah.lv),.lst 1 (x5.au.map LV.bool),.lst 3 (x5.Uses.map bH.lv),.bool x5.al]) R R (by simp) (ct nb) R R R R R (cv R) lr tz R) ?_
   exact zM
  obtain ⟨Kn,S3,h⟩:=aa h
  refine LH.cK [] [(811,.box [.arr 812 (List.length (p0.ab.set (j4).toNat (a8.mk x5.ID v12 Kn x5.Uses x5.al)))]),(812,.nest 179 5 [(1,108,5),(2,4,1),(3,182,3)] (List.map a8.lv (p0.ab.set (j4).toNat (a8.mk x5.ID v12 Kn x5.Uses x5.al))))] R ?_ ?_
  ·refine sN (oM (v:=(.eptr _ _ _ _)) R ?_)
   refine sN (oM (v:=(.eptr _ _ _ _)) R ?_)
   refine sX ((gf R R (by simp) (ct nb)).ok) ?_
   refine sX ((gb kH gI pD R R (by simp) (ct nb)).ok) ?_
   refine sX ((wy (g:=LV.bool) (ys:=x5.au) (ls:=List.map a8.lv p0.ab) (cs:=[.I x5.ID,.lst 5 (v12.map ah.lv),.lst 1 (x5.au.map LV.bool),.lst 3 (x5.Uses.map bH.lv),.bool x5.al]) (id2:=152) (eA:=[.I x5.ID,.lst 5 (v12.map ah.lv),.fp,.lst 3 (x5.Uses.map bH.lv),.bool x5.al]) R R (by simp) (ct nb) R R R gI ow R).ok) ?_
   refine sN (ic (f:=LV.bool) (ys:=[false]) ll tr4 oU R R R okB ?_)
   refine sN (oN (f:=LV.bool) ll tr4 oU R R (cv R) R S3 ?_)
   refine sX ((gf R R (by simp) (ct nb)).ok) ?_
   refine sX ((gb kH gI pD R R (by simp) (ct nb)).ok) ?_
   refine Kl ((AP (g:=LV.bool) (ys:=Kn) (ls:=List.map a8.lv p0.ab) (cs:=[.I x5.ID,.lst 5 (v12.map ah.lv),.fp,.lst 3 (x5.Uses.map bH.lv),.bool x5.al]) (eA:=[.I x5.ID,.lst 5 (v12.map ah.lv),.lst 1 (Kn.map LV.bool),.lst 3 (x5.Uses.map bH.lv),.bool x5.al]) R R (by simp) (ct nb) R R R R R (cv R) gI pD R).ok) ?_
   exact s0 (Wk.to eN (mC ((show _=some (LE.box [.arr 812 p0.ab.length]) from R).trans (by simp)) (mC (P5 R R) mN)) R (cF R))
  refine LH.cK [(4,.I 0)] [(811,.box [.arr 812 (List.length (p0.ab.set (j4).toNat (a8.mk x5.ID v12 Kn x5.Uses x5.al)))]),(812,.nest 179 5 [(1,108,5),(2,4,1),(3,182,3)] (List.map a8.lv (p0.ab.set (j4).toNat (a8.mk x5.ID v12 Kn x5.Uses x5.al))))] R ?_ ?_
  ·refine aX R ?_
   exact zS
  refine LH.ret ?_
  obtain rfl:=oI h
  exact bL (aT Tryz.results142) (dx R (dN ⟨gP (mC R (mC R mN)),R,cF R,Sub.rfl⟩))
theorem Rr {F:Nat} {p0:bV} {p1:bD} {r:Option Int} (h:zG F p0 p1=some r):aF Tryz.prog 189 [.ptr 811 0,.agg [.I p1.ID,.I p1.Version]] (Mem.of [(811,.box [.arr 812 p0.ab.length]),(812,.nest 179 5 [(1,108,5),(2,4,1),(3,182,3)] (p0.ab.map a8.lv))]) (uz 812 p0.ab.length r) (Mem.of [(811,.box [.arr 812 p0.ab.length]),(812,.nest 179 5 [(1,108,5),(2,4,1),(3,182,3)] (p0.ab.map a8.lv))]):=by
  unfold zG at h
  refine aW Tryz.func189 R (nT Tryz.ntmps189 R) ?_
  refine LH.wk (Wk.eq (el:=[(0,.ptr 811 0),(1,.agg [.I p1.ID,.I p1.Version])]) (ml:=[(811,.box [.arr 812 p0.ab.length]),(812,.nest 179 5 [(1,108,5),(2,4,1),(3,182,3)] (p0.ab.map a8.lv))]) R R R R) ?_
  refine LH.cK [(0,.ptr 811 0),(3,.sptr [.I p1.ID,.I p1.Version])] [(811,.box [.arr 812 p0.ab.length]),(812,.nest 179 5 [(1,108,5),(2,4,1),(3,182,3)] (p0.ab.map a8.lv))] R ?_ ?_
  ·refine sB (da R R R R ?_)
   refine sN (oA (v:=.nilp) R ?_)
   exact zS
  obtain ⟨r1,dI,h⟩:=aa h
  refine LH.cK [(3,.sptr [.I p1.ID,.I p1.Version]),(5,uz 812 p0.ab.length r1)] [(811,.box [.arr 812 p0.ab.length]),(812,.nest 179 5 [(1,108,5),(2,4,1),(3,182,3)] (p0.ab.map a8.lv))] R ?_ ?_
  ·refine fW R ?_
   refine sN (av jE aw aL R R R ?_)
   refine sN (aS R aw br ?_)
   refine sN (mw (args:=[.ptr 811 0,.I p1.ID]) (ml:=[(811,.box [.arr 812 p0.ab.length]),(812,.nest 179 5 [(1,108,5),(2,4,1),(3,182,3)] (p0.ab.map a8.lv))]) (eD:=[(811,.box [.arr 812 p0.ab.length]),(812,.nest 179 5 [(1,108,5),(2,4,1),(3,182,3)] (p0.ab.map a8.lv))]) R F3 R (bZ (bZ fF)) (Nd dI) ⟨R,R,trivial⟩ (bT R (bT R dO)) R ?_)
   refine sN (oA (v:=(uz _ _ _)) R ?_)
   exact s0 (Wk.to (eQ ⟨R,R,trivial⟩) ⟨R,R,trivial⟩ (by rcases r1 with _ | _ <;> exact R) (cF R))
  rcases r1 with _ | j2
  ·replace h:=M1 h
   refine LH.wk (Wk.eq (el:=[(3,.sptr [.I p1.ID,.I p1.Version]),(5,.nilp)]) (ml:=[(811,.box [.arr 812 p0.ab.length]),(812,.nest 179 5 [(1,108,5),(2,4,1),(3,182,3)] (p0.ab.map a8.lv))]) R R R R) ?_
   refine LH.seq ?_
   refine LH.eY mixed [] [0,4,0,0,0,0,0,0,0,0,0,0,0,0,0,0,0] [(5,.nilp),(26,.bool true)] [(811,.box [.arr 812 p0.ab.length]),(812,.nest 179 5 [(1,108,5),(2,4,1),(3,182,3)] (p0.ab.map a8.lv))] R R (by kernel_rfl) ?_ ?_
   ·refine aI (oM (v:=.nilp) R ⟨R,?_⟩)
    refine mM (fun _=>wx qt R R) ?_
    refine qg R ?_
    refine mF R R R ?_
    refine mF R R R ?_
    refine mF R R R ?_
    refine aI (F6 R (v:=(.bool _)) R ⟨R,?_⟩)
    refine qg R ?_
    refine mF R R R ?_
    refine mF R R R ?_
    refine mF R R R ?_
    refine mF R R R ?_
    refine mF R R R ?_
    refine mF R R R ?_
    refine mF R R R ?_
    refine mF R R R ?_
    refine aI (F6 R (v:=(.bool _)) R ⟨R,?_⟩)
    exact zM
   refine LH.cond (t:=true) R (fun qE=>?_) (fun qE=>?_)
   ·refine LH.cK [(4,.nilp)] [(811,.box [.arr 812 p0.ab.length]),(812,.nest 179 5 [(1,108,5),(2,4,1),(3,182,3)] (p0.ab.map a8.lv))] R ?_ ?_
    ·refine sN (oA (v:=.nilp) R ?_)
     exact zS
    refine LH.ret ?_
    refine aA ?_
    obtain rfl:=oI h
    exact bL (aT Tryz.results189) (dx R (dN ⟨gP (mC R (mC R mN)),R,cF R,Sub.rfl⟩))
   ·cases qE
  replace h:=M3 h
  obtain ⟨x3,fo,h⟩:=aa h
  refine LH.wk (Wk.to (el:=[(3,.sptr [.I p1.ID,.I p1.Version]),(5,.eptr 812 p0.ab.length (j2).toNat 0)]) (ml:=[(811,.box [.arr 812 p0.ab.length]),(812,.nest 179 5 [(1,108,5),(2,4,1),(3,182,3)] ((p0.ab.map a8.lv).set (j2).toNat (.agg [.I x3.ID,.lst 5 (x3.ak.map ah.lv),.lst 1 (x3.au.map LV.bool),.lst 3 (x3.Uses.map bH.lv),.bool x3.al])))]) (eQ ⟨R,R,trivial⟩) (mC R (mC (ry fo) mN)) R (cF R)) ?_
  refine LH.seq ?_
  refine LH.eY mixed [] [0,3,0,0,0,0,0,0,0,0,0,3,3,3,3,0,0] [(5,.eptr 812 p0.ab.length (j2).toNat 0),(26,.bool ((decide (p1.Version<1)) || (decide (p1.Version > (x3.ak.length:Int)))))] [(811,.box [.arr 812 p0.ab.length]),(812,.nest 179 5 [(1,108,5),(2,4,1),(3,182,3)] ((p0.ab.map a8.lv).set (j2).toNat (.agg [.I x3.ID,.lst 5 (x3.ak.map ah.lv),.lst 1 (x3.au.map LV.bool),.lst 3 (x3.Uses.map bH.lv),.bool x3.al])))] R R (by kernel_rfl) ?_ ?_
  ·refine aI (oM (v:=(.eptr _ _ _ _)) R ⟨R,?_⟩)
   refine mX (wv qt R R R (by simp) (ct fo)) ?_
   refine qg R ?_
   refine mT R R (aI (av fq aw aL R R R ⟨R,?_⟩))
   refine mT R R (aI (aS R aw br ⟨R,?_⟩))
   refine mT R R (aI (dK R R ⟨R,?_⟩))
   refine aI (Jr R (v:=(.bool _)) R ⟨R,?_⟩)
   refine qg R ?_
   by_cases bn:(decide (p1.Version<1))=true
   ·refine mF R R bn ?_
    refine mF R R bn ?_
    refine mF R R bn ?_
    refine mF R R bn ?_
    refine mF R R bn ?_
    refine mF R R bn ?_
    refine mF R R bn ?_
    refine mF R R bn ?_
    refine aI (F6 (cB bn) (v:=(.bool _)) R ⟨R,?_⟩)
    exact m0 (Wk.to (eC R (eC (cB (wz bn)) eN)) ⟨R,R,trivial⟩ R (cF R))
   ·replace bn:=bF bn
    refine mT R (cB bn) (aI (av fq aw aL R R R ⟨R,?_⟩))
    refine mT R (cB bn) (aI (aS R aw br ⟨R,?_⟩))
    refine mT R (cB bn) (aI (oM (v:=(.eptr _ _ _ _)) R ⟨R,?_⟩))
    refine mT R (cB bn) (mX (gf R R (by simp) (ct fo)) ?_)
    refine mT R (cB bn) (mX (gb ix lr tz R R (by simp) (ct fo)) ?_)
    refine mT R (cB bn) (mX (Ga (g:=ah.lv) (ys:=x3.ak) (cs:=[.I x3.ID,.lst 5 (x3.ak.map ah.lv),.lst 1 (x3.au.map LV.bool),.lst 3 (x3.Uses.map bH.lv),.bool x3.al]) R R (by simp) (ct fo) R R lr yB) ?_)
    refine mT R (cB bn) (mX (AO fA R) ?_)
    refine mT R (cB bn) (aI (hJ R R ⟨R,?_⟩))
    refine aI (Jr (cB bn) (v:=(.bool _)) R ⟨R,?_⟩)
    exact m0 (Wk.to (eC R (eC (cB (kR bn)) eN)) ⟨R,R,trivial⟩ R (cF R))
  refine LH.cond (t:=((decide (p1.Version<1)) || (decide (p1.Version > (x3.ak.length:Int))))) R (fun xS=>?_) (fun xS=>?_)
  ·replace h:=bO h xS
   refine LH.cK [(4,.nilp)] [(811,.box [.arr 812 p0.ab.length]),(812,.nest 179 5 [(1,108,5),(2,4,1),(3,182,3)] (p0.ab.map a8.lv))] R ?_ ?_
   ·refine sN (oA (v:=.nilp) R ?_)
    exact s0 (Wk.to (eQ ⟨R,trivial⟩) (mC R (mC (ry fo).symm mN)) R (cF R))
   refine LH.ret ?_
   refine aA ?_
   obtain rfl:=oI h
   exact bL (aT Tryz.results189) (dx R (dN ⟨gP (mC R (mC R mN)),R,cF R,Sub.rfl⟩))
  replace h:=bN h xS
  refine LH.skip ?_
  refine ag ?_
  refine LH.cK [(4,.eptr 812 p0.ab.length (j2).toNat 0)] [(811,.box [.arr 812 p0.ab.length]),(812,.nest 179 5 [(1,108,5),(2,4,1),(3,182,3)] ((p0.ab.map a8.lv).set (j2).toNat (.agg [.I x3.ID,.lst 5 (x3.ak.map ah.lv),.lst 1 (x3.au.map LV.bool),.lst 3 (x3.Uses.map bH.lv),.bool x3.al])))] R ?_ ?_
  ·refine sN (oM (v:=(.eptr _ _ _ _)) R ?_)
   refine sN (oA (v:=(.eptr _ _ _ _)) R ?_)
   exact zS
  refine LH.ret ?_
  obtain rfl:=oI h
  exact bL (aT Tryz.results189) (dx R (dN ⟨gP (mC R (mC (ry fo).symm mN)),R,cF R,Sub.rfl⟩))
theorem Y0 {F:Nat} {p0:bV} {p1:bu} {r:Int × bV} (h:Ec F p0 p1=some r):aF Tryz.prog 143 [.ptr 811 0,.agg [.I p1.ai.Time,.I p1.ai.Source,.I p1.ai.Seq,.I p1.Kind,.I p1.Item.ID,.I p1.Item.Version,.str p1.Item.cO,.lst 6 (p1.Item.aH.map aq.lv),.L p1.Item.aO,.I p1.Ref.ID,.I p1.Ref.Version,.I p1.Form]] (Mem.of [(811,.box [.arr 812 p0.ab.length]),(812,.nest 179 5 [(1,108,5),(2,4,1),(3,182,3)] (p0.ab.map a8.lv))]) (.I r.1) (Mem.of [(811,.box [.arr 812 r.2.ab.length]),(812,.nest 179 5 [(1,108,5),(2,4,1),(3,182,3)] (r.2.ab.map a8.lv))]):=by
  unfold Ec at h
  refine aW Tryz.func143 R (nT Tryz.ntmps143 R) ?_
  refine LH.wk (Wk.eq (el:=[(0,.ptr 811 0),(1,.agg [.I p1.ai.Time,.I p1.ai.Source,.I p1.ai.Seq,.I p1.Kind,.I p1.Item.ID,.I p1.Item.Version,.str p1.Item.cO,.lst 6 (p1.Item.aH.map aq.lv),.L p1.Item.aO,.I p1.Ref.ID,.I p1.Ref.Version,.I p1.Form])]) (ml:=[(811,.box [.arr 812 p0.ab.length]),(812,.nest 179 5 [(1,108,5),(2,4,1),(3,182,3)] (p0.ab.map a8.lv))]) R R R R) ?_
  refine LH.cK [(0,.ptr 811 0),(3,.sptr [.I p1.ai.Time,.I p1.ai.Source,.I p1.ai.Seq,.I p1.Kind,.I p1.Item.ID,.I p1.Item.Version,.str p1.Item.cO,.lst 6 (p1.Item.aH.map aq.lv),.L p1.Item.aO,.I p1.Ref.ID,.I p1.Ref.Version,.I p1.Form])] [(811,.box [.arr 812 p0.ab.length]),(812,.nest 179 5 [(1,108,5),(2,4,1),(3,182,3)] (p0.ab.map a8.lv))] R ?_ ?_
  ·refine sB (da R R R R ?_)
   refine aX R ?_
   exact zS
  obtain ⟨r1,dI,h⟩:=aa h
  refine LH.cK [(3,.sptr [.I p1.ai.Time,.I p1.ai.Source,.I p1.ai.Seq,.I p1.Kind,.I p1.Item.ID,.I p1.Item.Version,.str p1.Item.cO,.lst 6 (p1.Item.aH.map aq.lv),.L p1.Item.aO,.I p1.Ref.ID,.I p1.Ref.Version,.I p1.Form]),(5,uz 812 p0.ab.length r1)] [(811,.box [.arr 812 p0.ab.length]),(812,.nest 179 5 [(1,108,5),(2,4,1),(3,182,3)] (p0.ab.map a8.lv))] R ?_ ?_
  ·refine fW R ?_
   refine sN (av gm fj eM R R R ?_)
   refine sN (a7 R fj sj eM R R ?_)
   refine sN (mw (args:=[.ptr 811 0,.agg [.I p1.Ref.ID,.I p1.Ref.Version]]) (ml:=[(811,.box [.arr 812 p0.ab.length]),(812,.nest 179 5 [(1,108,5),(2,4,1),(3,182,3)] (p0.ab.map a8.lv))]) (eD:=[(811,.box [.arr 812 p0.ab.length]),(812,.nest 179 5 [(1,108,5),(2,4,1),(3,182,3)] (p0.ab.map a8.lv))]) R Mq R (bZ (bZ fF)) (Rr dI) ⟨R,R,trivial⟩ (bT R (bT R dO)) R ?_)
   refine sN (oA (v:=(uz _ _ _)) R ?_)
   exact s0 (Wk.to (eQ ⟨R,R,trivial⟩) ⟨R,R,trivial⟩ (by rcases r1 with _ | _ <;> exact R) (cF R))
  rcases r1 with _ | j2
  ·replace h:=M1 h
   refine LH.wk (Wk.eq (el:=[(3,.sptr [.I p1.ai.Time,.I p1.ai.Source,.I p1.ai.Seq,.I p1.Kind,.I p1.Item.ID,.I p1.Item.Version,.str p1.Item.cO,.lst 6 (p1.Item.aH.map aq.lv),.L p1.Item.aO,.I p1.Ref.ID,.I p1.Ref.Version,.I p1.Form]),(5,.nilp)]) (ml:=[(811,.box [.arr 812 p0.ab.length]),(812,.nest 179 5 [(1,108,5),(2,4,1),(3,182,3)] (p0.ab.map a8.lv))]) R R R R) ?_
   refine LH.seq ?_
   refine LH.cK [(3,.sptr [.I p1.ai.Time,.I p1.ai.Source,.I p1.ai.Seq,.I p1.Kind,.I p1.Item.ID,.I p1.Item.Version,.str p1.Item.cO,.lst 6 (p1.Item.aH.map aq.lv),.L p1.Item.aO,.I p1.Ref.ID,.I p1.Ref.Version,.I p1.Form]),(5,.nilp),(11,.bool true)] [(811,.box [.arr 812 p0.ab.length]),(812,.nest 179 5 [(1,108,5),(2,4,1),(3,182,3)] (p0.ab.map a8.lv))] R ?_ ?_
   ·refine sN (oM (v:=.nilp) R ?_)
    refine sX ((wx qt R R).ok) ?_
    exact zS
   refine LH.cond (t:=true) R (fun qE=>?_) (fun qE=>?_)
   ·refine LH.cK [(4,.I 4)] [(811,.box [.arr 812 p0.ab.length]),(812,.nest 179 5 [(1,108,5),(2,4,1),(3,182,3)] (p0.ab.map a8.lv))] R ?_ ?_
    ·refine aX R ?_
     exact zS
    refine LH.ret ?_
    refine aA ?_
    obtain rfl:=oI h
    exact bL (aT Tryz.results143) (dx R (dN ⟨gP (mC R (mC R mN)),R,cF R,Sub.rfl⟩))
   ·cases qE
  replace h:=M3 h
  obtain ⟨x3,fo,h⟩:=aa h
  refine LH.wk (Wk.to (el:=[(3,.sptr [.I p1.ai.Time,.I p1.ai.Source,.I p1.ai.Seq,.I p1.Kind,.I p1.Item.ID,.I p1.Item.Version,.str p1.Item.cO,.lst 6 (p1.Item.aH.map aq.lv),.L p1.Item.aO,.I p1.Ref.ID,.I p1.Ref.Version,.I p1.Form]),(5,.eptr 812 p0.ab.length (j2).toNat 0)]) (ml:=[(811,.box [.arr 812 p0.ab.length]),(812,.nest 179 5 [(1,108,5),(2,4,1),(3,182,3)] ((p0.ab.map a8.lv).set (j2).toNat (.agg [.I x3.ID,.lst 5 (x3.ak.map ah.lv),.lst 1 (x3.au.map LV.bool),.lst 3 (x3.Uses.map bH.lv),.bool x3.al])))]) (eQ ⟨R,R,trivial⟩) (mC R (mC (ry fo) mN)) R (cF R)) ?_
  refine LH.seq ?_
  refine LH.cK [(3,.sptr [.I p1.ai.Time,.I p1.ai.Source,.I p1.ai.Seq,.I p1.Kind,.I p1.Item.ID,.I p1.Item.Version,.str p1.Item.cO,.lst 6 (p1.Item.aH.map aq.lv),.L p1.Item.aO,.I p1.Ref.ID,.I p1.Ref.Version,.I p1.Form]),(5,.eptr 812 p0.ab.length (j2).toNat 0),(11,.bool false)] [(811,.box [.arr 812 p0.ab.length]),(812,.nest 179 5 [(1,108,5),(2,4,1),(3,182,3)] ((p0.ab.map a8.lv).set (j2).toNat (.agg [.I x3.ID,.lst 5 (x3.ak.map ah.lv),.lst 1 (x3.au.map LV.bool),.lst 3 (x3.Uses.map bH.lv),.bool x3.al])))] R ?_ ?_
  ·refine sN (oM (v:=(.eptr _ _ _ _)) R ?_)
   refine sX ((wv qt R R R (by simp) (ct fo)).ok) ?_
   exact zS
  refine LH.cond (t:=false) R (fun oV=>?_) (fun oV=>?_)
  ·cases oV
  refine LH.skip ?_
  refine ag ?_
  refine LH.wk (Wk.eq (el:=[(3,.sptr [.I p1.ai.Time,.I p1.ai.Source,.I p1.ai.Seq,.I p1.Kind,.I p1.Item.ID,.I p1.Item.Version,.str p1.Item.cO,.lst 6 (p1.Item.aH.map aq.lv),.L p1.Item.aO,.I p1.Ref.ID,.I p1.Ref.Version,.I p1.Form]),(5,.eptr 812 p0.ab.length (j2).toNat 0)]) (ml:=[(811,.box [.arr 812 p0.ab.length]),(812,.nest 179 5 [(1,108,5),(2,4,1),(3,182,3)] ((p0.ab.map a8.lv).set (j2).toNat (.agg [.I x3.ID,.lst 5 (x3.ak.map ah.lv),.lst 1 (x3.au.map LV.bool),.lst 3 (x3.Uses.map bH.lv),.bool x3.al])))]) R R R R) ?_
  refine LH.seq ?_
  refine LH.cK [(3,.sptr [.I p1.ai.Time,.I p1.ai.Source,.I p1.ai.Seq,.I p1.Kind,.I p1.Item.ID,.I p1.Item.Version,.str p1.Item.cO,.lst 6 (p1.Item.aH.map aq.lv),.L p1.Item.aO,.I p1.Ref.ID,.I p1.Ref.Version,.I p1.Form]),(5,.eptr 812 p0.ab.length (j2).toNat 0),(15,.bool x3.al)] [(811,.box [.arr 812 p0.ab.length]),(812,.nest 179 5 [(1,108,5),(2,4,1),(3,182,3)] ((p0.ab.map a8.lv).set (j2).toNat (.agg [.I x3.ID,.lst 5 (x3.ak.map ah.lv),.lst 1 (x3.au.map LV.bool),.lst 3 (x3.Uses.map bH.lv),.bool x3.al])))] R ?_ ?_
  ·refine sN (oM (v:=(.eptr _ _ _ _)) R ?_)
   refine sX ((gf R R (by simp) (ct fo)).ok) ?_
   refine sX ((gb p4 jG oU R R (by simp) (ct fo)).ok) ?_
   refine sX ((AN (cs:=[.I x3.ID,.lst 5 (x3.ak.map ah.lv),.lst 1 (x3.au.map LV.bool),.lst 3 (x3.Uses.map bH.lv),.bool x3.al]) R R (by simp) (ct fo) R R jG yA).ok) ?_
   exact zS
  refine LH.cond (t:=x3.al) R (fun lz=>?_) (fun lz=>?_)
  ·replace h:=bO h lz
   refine LH.cK [(4,.I 8)] [(811,.box [.arr 812 p0.ab.length]),(812,.nest 179 5 [(1,108,5),(2,4,1),(3,182,3)] (p0.ab.map a8.lv))] R ?_ ?_
   ·refine aX R ?_
    exact s0 (Wk.to (eQ ⟨R,trivial⟩) (mC R (mC (ry fo).symm mN)) R (cF R))
   refine LH.ret ?_
   refine aA ?_
   obtain rfl:=oI h
   exact bL (aT Tryz.results143) (dx R (dN ⟨gP (mC R (mC R mN)),R,cF R,Sub.rfl⟩))
  replace h:=bN h lz
  refine LH.skip ?_
  refine ag ?_
  refine LH.wk (Wk.eq (el:=[(3,.sptr [.I p1.ai.Time,.I p1.ai.Source,.I p1.ai.Seq,.I p1.Kind,.I p1.Item.ID,.I p1.Item.Version,.str p1.Item.cO,.lst 6 (p1.Item.aH.map aq.lv),.L p1.Item.aO,.I p1.Ref.ID,.I p1.Ref.Version,.I p1.Form]),(5,.eptr 812 p0.ab.length (j2).toNat 0)]) (ml:=[(811,.box [.arr 812 p0.ab.length]),(812,.nest 179 5 [(1,108,5),(2,4,1),(3,182,3)] ((p0.ab.map a8.lv).set (j2).toNat (.agg [.I x3.ID,.lst 5 (x3.ak.map ah.lv),.lst 1 (x3.au.map LV.bool),.lst 3 (x3.Uses.map bH.lv),.bool x3.al])))]) R R R R) ?_
  refine LH.seq ?_
  obtain ⟨x7,yP,h⟩:=aa h
  refine LH.eY mixed [] [0,3,3,3,0,0,0,0,1119,1119] [(3,.sptr [.I p1.ai.Time,.I p1.ai.Source,.I p1.ai.Seq,.I p1.Kind,.I p1.Item.ID,.I p1.Item.Version,.str p1.Item.cO,.lst 6 (p1.Item.aH.map aq.lv),.L p1.Item.aO,.I p1.Ref.ID,.I p1.Ref.Version,.I p1.Form]),(5,.eptr 812 p0.ab.length (j2).toNat 0),(25,.bool x7)] [(811,.box [.arr 812 p0.ab.length]),(812,.nest 179 5 [(1,108,5),(2,4,1),(3,182,3)] ((p0.ab.map a8.lv).set (j2).toNat (.agg [.I x3.ID,.lst 5 (x3.ak.map ah.lv),.lst 1 (x3.au.map LV.bool),.lst 3 (x3.Uses.map bH.lv),.bool x3.al])))] R R (by kernel_rfl) ?_ ?_
  ·refine aI (oM (v:=(.eptr _ _ _ _)) R ⟨R,?_⟩)
   refine mX (gf R R (by simp) (ct fo)) ?_
   refine mX (gb kH gI pD R R (by simp) (ct fo)) ?_
   refine mX (pY (g:=LV.bool) (ys:=x3.au) (ls:=List.map a8.lv p0.ab) (cs:=[.I x3.ID,.lst 5 (x3.ak.map ah.lv),.lst 1 (x3.au.map LV.bool),.lst 3 (x3.Uses.map bH.lv),.bool x3.al]) (id2:=119) (eA:=[.I x3.ID,.lst 5 (x3.ak.map ah.lv),.fp,.lst 3 (x3.Uses.map bH.lv),.bool x3.al]) R R (by simp) (ct fo) R R R gI ow R) ?_
   refine aI (av gm fj eM R R R ⟨R,?_⟩)
   refine aI (av fq aw aL R R R ⟨R,?_⟩)
   refine aI (aS R aw br ⟨R,?_⟩)
   refine aI (j7 R R ⟨R,?_⟩)
   refine mD R R R (fun _ b _ d=>eI (f:=LV.bool) ll jG oU R b R yP d) ?_
   refine mD R R R (fun _ b _ d=>oO (f:=LV.bool) R b (cU yP).2 R R R jG yA d) ?_
   exact m0 (Wk.trans (Wk.u3 (id:=812) (id2:=119) (o0:=2) (i:=(j2).toNat) (n2:=List.length x3.au) (g:=LV.bool) (ys:=x3.au) (ls:=List.map a8.lv p0.ab) (cs:=[.I x3.ID,.lst 5 (x3.ak.map ah.lv),.fp,.lst 3 (x3.Uses.map bH.lv),.bool x3.al]) (eA:=[.I x3.ID,.lst 5 (x3.ak.map ah.lv),.lst 1 (x3.au.map LV.bool),.lst 3 (x3.Uses.map bH.lv),.bool x3.al]) R (ct fo) R R R R (cv R) R) (Wk.eq R R R R))
  refine LH.cond (t:=x7) R (fun oF=>?_) (fun oF=>?_)
  ·replace h:=bO h oF
   refine LH.cK [(4,.I 5)] [(811,.box [.arr 812 p0.ab.length]),(812,.nest 179 5 [(1,108,5),(2,4,1),(3,182,3)] (p0.ab.map a8.lv))] R ?_ ?_
   ·refine aX R ?_
    exact s0 (Wk.to (eQ ⟨R,trivial⟩) (mC R (mC (ry fo).symm mN)) R (cF R))
   refine LH.ret ?_
   refine aA ?_
   obtain rfl:=oI h
   exact bL (aT Tryz.results143) (dx R (dN ⟨gP (mC R (mC R mN)),R,cF R,Sub.rfl⟩))
  replace h:=bN h oF
  refine LH.skip ?_
  refine ag ?_
  obtain ⟨x9,rM,h⟩:=aa h
  refine LH.eY mixed [] [0,3,3,3,0,0,0,0,1129,100129] [] [(811,.box [.arr 812 (List.length (p0.ab.set (j2).toNat (a8.mk x3.ID x3.ak (x3.au.set ((i64 (p1.Ref.Version - 1)).toNat) true) x3.Uses x3.al)))]),(812,.nest 179 5 [(1,108,5),(2,4,1),(3,182,3)] (List.map a8.lv (p0.ab.set (j2).toNat (a8.mk x3.ID x3.ak (x3.au.set ((i64 (p1.Ref.Version - 1)).toNat) true) x3.Uses x3.al))))] R R (by kernel_rfl) ?_ ?_
  ·refine aI (oM (v:=(.eptr _ _ _ _)) R ⟨R,?_⟩)
   refine mX (gf R R (by simp) (ct fo)) ?_
   refine mX (gb kH gI pD R R (by simp) (ct fo)) ?_
   refine mX (pY (g:=LV.bool) (ys:=x3.au) (ls:=List.map a8.lv p0.ab) (cs:=[.I x3.ID,.lst 5 (x3.ak.map ah.lv),.lst 1 (x3.au.map LV.bool),.lst 3 (x3.Uses.map bH.lv),.bool x3.al]) (id2:=129) (eA:=[.I x3.ID,.lst 5 (x3.ak.map ah.lv),.fp,.lst 3 (x3.Uses.map bH.lv),.bool x3.al]) R R (by simp) (ct fo) R R R gI ow R) ?_
   refine aI (av gm fj eM R R R ⟨R,?_⟩)
   refine aI (av fq aw aL R R R ⟨R,?_⟩)
   refine aI (aS R aw br ⟨R,?_⟩)
   refine aI (j7 R R ⟨R,?_⟩)
   refine mD R R R (fun _ b _ d=>eI (f:=LV.bool) ll jG oU R b R rM d) ?_
   refine mS R R R (fun _ b _ d=>kC (f:=LV.bool) (z':=true) R R R R jG oU b (cU rM).2 R d) ?_
   exact m0 (Wk.trans (Wk.u3 (id:=812) (id2:=129) (o0:=2) (i:=(j2).toNat) (n2:=List.length x3.au) (g:=LV.bool) (ys:=(x3.au.set ((i64 (p1.Ref.Version - 1)).toNat) true)) (ls:=List.map a8.lv p0.ab) (cs:=[.I x3.ID,.lst 5 (x3.ak.map ah.lv),.fp,.lst 3 (x3.Uses.map bH.lv),.bool x3.al]) (eA:=[.I x3.ID,.lst 5 (x3.ak.map ah.lv),.lst 1 (List.map LV.bool (x3.au.set ((i64 (p1.Ref.Version - 1)).toNat) true)),.lst 3 (x3.Uses.map bH.lv),.bool x3.al]) R (ct fo) R R R (by simp) (cv R) R) (Wk.to eN (mC ((show _=some (LE.box [.arr 812 p0.ab.length]) from R).trans (by simp)) (mC (P5 R R) mN)) R (cF R)))
  refine LH.cK [(4,.I 0)] [(811,.box [.arr 812 (List.length (p0.ab.set (j2).toNat (a8.mk x3.ID x3.ak (x3.au.set ((i64 (p1.Ref.Version - 1)).toNat) true) x3.Uses x3.al)))]),(812,.nest 179 5 [(1,108,5),(2,4,1),(3,182,3)] (List.map a8.lv (p0.ab.set (j2).toNat (a8.mk x3.ID x3.ak (x3.au.set ((i64 (p1.Ref.Version - 1)).toNat) true) x3.Uses x3.al))))] R ?_ ?_
  ·refine aX R ?_
   exact zS
  refine LH.ret ?_
  obtain rfl:=oI h
  exact bL (aT Tryz.results143) (dx R (dN ⟨gP (mC R (mC R mN)),R,cF R,Sub.rfl⟩))
theorem Y7 {p0:bH} {c0:bu} {r:Bool} (h:Ih p0 c0=some r):aF Tryz.prog 190 [.agg [.I p0.Version,.I p0.Form,.I p0.Time],.sptr (bu.lv c0).cells] (Mem.of []) (.bool r) (Mem.of []):=by
  unfold Ih at h
  refine aW Tryz.func190 R (nT Tryz.ntmps190 R)<|LH.ae R (sB<|da R R R R<|bK R zQ)<|LH.ae R (sN<|av Iq aw aL R R R<|sN<|aS R aw br<|sN<|av pZ aw aL R R R<|sN<|aS R aw br<|sN<|gv R R<|bK R zQ)<|LH.ret ?_
  obtain rfl:=oI h
  exact ba<|aT Tryz.results190
theorem X9 {F:Nat} {p0:List bH} {p1:(bH→Option Bool)} {r:Int} {dQ:Nat} {cW:List LV} (td:di Tryz.prog dQ) (jQ:LV.bf cW=true) (te:∀ (x0:bH) (q:Bool),p1 x0=some q→aF Tryz.prog dQ ([.agg [.I x0.Version,.I x0.Form,.I x0.Time]]++cW) (Mem.of []) (.bool q) (Mem.of [])) (h:HS F p0 p1=some r):aF Tryz.prog 147 [.lst 3 (p0.map bH.lv),.fn dQ cW] (Mem.of []) (.I r) (Mem.of []):=by
  have yq:∀ {l:List LV},LV.bf l=true→LV.bf (l++cW)=true:=M5 jQ
  have gr:LV.b6 cW=[]:=eK jQ
  unfold HS at h
  refine aW Tryz.func147 R (nT Tryz.ntmps147 R)<|LH.wk (Wk.to (el:=[(0,.lst 3 (p0.map bH.lv)),(1,.fn dQ cW)]) (ml:=[]) (eQ ⟨R,R,trivial⟩) mN (by simp [aQ,LV.refs,LV.b6,LV.cells,dZ,Env.args,Env.of,Env.put,Env.drop,gr])<|cF R)<|LH.ae R (aX R zQ)<|LH.seq<|LH.cK [(0,.lst 3 (p0.map bH.lv)),(1,.fn dQ cW),(7,.I (p0.length:Int)),(8,.I 0)] [] R (dC R<|sN<|bx (f:=bH.lv) sq R<|aN R<|s0<|Wk.to (eQ ⟨R,R,R,R,trivial⟩) mN (by simp [aQ,LV.refs,LV.b6,LV.cells,dZ,Env.args,Env.of,Env.put,Env.drop,gr])<|cF R)<|LH.block<|LH.loop (fun n e m=>∃ (n1:Int),Gh p0 p1 n n1=some r∧e=Env.of [(0,.lst 3 (p0.map bH.lv)),(1,.fn dQ cW),(7,.I (p0.length:Int)),(8,.I n1)]∧m=Mem.of []) F ⟨0,h,R,R⟩ ?_
  clear h
  rintro n e m ⟨n1,h,rfl,rfl⟩
  rcases n with _ | n
  · exact nX h
  obtain ⟨aE,aC⟩:∃ f,f=Gh p0 p1 n:=⟨_,rfl⟩
  replace h:Nf p0 p1 aE n1=some r:=aC ▸ h
  unfold Nf at h
  refine LH.ae R (sN<|dK R R zQ)<|LH.seq (LH.cd h R (fun gK h=>?_) fun gK h=>?_)
  ·refine LH.skip<|ag<|LH.wk (Wk.to (el:=[(0,.lst 3 (p0.map bH.lv)),(1,.fn dQ cW),(7,.I (p0.length:Int)),(8,.I n1)]) (ml:=[]) (eQ ⟨R,R,R,R,trivial⟩) mN (by simp [aQ,LV.refs,LV.b6,LV.cells,dZ,Env.args,Env.of,Env.put,Env.drop,gr])<|cF R)<|LH.seq<|LH.block<|LH.ae R (aN R<|aX R zQ) ?_
   obtain ⟨x3,fo,h⟩:=aa h
   obtain ⟨r4,FO,h⟩:=aa h
   refine LH.cK [(0,.lst 3 (p0.map bH.lv)),(1,.fn dQ cW),(5,.I n1),(7,.I (p0.length:Int)),(8,.I n1),(16,.bool r4)] [] R ?_ ?_
   ·refine sN<|oM (v:=(.fn _ _)) R<|dC R<|aN R<|sN<|dJ (f:=bH.lv) sq EN xB R R bH.ok fo R<|sN<|a7 R EN RD xB R R<|sN<|F5 (args:=[.agg [.I x3.Version,.I x3.Form,.I x3.Time]]++cW) (ew:=[.agg [.I x3.Version,.I x3.Form,.I x3.Time]]++cW) R td R fc.rfl (te _ _ FO) (yq R) ?_
    exact s0<|Wk.to (eQ ⟨R,R,R,R,R,R,trivial⟩) mN (by simp [aQ,LV.refs,LV.b6,LV.cells,dZ,Env.args,Env.of,Env.put,Env.drop,gr])<|cF R
   refine LH.cd h R (fun oV h=>?_) fun oV h=>?_
   ·refine LH.ae R (aN R<|aX R zQ)<|LH.ret<|aU<|aA<|cc<|aU<|aA ?_
    obtain rfl:=oI h
    exact bL (aT Tryz.results147)<|dx R<|dN ⟨gP mN,R,cF R,Sub.rfl⟩
   refine LH.skip<|aB<|ag<|LH.aJ R (sN<|bw R R<|aN R zQ) ?_
   exact aM ⟨(i64 (n1+1)),aC ▸ h,R,R⟩<|Wk.to (eQ ⟨R,R,R,R,trivial⟩) mN (by simp [aQ,LV.refs,LV.b6,LV.cells,dZ,Env.args,Env.of,Env.put,Env.drop,gr])<|cF R
  refine LH.exit<|bB<|bc<|aZ<|ag<|LH.ae R (aX R zQ)<|LH.ret ?_
  obtain rfl:=oI h
  exact bL (aT Tryz.results147)<|dx R<|dN ⟨gP mN,R,cF R,Sub.rfl⟩
theorem Q0 {F:Nat} {p0:List bH} {p1:(bH→Option Bool)} {r:Bool} {dQ:Nat} {cW:List LV} (td:di Tryz.prog dQ) (jQ:LV.bf cW=true) (te:∀ (x0:bH) (q:Bool),p1 x0=some q→aF Tryz.prog dQ ([.agg [.I x0.Version,.I x0.Form,.I x0.Time]]++cW) (Mem.of []) (.bool q) (Mem.of [])) (h:Jz F p0 p1=some r):aF Tryz.prog 77 [.lst 3 (p0.map bH.lv),.fn dQ cW] (Mem.of []) (.bool r) (Mem.of []):=by
  have yq:∀ {l:List LV},LV.bf l=true→LV.bf (l++cW)=true:=M5 jQ
  have gr:LV.b6 cW=[]:=eK jQ
  unfold Jz at h
  refine aW Tryz.func77 R (nT Tryz.ntmps77 R)<|LH.wk (Wk.to (el:=[(0,.lst 3 (p0.map bH.lv)),(1,.fn dQ cW)]) (ml:=[]) (eQ ⟨R,R,trivial⟩) mN (by simp [aQ,LV.refs,LV.b6,LV.cells,dZ,Env.args,Env.of,Env.put,Env.drop,gr])<|cF R)<|LH.ae R (bK R zQ) ?_
  obtain ⟨r1,dI,h⟩:=aa h
  refine LH.ae R (dC R<|sN<|oM (v:=(.fn _ _)) R<|sN<|F5 (args:=[.lst 3 (p0.map bH.lv),.fn dQ cW]) R TI R (bZ<|bZ fF) (X9 td jQ te dI) (by simp [LV.pure,LV.bf,jQ])<|sN<|ot R R<|bK R zQ)<|LH.ret ?_
  obtain rfl:=oI h
  exact bL (aT Tryz.results77)<|dx R<|dN ⟨gP mN,R,cF R,Sub.rfl⟩
theorem Zc {F:Nat} {p0:bV} {p1:bu} {r:Int × bV} (h:o3 F p0 p1=some r):aF Tryz.prog 144 [.ptr 811 0,.agg [.I p1.ai.Time,.I p1.ai.Source,.I p1.ai.Seq,.I p1.Kind,.I p1.Item.ID,.I p1.Item.Version,.str p1.Item.cO,.lst 6 (p1.Item.aH.map aq.lv),.L p1.Item.aO,.I p1.Ref.ID,.I p1.Ref.Version,.I p1.Form]] (Mem.of [(811,.box [.arr 812 p0.ab.length]),(812,.nest 179 5 [(1,108,5),(2,4,1),(3,182,3)] (p0.ab.map a8.lv))]) (.I r.1) (Mem.of [(811,.box [.arr 812 r.2.ab.length]),(812,.nest 179 5 [(1,108,5),(2,4,1),(3,182,3)] (r.2.ab.map a8.lv))]):=by
  unfold o3 at h
  refine aW Tryz.func144 R (nT Tryz.ntmps144 R) ?_
  refine LH.wk (Wk.eq (el:=[(0,.ptr 811 0),(1,.agg [.I p1.ai.Time,.I p1.ai.Source,.I p1.ai.Seq,.I p1.Kind,.I p1.Item.ID,.I p1.Item.Version,.str p1.Item.cO,.lst 6 (p1.Item.aH.map aq.lv),.L p1.Item.aO,.I p1.Ref.ID,.I p1.Ref.Version,.I p1.Form])]) (ml:=[(811,.box [.arr 812 p0.ab.length]),(812,.nest 179 5 [(1,108,5),(2,4,1),(3,182,3)] (p0.ab.map a8.lv))]) R R R R) ?_
  refine LH.cK [(0,.ptr 811 0),(3,.sptr [.I p1.ai.Time,.I p1.ai.Source,.I p1.ai.Seq,.I p1.Kind,.I p1.Item.ID,.I p1.Item.Version,.str p1.Item.cO,.lst 6 (p1.Item.aH.map aq.lv),.L p1.Item.aO,.I p1.Ref.ID,.I p1.Ref.Version,.I p1.Form])] [(811,.box [.arr 812 p0.ab.length]),(812,.nest 179 5 [(1,108,5),(2,4,1),(3,182,3)] (p0.ab.map a8.lv))] R ?_ ?_
  ·refine sB (da R R R R ?_)
   refine aX R ?_
   exact zS
  obtain ⟨r1,dI,h⟩:=aa h
  refine LH.cK [(3,.sptr [.I p1.ai.Time,.I p1.ai.Source,.I p1.ai.Seq,.I p1.Kind,.I p1.Item.ID,.I p1.Item.Version,.str p1.Item.cO,.lst 6 (p1.Item.aH.map aq.lv),.L p1.Item.aO,.I p1.Ref.ID,.I p1.Ref.Version,.I p1.Form]),(5,uz 812 p0.ab.length r1)] [(811,.box [.arr 812 p0.ab.length]),(812,.nest 179 5 [(1,108,5),(2,4,1),(3,182,3)] (p0.ab.map a8.lv))] R ?_ ?_
  ·refine fW R ?_
   refine sN (av gm fj eM R R R ?_)
   refine sN (a7 R fj sj eM R R ?_)
   refine sN (mw (args:=[.ptr 811 0,.agg [.I p1.Ref.ID,.I p1.Ref.Version]]) (ml:=[(811,.box [.arr 812 p0.ab.length]),(812,.nest 179 5 [(1,108,5),(2,4,1),(3,182,3)] (p0.ab.map a8.lv))]) (eD:=[(811,.box [.arr 812 p0.ab.length]),(812,.nest 179 5 [(1,108,5),(2,4,1),(3,182,3)] (p0.ab.map a8.lv))]) R Mq R (bZ (bZ fF)) (Rr dI) ⟨R,R,trivial⟩ (bT R (bT R dO)) R ?_)
   refine sN (oA (v:=(uz _ _ _)) R ?_)
   exact s0 (Wk.to (eQ ⟨R,R,trivial⟩) ⟨R,R,trivial⟩ (by rcases r1 with _ | _ <;> exact R) (cF R))
  rcases r1 with _ | j2
  ·replace h:=M1 h
   refine LH.wk (Wk.eq (el:=[(3,.sptr [.I p1.ai.Time,.I p1.ai.Source,.I p1.ai.Seq,.I p1.Kind,.I p1.Item.ID,.I p1.Item.Version,.str p1.Item.cO,.lst 6 (p1.Item.aH.map aq.lv),.L p1.Item.aO,.I p1.Ref.ID,.I p1.Ref.Version,.I p1.Form]),(5,.nilp)]) (ml:=[(811,.box [.arr 812 p0.ab.length]),(812,.nest 179 5 [(1,108,5),(2,4,1),(3,182,3)] (p0.ab.map a8.lv))]) R R R R) ?_
   refine LH.seq ?_
   refine LH.cK [(3,.sptr [.I p1.ai.Time,.I p1.ai.Source,.I p1.ai.Seq,.I p1.Kind,.I p1.Item.ID,.I p1.Item.Version,.str p1.Item.cO,.lst 6 (p1.Item.aH.map aq.lv),.L p1.Item.aO,.I p1.Ref.ID,.I p1.Ref.Version,.I p1.Form]),(5,.nilp),(11,.bool true)] [(811,.box [.arr 812 p0.ab.length]),(812,.nest 179 5 [(1,108,5),(2,4,1),(3,182,3)] (p0.ab.map a8.lv))] R ?_ ?_
   ·refine sN (oM (v:=.nilp) R ?_)
    refine sX ((wx qt R R).ok) ?_
    exact zS
   refine LH.cond (t:=true) R (fun qE=>?_) (fun qE=>?_)
   ·refine LH.cK [(4,.I 4)] [(811,.box [.arr 812 p0.ab.length]),(812,.nest 179 5 [(1,108,5),(2,4,1),(3,182,3)] (p0.ab.map a8.lv))] R ?_ ?_
    ·refine aX R ?_
     exact zS
    refine LH.ret ?_
    refine aA ?_
    obtain rfl:=oI h
    exact bL (aT Tryz.results144) (dx R (dN ⟨gP (mC R (mC R mN)),R,cF R,Sub.rfl⟩))
   ·cases qE
  replace h:=M3 h
  obtain ⟨x3,fo,h⟩:=aa h
  refine LH.wk (Wk.to (el:=[(3,.sptr [.I p1.ai.Time,.I p1.ai.Source,.I p1.ai.Seq,.I p1.Kind,.I p1.Item.ID,.I p1.Item.Version,.str p1.Item.cO,.lst 6 (p1.Item.aH.map aq.lv),.L p1.Item.aO,.I p1.Ref.ID,.I p1.Ref.Version,.I p1.Form]),(5,.eptr 812 p0.ab.length (j2).toNat 0)]) (ml:=[(811,.box [.arr 812 p0.ab.length]),(812,.nest 179 5 [(1,108,5),(2,4,1),(3,182,3)] ((p0.ab.map a8.lv).set (j2).toNat (.agg [.I x3.ID,.lst 5 (x3.ak.map ah.lv),.lst 1 (x3.au.map LV.bool),.lst 3 (x3.Uses.map bH.lv),.bool x3.al])))]) (eQ ⟨R,R,trivial⟩) (mC R (mC (ry fo) mN)) R (cF R)) ?_
  refine LH.seq ?_
  refine LH.cK [(3,.sptr [.I p1.ai.Time,.I p1.ai.Source,.I p1.ai.Seq,.I p1.Kind,.I p1.Item.ID,.I p1.Item.Version,.str p1.Item.cO,.lst 6 (p1.Item.aH.map aq.lv),.L p1.Item.aO,.I p1.Ref.ID,.I p1.Ref.Version,.I p1.Form]),(5,.eptr 812 p0.ab.length (j2).toNat 0),(11,.bool false)] [(811,.box [.arr 812 p0.ab.length]),(812,.nest 179 5 [(1,108,5),(2,4,1),(3,182,3)] ((p0.ab.map a8.lv).set (j2).toNat (.agg [.I x3.ID,.lst 5 (x3.ak.map ah.lv),.lst 1 (x3.au.map LV.bool),.lst 3 (x3.Uses.map bH.lv),.bool x3.al])))] R ?_ ?_
  ·refine sN (oM (v:=(.eptr _ _ _ _)) R ?_)
   refine sX ((wv qt R R R (by simp) (ct fo)).ok) ?_
   exact zS
  refine LH.cond (t:=false) R (fun oV=>?_) (fun oV=>?_)
  ·cases oV
  refine LH.skip ?_
  refine ag ?_
  refine LH.wk (Wk.eq (el:=[(3,.sptr [.I p1.ai.Time,.I p1.ai.Source,.I p1.ai.Seq,.I p1.Kind,.I p1.Item.ID,.I p1.Item.Version,.str p1.Item.cO,.lst 6 (p1.Item.aH.map aq.lv),.L p1.Item.aO,.I p1.Ref.ID,.I p1.Ref.Version,.I p1.Form]),(5,.eptr 812 p0.ab.length (j2).toNat 0)]) (ml:=[(811,.box [.arr 812 p0.ab.length]),(812,.nest 179 5 [(1,108,5),(2,4,1),(3,182,3)] ((p0.ab.map a8.lv).set (j2).toNat (.agg [.I x3.ID,.lst 5 (x3.ak.map ah.lv),.lst 1 (x3.au.map LV.bool),.lst 3 (x3.Uses.map bH.lv),.bool x3.al])))]) R R R R) ?_
  refine LH.seq ?_
  obtain ⟨w7,hv,h⟩:=aa h
  refine LH.eY mixed [] [0,3,3,3,0,0,3,3,3,0,0,0,0,1,1,0,0] [(3,.sptr [.I p1.ai.Time,.I p1.ai.Source,.I p1.ai.Seq,.I p1.Kind,.I p1.Item.ID,.I p1.Item.Version,.str p1.Item.cO,.lst 6 (p1.Item.aH.map aq.lv),.L p1.Item.aO,.I p1.Ref.ID,.I p1.Ref.Version,.I p1.Form]),(5,.eptr 812 p0.ab.length (j2).toNat 0),(28,.bool w7)] [(811,.box [.arr 812 p0.ab.length]),(812,.nest 179 5 [(1,108,5),(2,4,1),(3,182,3)] ((p0.ab.map a8.lv).set (j2).toNat (.agg [.I x3.ID,.lst 5 (x3.ak.map ah.lv),.lst 1 (x3.au.map LV.bool),.lst 3 (x3.Uses.map bH.lv),.bool x3.al])))] R R (by kernel_rfl) ?_ ?_
  ·refine aI (oM (v:=(.eptr _ _ _ _)) R ⟨R,?_⟩)
   refine mX (gf R R (by simp) (ct fo)) ?_
   refine mX (gb p4 jG oU R R (by simp) (ct fo)) ?_
   refine mX (AN (cs:=[.I x3.ID,.lst 5 (x3.ak.map ah.lv),.lst 1 (x3.au.map LV.bool),.lst 3 (x3.Uses.map bH.lv),.bool x3.al]) R R (by simp) (ct fo) R R jG yA) ?_
   refine qg R ?_
   by_cases cu:x3.al=true
   ·replace hv:=bO hv cu
    refine mF R R cu ?_
    refine mF R R cu ?_
    refine mF R R cu ?_
    refine mF R R cu ?_
    refine mF R R cu ?_
    refine mF R R cu ?_
    refine mF R R cu ?_
    refine mF R R cu ?_
    refine mF R R cu ?_
    refine mF R R cu ?_
    refine mF R R cu ?_
    refine aI (F6 (cB cu) (v:=(.bool _)) R ⟨R,?_⟩)
    obtain rfl:=oI hv
    exact zM
   ·replace cu:=bF cu
    replace hv:=bN hv cu
    refine mT R (cB cu) (aI (oM (v:=(.eptr _ _ _ _)) R ⟨R,?_⟩))
    refine mT R (cB cu) (mX (gf R R (by simp) (ct fo)) ?_)
    refine mT R (cB cu) (mX (gb kH gI pD R R (by simp) (ct fo)) ?_)
    refine mT R (cB cu) (mX (pY (g:=LV.bool) (ys:=x3.au) (ls:=List.map a8.lv p0.ab) (cs:=[.I x3.ID,.lst 5 (x3.ak.map ah.lv),.lst 1 (x3.au.map LV.bool),.lst 3 (x3.Uses.map bH.lv),.bool x3.al]) (id2:=120) (eA:=[.I x3.ID,.lst 5 (x3.ak.map ah.lv),.fp,.lst 3 (x3.Uses.map bH.lv),.bool x3.al]) R R (by simp) (ct fo) R R R gI ow R) ?_)
    refine mT R (cB cu) (aI (av gm fj eM R R R ⟨R,?_⟩))
    refine mT R (cB cu) (aI (av fq aw aL R R R ⟨R,?_⟩))
    refine mT R (cB cu) (aI (aS R aw br ⟨R,?_⟩))
    refine mT R (cB cu) (aI (j7 R R ⟨R,?_⟩))
    obtain ⟨x9,rM,hv⟩:=aa hv
    refine mT R (cB cu) (Kg (eI (f:=LV.bool) ll jG oU R R R rM ⟨R,?_⟩))
    refine mT R (cB cu) (Kg (oO (f:=LV.bool) R R (cU rM).2 R R R jG yA ⟨R,?_⟩))
    refine mT R (cB cu) (aI (dB R ⟨R,?_⟩))
    refine aI (Jr (cB cu) (v:=(.bool _)) R ⟨R,?_⟩)
    obtain rfl:=oI hv
    exact m0 (Wk.trans (Wk.u3 (id:=812) (id2:=120) (o0:=2) (i:=(j2).toNat) (n2:=List.length x3.au) (g:=LV.bool) (ys:=x3.au) (ls:=List.map a8.lv p0.ab) (cs:=[.I x3.ID,.lst 5 (x3.ak.map ah.lv),.fp,.lst 3 (x3.Uses.map bH.lv),.bool x3.al]) (eA:=[.I x3.ID,.lst 5 (x3.ak.map ah.lv),.lst 1 (x3.au.map LV.bool),.lst 3 (x3.Uses.map bH.lv),.bool x3.al]) R (ct fo) R R R R (cv R) R) (Wk.eq R R R R))
  clear hv
  refine LH.cond (t:=w7) R (fun jf=>?_) (fun jf=>?_)
  ·replace h:=bO h jf
   refine LH.cK [(4,.I 8)] [(811,.box [.arr 812 p0.ab.length]),(812,.nest 179 5 [(1,108,5),(2,4,1),(3,182,3)] (p0.ab.map a8.lv))] R ?_ ?_
   ·refine aX R ?_
    exact s0 (Wk.to (eQ ⟨R,trivial⟩) (mC R (mC (ry fo).symm mN)) R (cF R))
   refine LH.ret ?_
   refine aA ?_
   obtain rfl:=oI h
   exact bL (aT Tryz.results144) (dx R (dN ⟨gP (mC R (mC R mN)),R,cF R,Sub.rfl⟩))
  replace h:=bN h jf
  refine LH.skip ?_
  refine ag ?_
  refine LH.wk (Wk.eq (el:=[(3,.sptr [.I p1.ai.Time,.I p1.ai.Source,.I p1.ai.Seq,.I p1.Kind,.I p1.Item.ID,.I p1.Item.Version,.str p1.Item.cO,.lst 6 (p1.Item.aH.map aq.lv),.L p1.Item.aO,.I p1.Ref.ID,.I p1.Ref.Version,.I p1.Form]),(5,.eptr 812 p0.ab.length (j2).toNat 0)]) (ml:=[(811,.box [.arr 812 p0.ab.length]),(812,.nest 179 5 [(1,108,5),(2,4,1),(3,182,3)] ((p0.ab.map a8.lv).set (j2).toNat (.agg [.I x3.ID,.lst 5 (x3.ak.map ah.lv),.lst 1 (x3.au.map LV.bool),.lst 3 (x3.Uses.map bH.lv),.bool x3.al])))]) R R R R) ?_
  refine LH.seq ?_
  obtain ⟨dS,j5,h⟩:=aa h
  refine LH.cK [(3,.sptr [.I p1.ai.Time,.I p1.ai.Source,.I p1.ai.Seq,.I p1.Kind,.I p1.Item.ID,.I p1.Item.Version,.str p1.Item.cO,.lst 6 (p1.Item.aH.map aq.lv),.L p1.Item.aO,.I p1.Ref.ID,.I p1.Ref.Version,.I p1.Form]),(5,.eptr 812 p0.ab.length (j2).toNat 0),(34,.bool dS)] [(811,.box [.arr 812 p0.ab.length]),(812,.nest 179 5 [(1,108,5),(2,4,1),(3,182,3)] ((p0.ab.map a8.lv).set (j2).toNat (.agg [.I x3.ID,.lst 5 (x3.ak.map ah.lv),.lst 1 (x3.au.map LV.bool),.lst 3 (x3.Uses.map bH.lv),.bool x3.al])))] R ?_ ?_
  ·refine sN (oM (v:=(.eptr _ _ _ _)) R ?_)
   refine sX ((gf R R (by simp) (ct fo)).ok) ?_
   refine sX ((gb lS kq sy R R (by simp) (ct fo)).ok) ?_
   refine sX ((pY (g:=bH.lv) (ys:=x3.Uses) (ls:=List.map a8.lv p0.ab) (cs:=[.I x3.ID,.lst 5 (x3.ak.map ah.lv),.lst 1 (x3.au.map LV.bool),.lst 3 (x3.Uses.map bH.lv),.bool x3.al]) (id2:=132) (eA:=[.I x3.ID,.lst 5 (x3.ak.map ah.lv),.lst 1 (x3.au.map LV.bool),.fp,.bool x3.al]) R R (by simp) (ct fo) R R R kq xr R).ok) ?_
   refine sN (Br (vs:=[.sptr [.I p1.ai.Time,.I p1.ai.Source,.I p1.ai.Seq,.I p1.Kind,.I p1.Item.ID,.I p1.Item.Version,.str p1.Item.cO,.lst 6 (p1.Item.aH.map aq.lv),.L p1.Item.aO,.I p1.Ref.ID,.I p1.Ref.Version,.I p1.Form]]) R ?_)
   refine sN (mw (args:=[.arr 132 x3.Uses.length,.fn 190 [.sptr [.I p1.ai.Time,.I p1.ai.Source,.I p1.ai.Seq,.I p1.Kind,.I p1.Item.ID,.I p1.Item.Version,.str p1.Item.cO,.lst 6 (p1.Item.aH.map aq.lv),.L p1.Item.aO,.I p1.Ref.ID,.I p1.Ref.Version,.I p1.Form]]]) (ml:=[(132,.arr 182 3 (x3.Uses.map bH.lv))]) (eD:=[(132,.arr 182 3 (x3.Uses.map bH.lv))]) R QR R (bZ (bZ fF)) (aF.MA 132 182 3 (xs:=List.map bH.lv x3.Uses) (Q0 (dQ:=190) (cW:=[.sptr [.I p1.ai.Time,.I p1.ai.Source,.I p1.ai.Seq,.I p1.Kind,.I p1.Item.ID,.I p1.Item.Version,.str p1.Item.cO,.lst 6 (p1.Item.aH.map aq.lv),.L p1.Item.aO,.I p1.Ref.ID,.I p1.Ref.Version,.I p1.Form]]) TS R (fun _ _ h=>Y7 h) j5) (.row (by simp) (.keep R .nil)) R R R R R Vp) ⟨R,trivial⟩ (bT R dO) R ?_)
   exact s0 (Wk.trans (Wk.u3 (id:=812) (id2:=132) (o0:=3) (i:=(j2).toNat) (n2:=List.length x3.Uses) (g:=bH.lv) (ys:=x3.Uses) (ls:=List.map a8.lv p0.ab) (cs:=[.I x3.ID,.lst 5 (x3.ak.map ah.lv),.lst 1 (x3.au.map LV.bool),.fp,.bool x3.al]) (eA:=[.I x3.ID,.lst 5 (x3.ak.map ah.lv),.lst 1 (x3.au.map LV.bool),.lst 3 (x3.Uses.map bH.lv),.bool x3.al]) R (ct fo) R R R R (cv R) R) (Wk.eq R R R R))
  refine LH.cond (t:=dS) R (fun jt=>?_) (fun jt=>?_)
  ·replace h:=bO h jt
   refine LH.cK [(4,.I 5)] [(811,.box [.arr 812 p0.ab.length]),(812,.nest 179 5 [(1,108,5),(2,4,1),(3,182,3)] (p0.ab.map a8.lv))] R ?_ ?_
   ·refine aX R ?_
    exact s0 (Wk.to (eQ ⟨R,trivial⟩) (mC R (mC (ry fo).symm mN)) R (cF R))
   refine LH.ret ?_
   refine aA ?_
   obtain rfl:=oI h
   exact bL (aT Tryz.results144) (dx R (dN ⟨gP (mC R (mC R mN)),R,cF R,Sub.rfl⟩))
  replace h:=bN h jt
  refine LH.skip ?_
  refine ag ?_
  refine LH.wk (Wk.eq (el:=[(3,.sptr [.I p1.ai.Time,.I p1.ai.Source,.I p1.ai.Seq,.I p1.Kind,.I p1.Item.ID,.I p1.Item.Version,.str p1.Item.cO,.lst 6 (p1.Item.aH.map aq.lv),.L p1.Item.aO,.I p1.Ref.ID,.I p1.Ref.Version,.I p1.Form]),(5,.eptr 812 p0.ab.length (j2).toNat 0)]) (ml:=[(811,.box [.arr 812 p0.ab.length]),(812,.nest 179 5 [(1,108,5),(2,4,1),(3,182,3)] ((p0.ab.map a8.lv).set (j2).toNat (.agg [.I x3.ID,.lst 5 (x3.ak.map ah.lv),.lst 1 (x3.au.map LV.bool),.lst 3 (x3.Uses.map bH.lv),.bool x3.al])))]) R R R R) ?_
  refine LH.seq ?_
  refine LH.cK [(3,.sptr [.I p1.ai.Time,.I p1.ai.Source,.I p1.ai.Seq,.I p1.Kind,.I p1.Item.ID,.I p1.Item.Version,.str p1.Item.cO,.lst 6 (p1.Item.aH.map aq.lv),.L p1.Item.aO,.I p1.Ref.ID,.I p1.Ref.Version,.I p1.Form]),(5,.eptr 812 p0.ab.length (j2).toNat 0),(40,.bool (decide ((x3.Uses.length:Int) ≥ 300)))] [(811,.box [.arr 812 p0.ab.length]),(812,.nest 179 5 [(1,108,5),(2,4,1),(3,182,3)] ((p0.ab.map a8.lv).set (j2).toNat (.agg [.I x3.ID,.lst 5 (x3.ak.map ah.lv),.lst 1 (x3.au.map LV.bool),.lst 3 (x3.Uses.map bH.lv),.bool x3.al])))] R ?_ ?_
  ·refine sN (oM (v:=(.eptr _ _ _ _)) R ?_)
   refine sX ((gf R R (by simp) (ct fo)).ok) ?_
   refine sX ((gb lS kq sy R R (by simp) (ct fo)).ok) ?_
   refine sX ((Ga (g:=bH.lv) (ys:=x3.Uses) (cs:=[.I x3.ID,.lst 5 (x3.ak.map ah.lv),.lst 1 (x3.au.map LV.bool),.lst 3 (x3.Uses.map bH.lv),.bool x3.al]) R R (by simp) (ct fo) R R kq xr).ok) ?_
   refine sX ((AO sq R).ok) ?_
   refine sN (ot R R ?_)
   exact zS
  refine LH.cond (t:=(decide ((x3.Uses.length:Int) ≥ 300))) R (fun mj=>?_) (fun mj=>?_)
  ·replace h:=bO h mj
   refine LH.cK [(4,.I 3)] [(811,.box [.arr 812 p0.ab.length]),(812,.nest 179 5 [(1,108,5),(2,4,1),(3,182,3)] (p0.ab.map a8.lv))] R ?_ ?_
   ·refine aX R ?_
    exact s0 (Wk.to (eQ ⟨R,trivial⟩) (mC R (mC (ry fo).symm mN)) R (cF R))
   refine LH.ret ?_
   refine aA ?_
   obtain rfl:=oI h
   exact bL (aT Tryz.results144) (dx R (dN ⟨gP (mC R (mC R mN)),R,cF R,Sub.rfl⟩))
  replace h:=bN h mj
  refine LH.skip ?_
  refine ag ?_
  obtain ⟨Aa,LZ,h⟩:=aa h
  refine LH.eY mixed [] [0,0,3,3,3,0,0,0,0,0,0,0,0,0,0,2,3,3,3] [] [(811,.box [.arr 812 (List.length (p0.ab.set (j2).toNat (a8.mk x3.ID x3.ak x3.au Aa x3.al)))]),(812,.nest 179 5 [(1,108,5),(2,4,1),(3,182,3)] (List.map a8.lv (p0.ab.set (j2).toNat (a8.mk x3.ID x3.ak x3.au Aa x3.al))))] R R (by kernel_rfl) ?_ ?_
  ·refine aI (oM (v:=(.eptr _ _ _ _)) R ⟨R,?_⟩)
   refine aI (oM (v:=(.eptr _ _ _ _)) R ⟨R,?_⟩)
   refine mX (gf R R (by simp) (ct fo)) ?_
   refine mX (gb lS kq sy R R (by simp) (ct fo)) ?_
   refine mX (wy (g:=bH.lv) (ys:=x3.Uses) (ls:=List.map a8.lv p0.ab) (cs:=[.I x3.ID,.lst 5 (x3.ak.map ah.lv),.lst 1 (x3.au.map LV.bool),.lst 3 (x3.Uses.map bH.lv),.bool x3.al]) (id2:=145) (eA:=[.I x3.ID,.lst 5 (x3.ak.map ah.lv),.lst 1 (x3.au.map LV.bool),.fp,.bool x3.al]) R R (by simp) (ct fo) R R R kq xr R) ?_
   refine aI (av gm fj eM R R R ⟨R,?_⟩)
   refine aI (av fq aw aL R R R ⟨R,?_⟩)
   refine aI (aS R aw br ⟨R,?_⟩)
   refine aI (av pZ aw aL R R R ⟨R,?_⟩)
   refine aI (aS R aw br ⟨R,?_⟩)
   refine aI (av ej dw du R R R ⟨R,?_⟩)
   refine aI (av mz aw aL R R R ⟨R,?_⟩)
   refine aI (aS R aw br ⟨R,?_⟩)
   refine aI (hD (vs:=[(0,.I p1.Ref.Version),(1,.I p1.Form),(2,.I p1.ai.Time)]) ZC RO R (lf A9 aL aw R R R (lf Iq aL aw R R R (lf Ir aL aw R R R gZ))) ⟨R,?_⟩)
   refine aI (ic (f:=bH.lv) (ys:=[(bH.mk p1.Ref.Version p1.Form p1.ai.Time)]) sq RI xB R R R bH.ok ⟨R,?_⟩)
   refine E2 (oN (f:=bH.lv) sq RI xB R R (cv R) R LZ ?_)
   refine mX (gf R R (by simp) (ct fo)) ?_
   refine mX (gb lS kq sy R R (by simp) (ct fo)) ?_
   refine mX_ (AP (g:=bH.lv) (ys:=Aa) (ls:=List.map a8.lv p0.ab) (cs:=[.I x3.ID,.lst 5 (x3.ak.map ah.lv),.lst 1 (x3.au.map LV.bool),.fp,.bool x3.al]) (eA:=[.I x3.ID,.lst 5 (x3.ak.map ah.lv),.lst 1 (x3.au.map LV.bool),.lst 3 (Aa.map bH.lv),.bool x3.al]) R R (by simp) (ct fo) R R R R R (cv R) kq sy R) ?_
   exact m0 (Wk.to eN (mC ((show _=some (LE.box [.arr 812 p0.ab.length]) from R).trans (by simp)) (mC (P5 R R) mN)) R (cF R))
  refine LH.cK [(4,.I 0)] [(811,.box [.arr 812 (List.length (p0.ab.set (j2).toNat (a8.mk x3.ID x3.ak x3.au Aa x3.al)))]),(812,.nest 179 5 [(1,108,5),(2,4,1),(3,182,3)] (List.map a8.lv (p0.ab.set (j2).toNat (a8.mk x3.ID x3.ak x3.au Aa x3.al))))] R ?_ ?_
  ·refine aX R ?_
   exact zS
  refine LH.ret ?_
  obtain rfl:=oI h
  exact bL (aT Tryz.results144) (dx R (dN ⟨gP (mC R (mC R mN)),R,cF R,Sub.rfl⟩))
theorem Q4 {F:Nat} {p0:bV} {p1:bu} {c0:Bool} {r:Int × bV} (h:za F p0 p1 c0=some r):aF Tryz.prog 191 [.ptr 811 0,.agg [.I p1.ai.Time,.I p1.ai.Source,.I p1.ai.Seq,.I p1.Kind,.I p1.Item.ID,.I p1.Item.Version,.str p1.Item.cO,.lst 6 (p1.Item.aH.map aq.lv),.L p1.Item.aO,.I p1.Ref.ID,.I p1.Ref.Version,.I p1.Form],.sptr [.bool c0]] (Mem.of [(811,.box [.arr 812 p0.ab.length]),(812,.nest 179 5 [(1,108,5),(2,4,1),(3,182,3)] (p0.ab.map a8.lv))]) (.I r.1) (Mem.of [(811,.box [.arr 812 r.2.ab.length]),(812,.nest 179 5 [(1,108,5),(2,4,1),(3,182,3)] (r.2.ab.map a8.lv))]):=by
  unfold za at h
  refine aW Tryz.func191 R (nT Tryz.ntmps191 R) ?_
  refine LH.wk (Wk.eq (el:=[(0,.ptr 811 0),(1,.agg [.I p1.ai.Time,.I p1.ai.Source,.I p1.ai.Seq,.I p1.Kind,.I p1.Item.ID,.I p1.Item.Version,.str p1.Item.cO,.lst 6 (p1.Item.aH.map aq.lv),.L p1.Item.aO,.I p1.Ref.ID,.I p1.Ref.Version,.I p1.Form]),(2,.sptr [.bool c0])]) (ml:=[(811,.box [.arr 812 p0.ab.length]),(812,.nest 179 5 [(1,108,5),(2,4,1),(3,182,3)] (p0.ab.map a8.lv))]) R R R R) ?_
  refine LH.cK [(0,.ptr 811 0),(2,.sptr [.bool c0]),(4,.sptr [.I p1.ai.Time,.I p1.ai.Source,.I p1.ai.Seq,.I p1.Kind,.I p1.Item.ID,.I p1.Item.Version,.str p1.Item.cO,.lst 6 (p1.Item.aH.map aq.lv),.L p1.Item.aO,.I p1.Ref.ID,.I p1.Ref.Version,.I p1.Form])] [(811,.box [.arr 812 p0.ab.length]),(812,.nest 179 5 [(1,108,5),(2,4,1),(3,182,3)] (p0.ab.map a8.lv))] R ?_ ?_
  ·refine sB (da R R R R ?_)
   refine aX R ?_
   exact zS
  obtain ⟨r1,dI,h⟩:=aa h
  refine LH.cK [(2,.sptr [.bool c0]),(6,uz 812 p0.ab.length r1)] [(811,.box [.arr 812 p0.ab.length]),(812,.nest 179 5 [(1,108,5),(2,4,1),(3,182,3)] (p0.ab.map a8.lv))] R ?_ ?_
  ·refine fW R ?_
   refine sN (av gm fj eM R R R ?_)
   refine sN (av jE aw aL R R R ?_)
   refine sN (aS R aw br ?_)
   refine sN (mw (args:=[.ptr 811 0,.I p1.Ref.ID]) (ml:=[(811,.box [.arr 812 p0.ab.length]),(812,.nest 179 5 [(1,108,5),(2,4,1),(3,182,3)] (p0.ab.map a8.lv))]) (eD:=[(811,.box [.arr 812 p0.ab.length]),(812,.nest 179 5 [(1,108,5),(2,4,1),(3,182,3)] (p0.ab.map a8.lv))]) R F3 R (bZ (bZ fF)) (Nd dI) ⟨R,R,trivial⟩ (bT R (bT R dO)) R ?_)
   refine sN (oA (v:=(uz _ _ _)) R ?_)
   exact s0 (Wk.to (eQ ⟨R,R,trivial⟩) ⟨R,R,trivial⟩ (by rcases r1 with _ | _ <;> exact R) (cF R))
  rcases r1 with _ | j2
  ·replace h:=M1 h
   refine LH.wk (Wk.eq (el:=[(2,.sptr [.bool c0]),(6,.nilp)]) (ml:=[(811,.box [.arr 812 p0.ab.length]),(812,.nest 179 5 [(1,108,5),(2,4,1),(3,182,3)] (p0.ab.map a8.lv))]) R R R R) ?_
   refine LH.seq ?_
   refine LH.cK [(2,.sptr [.bool c0]),(6,.nilp),(13,.bool true)] [(811,.box [.arr 812 p0.ab.length]),(812,.nest 179 5 [(1,108,5),(2,4,1),(3,182,3)] (p0.ab.map a8.lv))] R ?_ ?_
   ·refine sN (oM (v:=.nilp) R ?_)
    refine sX ((wx qt R R).ok) ?_
    exact zS
   refine LH.cond (t:=true) R (fun qE=>?_) (fun qE=>?_)
   ·refine LH.cK [(5,.I 4)] [(811,.box [.arr 812 p0.ab.length]),(812,.nest 179 5 [(1,108,5),(2,4,1),(3,182,3)] (p0.ab.map a8.lv))] R ?_ ?_
    ·refine aX R ?_
     exact zS
    refine LH.ret ?_
    refine aA ?_
    obtain rfl:=oI h
    exact bL (aT Tryz.results191) (dx R (dN ⟨gP (mC R (mC R mN)),R,cF R,Sub.rfl⟩))
   ·cases qE
  replace h:=M3 h
  obtain ⟨x3,fo,h⟩:=aa h
  refine LH.wk (Wk.to (el:=[(2,.sptr [.bool c0]),(6,.eptr 812 p0.ab.length (j2).toNat 0)]) (ml:=[(811,.box [.arr 812 p0.ab.length]),(812,.nest 179 5 [(1,108,5),(2,4,1),(3,182,3)] ((p0.ab.map a8.lv).set (j2).toNat (.agg [.I x3.ID,.lst 5 (x3.ak.map ah.lv),.lst 1 (x3.au.map LV.bool),.lst 3 (x3.Uses.map bH.lv),.bool x3.al])))]) (eQ ⟨R,R,trivial⟩) (mC R (mC (ry fo) mN)) R (cF R)) ?_
  refine LH.seq ?_
  refine LH.cK [(2,.sptr [.bool c0]),(6,.eptr 812 p0.ab.length (j2).toNat 0),(13,.bool false)] [(811,.box [.arr 812 p0.ab.length]),(812,.nest 179 5 [(1,108,5),(2,4,1),(3,182,3)] ((p0.ab.map a8.lv).set (j2).toNat (.agg [.I x3.ID,.lst 5 (x3.ak.map ah.lv),.lst 1 (x3.au.map LV.bool),.lst 3 (x3.Uses.map bH.lv),.bool x3.al])))] R ?_ ?_
  ·refine sN (oM (v:=(.eptr _ _ _ _)) R ?_)
   refine sX ((wv qt R R R (by simp) (ct fo)).ok) ?_
   exact zS
  refine LH.cond (t:=false) R (fun oV=>?_) (fun oV=>?_)
  ·cases oV
  refine LH.skip ?_
  refine ag ?_
  refine LH.wk (Wk.eq (el:=[(2,.sptr [.bool c0]),(6,.eptr 812 p0.ab.length (j2).toNat 0)]) (ml:=[(811,.box [.arr 812 p0.ab.length]),(812,.nest 179 5 [(1,108,5),(2,4,1),(3,182,3)] ((p0.ab.map a8.lv).set (j2).toNat (.agg [.I x3.ID,.lst 5 (x3.ak.map ah.lv),.lst 1 (x3.au.map LV.bool),.lst 3 (x3.Uses.map bH.lv),.bool x3.al])))]) R R R R) ?_
  refine LH.seq ?_
  refine LH.eY mixed [] [0,3,3,3,0,0] [(2,.sptr [.bool c0]),(6,.eptr 812 p0.ab.length (j2).toNat 0),(19,.bool (x3.al == c0))] [(811,.box [.arr 812 p0.ab.length]),(812,.nest 179 5 [(1,108,5),(2,4,1),(3,182,3)] ((p0.ab.map a8.lv).set (j2).toNat (.agg [.I x3.ID,.lst 5 (x3.ak.map ah.lv),.lst 1 (x3.au.map LV.bool),.lst 3 (x3.Uses.map bH.lv),.bool x3.al])))] R R (by kernel_rfl) ?_ ?_
  ·refine aI (oM (v:=(.eptr _ _ _ _)) R ⟨R,?_⟩)
   refine mX (gf R R (by simp) (ct fo)) ?_
   refine mX (gb p4 jG oU R R (by simp) (ct fo)) ?_
   refine mX (AN (cs:=[.I x3.ID,.lst 5 (x3.ak.map ah.lv),.lst 1 (x3.au.map LV.bool),.lst 3 (x3.Uses.map bH.lv),.bool x3.al]) R R (by simp) (ct fo) R R jG yA) ?_
   refine aI (aS R jG yA ⟨R,?_⟩)
   refine aI (adl R R tb4 ⟨R,?_⟩)
   exact zM
  refine LH.cond (t:=(x3.al == c0)) R (fun lz=>?_) (fun lz=>?_)
  ·replace h:=bO h lz
   refine LH.cK [(5,.I 8)] [(811,.box [.arr 812 p0.ab.length]),(812,.nest 179 5 [(1,108,5),(2,4,1),(3,182,3)] (p0.ab.map a8.lv))] R ?_ ?_
   ·refine aX R ?_
    exact s0 (Wk.to (eQ ⟨R,trivial⟩) (mC R (mC (ry fo).symm mN)) R (cF R))
   refine LH.ret ?_
   refine aA ?_
   obtain rfl:=oI h
   exact bL (aT Tryz.results191) (dx R (dN ⟨gP (mC R (mC R mN)),R,cF R,Sub.rfl⟩))
  replace h:=bN h lz
  refine LH.skip ?_
  refine ag ?_
  refine LH.cK [] [(811,.box [.arr 812 (List.length (p0.ab.set (j2).toNat (a8.mk x3.ID x3.ak x3.au x3.Uses c0)))]),(812,.nest 179 5 [(1,108,5),(2,4,1),(3,182,3)] (List.map a8.lv (p0.ab.set (j2).toNat (a8.mk x3.ID x3.ak x3.au x3.Uses c0))))] R ?_ ?_
  ·refine sN (oM (v:=(.eptr _ _ _ _)) R ?_)
   refine sN (aS R jG yA ?_)
   refine sX ((gf R R (by simp) (ct fo)).ok) ?_
   refine sX ((gb p4 jG oU R R (by simp) (ct fo)).ok) ?_
   refine Kl ((Un (ls:=List.map a8.lv p0.ab) (cs:=[.I x3.ID,.lst 5 (x3.ak.map ah.lv),.lst 1 (x3.au.map LV.bool),.lst 3 (x3.Uses.map bH.lv),.bool x3.al]) (eA:=[.I x3.ID,.lst 5 (x3.ak.map ah.lv),.lst 1 (x3.au.map LV.bool),.lst 3 (x3.Uses.map bH.lv),.bool c0]) R R (by simp) (ct fo) R R R R R jG oU R).ok) ?_
   exact s0 (Wk.to eN (mC ((show _=some (LE.box [.arr 812 p0.ab.length]) from R).trans (by simp)) (mC (P5 R R) mN)) R (cF R))
  refine LH.cK [(5,.I 0)] [(811,.box [.arr 812 (List.length (p0.ab.set (j2).toNat (a8.mk x3.ID x3.ak x3.au x3.Uses c0)))]),(812,.nest 179 5 [(1,108,5),(2,4,1),(3,182,3)] (List.map a8.lv (p0.ab.set (j2).toNat (a8.mk x3.ID x3.ak x3.au x3.Uses c0))))] R ?_ ?_
  ·refine aX R ?_
   exact zS
  refine LH.ret ?_
  obtain rfl:=oI h
  exact bL (aT Tryz.results191) (dx R (dN ⟨gP (mC R (mC R mN)),R,cF R,Sub.rfl⟩))
theorem Q9 {F:Nat} {p0:Bool} {r:Bool} (h:Rj F p0=some r):aF Tryz.prog 145 [.bool p0] (Mem.of []) (.fn 191 [.sptr [.bool r]]) (Mem.of []):=by
  unfold Rj at h
  refine aW Tryz.func145 R (nT Tryz.ntmps145 R)<|LH.ae R (sB<|da R R R R<|sN<|oA (v:=.nilf) R zQ)<|LH.ae R (sN<|Br (vs:=[.sptr [.bool p0]]) R<|sN<|oA (v:=(.fn _ _)) R zQ)<|LH.ret ?_
  obtain rfl:=oI h
  exact ba<|aT Tryz.results145
def ji:Nat→LV
  | 1=>.fn 141 []
  | 2=>.fn 142 []
  | 3=>.fn 143 []
  | 4=>.fn 144 []
  | 5=>.fn 191 [.sptr [.bool true]]
  | 6=>.fn 191 [.sptr [.bool false]]
  | _=>.nilf
theorem jo (n:Nat):(ji n).pure=true:=by unfold ji; split <;> rfl
theorem YX {F:Nat} {r:(List (Int × Nat))} (h:Rt F=some r):aF Tryz.prog 75 [] (Mem.of []) (.mp 14501) (Mem.of [(14501,.map 3 171 (mv LV.I ji r))]):=by
  unfold Rt at h
  refine aW Tryz.func75 R (nT Tryz.ntmps75 R)<|LH.ae R (sN<|oA (v:=.fp) R zQ)<|LH.ae R (sX ((k9 (kt:=3) (vt:=171) (id:=14501) R).ok)<|Kl ((fY (f:=LV.I) (g:=ji) (xs:=([]:List (Int × Nat))) (key:=1) (val:=1) (.inr R) nw oL Bp jo R R R R).ok)<|Kl ((fY (f:=LV.I) (g:=ji) (xs:=(et ([]:List (Int × Nat)) 1 1)) (key:=2) (val:=2) (.inr R) nw oL Bp jo R R R R).ok)<|Kl ((fY (f:=LV.I) (g:=ji) (xs:=(et (et ([]:List (Int × Nat)) 1 1) 2 2)) (key:=3) (val:=3) (.inr R) nw oL Bp jo R R R R).ok)<|Kl ((fY (f:=LV.I) (g:=ji) (xs:=(et (et (et ([]:List (Int × Nat)) 1 1) 2 2) 3 3)) (key:=4) (val:=4) (.inr R) nw oL Bp jo R R R R).ok)<|sN<|dh Mg (Q9 (F:=F) (r:=true) R)<|Kl ((fY (f:=LV.I) (g:=ji) (xs:=(et (et (et (et ([]:List (Int × Nat)) 1 1) 2 2) 3 3) 4 4)) (key:=5) (val:=5) (.inr R) nw oL Bp jo R R R R).ok)<|sN<|dh Mg (Q9 (F:=F) (r:=false) R)<|Kl ((fY (f:=LV.I) (g:=ji) (xs:=(et (et (et (et (et ([]:List (Int × Nat)) 1 1) 2 2) 3 3) 4 4) 5 5)) (key:=6) (val:=6) (.inr R) nw oL Bp jo R R R R).ok)<|sN<|oM (v:=(.mp _)) R<|sN<|oA (v:=(.mp _)) R zQ)<|LH.ret ?_
  obtain rfl:=oI h
  exact ba<|aT Tryz.results75
end Go.Proofs.YtiinmaihgmfniaaGreat
