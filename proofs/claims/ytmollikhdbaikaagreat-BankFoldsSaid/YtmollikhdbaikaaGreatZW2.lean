import Derived.Test.YtmollikhdbaikaaGreatZW1
set_option linter.unusedVariables false
set_option linter.unusedSimpArgs false
set_option maxRecDepth 100000
set_option maxHeartbeats 1000000
namespace Go.Proofs.YtmollikhdbaikaaGreat
open Go.L Go.Sh
theorem q196q {F:Nat} {p0:List Int} {p1:List Int} {r:Bool} (h:q21q F p0 p1=some r):LCall Tryz.prog 90 [.L p0,.L p1] (Mem.of []) (.bool r) (Mem.of []):=by
  unfold q21q at h
  refine bodyT Tryz.func90 R (nT Tryz.ntmps90 R) (LH.wk (Wk.eq (el:=[(0,.L p0),(1,.L p1)]) (ml:=[]) R R R R) (LH.seqT [(0,.L p0),(1,.L p1)] [] R (sAb R zS) (LH.seq (LH.seqT [(0,.L p0),(1,.L p1),(10,.bool ((p0.length:Int) != (p1.length:Int)))] [] R (sMl R (sN (oLnL (f:=LV.I) te22 R (sMl R (sN (oLnL (f:=LV.I) te22 R (sN (oNe R R zS)))))))) (LH.cond (t:=((p0.length:Int) != (p1.length:Int))) R (fun hc1=>?_) (fun hc1=>?_))))))
  ·replace h:=iteT h hc1
   refine LH.seqT [(4,.bool false)] [] R (sAb R zS) (LH.ret (thenR ?_))
   obtain rfl:=oI h
   exact retE (aT Tryz.results90) (lrT R (lr0 ⟨memN mN,R,prK R,Sub.rfl⟩))
  replace h:=iteF h hc1
  refine LH.skip (thenN (LH.wk (Wk.eq (el:=[(0,.L p0),(1,.L p1)]) (ml:=[]) R R R R) (LH.seq (LH.seqT [(0,.L p0),(1,.L p1),(12,.I (p0.length:Int)),(13,.I 0)] [] R (sMl R (sN (oLnL (f:=LV.I) te22 R (sMi R zS)))) (LH.block (LH.loop (fun n e m=>∃ (n2:Int),q11q p0 p1 n n2=some r∧e=Env.of [(0,.L p0),(1,.L p1),(12,.I (p0.length:Int)),(13,.I n2)]∧m=Mem.of []) F ⟨0,h,R,R⟩ ?_))))))
  clear h
  rintro n e m ⟨n2,h,rfl,rfl⟩
  rcases n with _ | n
  · cases (show Option.none=some _ from h)
  obtain ⟨rec1,hrec1⟩:∃ f,f=q11q p0 p1 n:=⟨_,rfl⟩
  replace h:q15q p0 p1 rec1 n2=some r:=hrec1 ▸ h
  unfold q15q at h
  refine LH.seqT [(0,.L p0),(1,.L p1),(12,.I (p0.length:Int)),(13,.I n2),(14,.bool (decide (n2<(p0.length:Int))))] [] R (sN (oLt R R zS)) (LH.seq (LH.cond (t:=(decide (n2<(p0.length:Int)))) R (fun hc3=>?_) (fun hc3=>?_)))
  ·replace h:=iteT h hc3
   refine LH.skip (thenN (LH.wk (Wk.eq (el:=[(0,.L p0),(1,.L p1),(12,.I (p0.length:Int)),(13,.I n2)]) (ml:=[]) R R R R) (LH.seq (LH.block (LH.seqT [(0,.L p0),(1,.L p1),(5,.I n2),(12,.I (p0.length:Int)),(13,.I n2)] [] R (sMi R (sAi R zS)) ?_)))))
   obtain ⟨x4,hx4,h⟩:=bindS h
   obtain ⟨x5,hx5,h⟩:=bindS h
   refine LH.seqJM mixed [] [0,0,0,0,0,0,0,0,0] [(0,.L p0),(1,.L p1),(12,.I (p0.length:Int)),(13,.I n2),(24,.bool (x4 != x5))] [] R R (by kernel_rfl) (mMl R (mMi R (mN0 (oIx (f:=LV.I) te22 tk3 ts3 R R okI hx4 R ⟨R,mN0 (oLd R tk3 ta3 ⟨R,mMl R (mMi R (mN0 (oIx (f:=LV.I) te22 tk3 ts3 R R okI hx5 R ⟨R,mN0 (oLd R tk3 ta3 ⟨R,mN0 (oNe R R ⟨R,zM⟩)⟩)⟩)))⟩)⟩)))) (LH.cond (t:=(x4 != x5)) R (fun hc6=>?_) (fun hc6=>?_))
   ·replace h:=iteT h hc6
    refine LH.seqT [(4,.bool false)] [] R (sAb R zS) (LH.ret (blockR (thenR (roundR (blockR (thenR ?_))))))
    obtain rfl:=oI h
    exact retE (aT Tryz.results90) (lrT R (lr0 ⟨memN mN,R,prK R,Sub.rfl⟩))
   replace h:=iteF h hc6
   refine LH.skip (blockN (thenN (LH.loneT [(0,.L p0),(1,.L p1),(12,.I (p0.length:Int)),(13,.I (i64 (n2+1)))] [] R (sN (oAdd R R (sMi R zS))) ?_)))
   exact roundI ⟨(i64 (n2+1)),hrec1 ▸ h,R,R⟩ (Wk.eq R R R R)
  replace h:=iteF h hc3
  refine LH.exit (thenX (roundX (blockH (thenN (LH.seqT [(4,.bool true)] [] R (sAb R zS) (LH.ret ?_))))))
  obtain rfl:=oI h
  exact retE (aT Tryz.results90) (lrT R (lr0 ⟨memN mN,R,prK R,Sub.rfl⟩))

theorem q223q {F:Nat} {p0:GItem} {p1:GItem} {r:Bool} (h:q143q F p0 p1=some r):LCall Tryz.prog 74 [GItem.lv p0,GItem.lv p1] (Mem.of []) (.bool r) (Mem.of []):=by
  unfold q143q at h
  refine bodyT Tryz.func74 R (nT Tryz.ntmps74 R) (LH.wk (Wk.eq (el:=[(0,GItem.lv p0),(1,GItem.lv p1)]) (ml:=[]) R R R R) (LH.seqT [(2,.sptr (GItem.lv p0).cells),(3,.sptr (GItem.lv p1).cells)] [] R (sB (oBxR R R R R (sB (oBxR R R R R (sAb R zS))))) ?_))
  obtain ⟨w2,hv,h⟩:=bindS h
  refine LH.seqT [(4,.bool w2)] [] R ?_ ?_
  ·refine sN (oFaS tf54_0 tk3 ts3 R R R (sN (oLd R tk3 ta3 (sN (oFaS tf54_0 tk3 ts3 R R R (sN (oLd R tk3 ta3 (sN (oEq R R (sMb R ?_))))))))))
   by_cases hb3:(p0.ID == p1.ID)=true
   ·replace hv:=iteT hv hb3
    refine sT R (cB hb3) (oFaS tf54_1 tk3 ts3 R R R (sT R (cB hb3) (oLd R tk3 ta3 (sT R (cB hb3) (oFaS tf54_1 tk3 ts3 R R R (sT R (cB hb3) (oLd R tk3 ta3 (sT R (cB hb3) (oEq R R (sN (oPkT (cB hb3) (v:=(.bool _)) R (sMb R ?_))))))))))))
    by_cases hb4:(p0.Version == p1.Version)=true
    ·replace hv:=iteT hv hb4
     refine sT R (cB hb4) (oFaS tf54_2 tk9 ts9 R R R (sT R (cB hb4) (oLd R tk9 ta9 (sT R (cB hb4) (oFaS tf54_2 tk9 ts9 R R R (sT R (cB hb4) (oLd R tk9 ta9 (sXT R (cB hb4) ((ok_sEq R R).ok) (sN (oPkT (cB hb4) (v:=(.bool _)) R (sMb R ?_)))))))))))
     by_cases hb5:(decide (p0.Stem=p1.Stem))=true
     ·replace hv:=iteT hv hb5
      refine sT R (cB hb5) (oFaS tf54_3 tk52 ts52 R R R (sT R (cB hb5) (oLd R tk52 ta52 (sT R (cB hb5) (oFaS tf54_3 tk52 ts52 R R R (sT R (cB hb5) (oLd R tk52 ta52 ?_)))))))
      obtain ⟨r6,hr6,hv⟩:=bindS hv
      refine sT R (cB hb5) (oCP (args:=[.lst 6 (List.map GPart.lv p0.Parts),.lst 6 (List.map GPart.lv p1.Parts)]) R isF89 R (sbR (sbR sbN)) (q192q hr6) R (sN (oPkT (cB hb5) (v:=(.bool _)) R (sMb R ?_))))
      by_cases hb7:r6=true
      ·replace hv:=iteT hv hb7
       refine sT R (cB hb7) (oFaS tf54_4 tk22 ts22 R R R (sT R (cB hb7) (oLd R tk22 ta22 (sT R (cB hb7) (oFaS tf54_4 tk22 ts22 R R R (sT R (cB hb7) (oLd R tk22 ta22 ?_)))))))
       obtain ⟨r8,hr8,hv⟩:=bindS hv
       refine sT R (cB hb7) (oCP (args:=[.L p0.Enemies,.L p1.Enemies]) R isF90 R (sbR (sbR sbN)) (q196q hr8) R (sN (oPkT (cB hb7) (v:=(.bool _)) R (sAb R ?_))))
       obtain rfl:=oI hv
       exact zS
      ·replace hb7:=bF hb7
       replace hv:=iteF hv hb7
       refine sF R R hb7 (sF R R hb7 (sF R R hb7 (sF R R hb7 (sF R R hb7 (sN (oPkF (cB hb7) (v:=(.bool _)) R (sAb R ?_)))))))
       obtain rfl:=oI hv
       exact zS
     ·replace hb5:=bF hb5
      replace hv:=iteF hv hb5
      refine sF R R hb5 (sF R R hb5 (sF R R hb5 (sF R R hb5 (sF R R hb5 (sN (oPkF (cB hb5) (v:=(.bool _)) R (sMb R (sF R R R (sF R R R (sF R R R (sF R R R (sF R R R (sN (oPkF R (v:=(.bool _)) R (sAb R ?_)))))))))))))))
      obtain rfl:=oI hv
      exact zS
    ·replace hb4:=bF hb4
     replace hv:=iteF hv hb4
     refine sF R R hb4 (sF R R hb4 (sF R R hb4 (sF R R hb4 (sF R R hb4 (sN (oPkF (cB hb4) (v:=(.bool _)) R (sMb R (sF R R R (sF R R R (sF R R R (sF R R R (sF R R R (sN (oPkF R (v:=(.bool _)) R (sMb R (sF R R R (sF R R R (sF R R R (sF R R R (sF R R R (sN (oPkF R (v:=(.bool _)) R (sAb R ?_)))))))))))))))))))))))
     obtain rfl:=oI hv
     exact zS
   ·replace hb3:=bF hb3
    replace hv:=iteF hv hb3
    refine sF R R hb3 (sF R R hb3 (sF R R hb3 (sF R R hb3 (sF R R hb3 (sN (oPkF (cB hb3) (v:=(.bool _)) R (sMb R (sF R R R (sF R R R (sF R R R (sF R R R (sF R R R (sN (oPkF R (v:=(.bool _)) R (sMb R (sF R R R (sF R R R (sF R R R (sF R R R (sF R R R (sN (oPkF R (v:=(.bool _)) R (sMb R (sF R R R (sF R R R (sF R R R (sF R R R (sF R R R (sN (oPkF R (v:=(.bool _)) R (sAb R ?_)))))))))))))))))))))))))))))))
    obtain rfl:=oI hv
    exact zS
  clear hv
  refine LH.ret ?_
  obtain rfl:=oI h
  exact retE (aT Tryz.results74) (lrT R (lr0 ⟨memN mN,R,prK R,Sub.rfl⟩))

theorem q247q {F:Nat} {p0:Gq0} {p1:Gq0} {r:Bool} (h:bank_Same F p0 p1=some r):LCall Tryz.prog 56 [Gq0.lv p0,Gq0.lv p1] (Mem.of []) (.bool r) (Mem.of []):=by
  unfold bank_Same at h
  refine bodyT Tryz.func56 R (nT Tryz.ntmps56 R) (LH.wk (Wk.eq (el:=[(0,Gq0.lv p0),(1,Gq0.lv p1)]) (ml:=[]) R R R R) (LH.seqT [(2,.sptr (Gq0.lv p0).cells),(3,.sptr (Gq0.lv p1).cells)] [] R (sB (oBxR R R R R (sB (oBxR R R R R (sAb R zS))))) ?_))
  obtain ⟨w2,hv,h⟩:=bindS h
  refine LH.seqT [(4,.bool w2)] [] R ?_ ?_
  ·refine sN (oFaS tf63_0 tk61 ts61 R R R (sN (oLdA R tk61 ta61 ts61 R R (sN (oFaS tf63_0 tk61 ts61 R R R (sN (oLdA R tk61 ta61 ts61 R R (sN (oEqA R R (ae61 p0.Stamp p1.Stamp) (sMb R ?_))))))))))
   by_cases hb3:(decide (p0.Stamp=p1.Stamp))=true
   ·replace hv:=iteT hv hb3
    refine sT R (cB hb3) (oFaS tf63_1 tk3 ts3 R R R (sT R (cB hb3) (oLd R tk3 ta3 (sT R (cB hb3) (oFaS tf63_1 tk3 ts3 R R R (sT R (cB hb3) (oLd R tk3 ta3 (sT R (cB hb3) (oEq R R (sN (oPkT (cB hb3) (v:=(.bool _)) R (sMb R ?_))))))))))))
    by_cases hb4:(p0.Kind == p1.Kind)=true
    ·replace hv:=iteT hv hb4
     refine sT R (cB hb4) (oFaS tf63_3 tk43 ts43 R R R (sT R (cB hb4) (oLdA R tk43 ta43 ts43 R R (sT R (cB hb4) (oFaS tf63_3 tk43 ts43 R R R (sT R (cB hb4) (oLdA R tk43 ta43 ts43 R R (sT R (cB hb4) (oEqA R R (ae43 p0.Ref p1.Ref) (sN (oPkT (cB hb4) (v:=(.bool _)) R (sMb R ?_))))))))))))
     by_cases hb5:(decide (p0.Ref=p1.Ref))=true
     ·replace hv:=iteT hv hb5
      refine sT R (cB hb5) (oFaS tf63_4 tk3 ts3 R R R (sT R (cB hb5) (oLd R tk3 ta3 (sT R (cB hb5) (oFaS tf63_4 tk3 ts3 R R R (sT R (cB hb5) (oLd R tk3 ta3 (sT R (cB hb5) (oEq R R (sN (oPkT (cB hb5) (v:=(.bool _)) R (sMb R ?_))))))))))))
      by_cases hb6:(p0.Form == p1.Form)=true
      ·replace hv:=iteT hv hb6
       refine sT R (cB hb6) (oFaS tf63_2 tk54 ts54 R R R (sT R (cB hb6) (oLdA R tk54 ta54 ts54 R R (sT R (cB hb6) (oFaS tf63_2 tk54 ts54 R R R (sT R (cB hb6) (oLdA R tk54 ta54 ts54 R R ?_)))))))
       obtain ⟨r7,hr7,hv⟩:=bindS hv
       refine sT R (cB hb6) (oCP (args:=[GItem.lv p0.Item,GItem.lv p1.Item]) R isF74 R (sbR (sbR sbN)) (q223q hr7) R (sN (oPkT (cB hb6) (v:=(.bool _)) R (sAb R ?_))))
       obtain rfl:=oI hv
       exact zS
      ·replace hb6:=bF hb6
       replace hv:=iteF hv hb6
       refine sF R R hb6 (sF R R hb6 (sF R R hb6 (sF R R hb6 (sF R R hb6 (sN (oPkF (cB hb6) (v:=(.bool _)) R (sAb R ?_)))))))
       obtain rfl:=oI hv
       exact zS
     ·replace hb5:=bF hb5
      replace hv:=iteF hv hb5
      refine sF R R hb5 (sF R R hb5 (sF R R hb5 (sF R R hb5 (sF R R hb5 (sN (oPkF (cB hb5) (v:=(.bool _)) R (sMb R (sF R R R (sF R R R (sF R R R (sF R R R (sF R R R (sN (oPkF R (v:=(.bool _)) R (sAb R ?_)))))))))))))))
      obtain rfl:=oI hv
      exact zS
    ·replace hb4:=bF hb4
     replace hv:=iteF hv hb4
     refine sF R R hb4 (sF R R hb4 (sF R R hb4 (sF R R hb4 (sF R R hb4 (sN (oPkF (cB hb4) (v:=(.bool _)) R (sMb R (sF R R R (sF R R R (sF R R R (sF R R R (sF R R R (sN (oPkF R (v:=(.bool _)) R (sMb R (sF R R R (sF R R R (sF R R R (sF R R R (sF R R R (sN (oPkF R (v:=(.bool _)) R (sAb R ?_)))))))))))))))))))))))
     obtain rfl:=oI hv
     exact zS
   ·replace hb3:=bF hb3
    replace hv:=iteF hv hb3
    refine sF R R hb3 (sF R R hb3 (sF R R hb3 (sF R R hb3 (sF R R hb3 (sN (oPkF (cB hb3) (v:=(.bool _)) R (sMb R (sF R R R (sF R R R (sF R R R (sF R R R (sF R R R (sN (oPkF R (v:=(.bool _)) R (sMb R (sF R R R (sF R R R (sF R R R (sF R R R (sF R R R (sN (oPkF R (v:=(.bool _)) R (sMb R (sF R R R (sF R R R (sF R R R (sF R R R (sF R R R (sN (oPkF R (v:=(.bool _)) R (sAb R ?_)))))))))))))))))))))))))))))))
    obtain rfl:=oI hv
    exact zS
  clear hv
  refine LH.ret ?_
  obtain rfl:=oI h
  exact retE (aT Tryz.results56) (lrT R (lr0 ⟨memN mN,R,prK R,Sub.rfl⟩))

theorem q165q {p0:GItem} {r:GItem} (h:q74q p0=some r):LCall Tryz.prog 41 [GItem.lv p0] (Mem.of []) (GItem.lv r) (Mem.of []):=by
  unfold q74q at h
  refine bodyT Tryz.func41 R (nT Tryz.ntmps41 R) (LH.wk (Wk.eq (el:=[(0,GItem.lv p0)]) (ml:=[]) R R R R) (LH.seqT [(1,.ptr 101 0),(2,.ptr 102 0)] [(101,.box (GItem.lv p0).cells),(102,.box [.I 0,.I 0,.str (ByteArray.mk #[]),.nil,.nil])] R (sN (oBx (id:=101) R R R R R R (sN (oAl (id:=102) R tz54 R R zS)))) ?_))
  obtain ⟨v1,hv1,h⟩:=bindS h
  refine LH.seqT [(1,.ptr 101 0),(2,.ptr 102 0)] [(101,.box [.I p0.ID,.I p0.Version,.str p0.Stem,.lst 6 (List.map GPart.lv v1),.L p0.Enemies]),(102,.box [.I 0,.I 0,.str (ByteArray.mk #[]),.nil,.nil])] R (sN (oFa tf54_3 tk52 ts52 R R (sN (oLdP R R R R tk52 ta52 (sN (oCP (args:=[.lst 6 (List.map GPart.lv p0.Parts)]) R isF69 R (sbR sbN) (LCall.frz (clone_ok (g:=GPart.lv) cloneW69 R 105 hv1) R) R (sN (oFa tf54_3 tk52 ts52 R R (s_ (oSt R R R tk52 ts52 R R R zS)))))))))) ?_
  obtain ⟨v2,hv2,h⟩:=bindS h
  refine LH.seqT [(1,.sptr [.I p0.ID,.I p0.Version,.str p0.Stem,.lst 6 (List.map GPart.lv v1),.L v2]),(2,.ptr 102 0)] [(102,.box [.I 0,.I 0,.str (ByteArray.mk #[]),.nil,.nil])] R (sN (oFa tf54_4 tk22 ts22 R R (sN (oLdP R R R R tk22 ta22 (sN (oCP (args:=[.L p0.Enemies]) R isF70 R (sbR sbN) (LCall.frz (clone_ok (g:=LV.I) cloneW70 R 109 hv2) R) R (sN (oFa tf54_4 tk22 ts22 R R (s_ (oSt R R R tk22 ts22 R R R (s0 ((Wk.trans (Wk.eq (el:=[(1,.ptr 101 0),(2,.ptr 102 0)]) (ml:=[(101,.box [.I p0.ID,.I p0.Version,.str p0.Stem,.lst 6 (List.map GPart.lv v1),.L v2]),(102,.box [.I 0,.I 0,.str (ByteArray.mk #[]),.nil,.nil])]) R R R R) (Wk.trans (Wk.frzB 101 [.I p0.ID,.I p0.Version,.str p0.Stem,.lst 6 (List.map GPart.lv v1),.L v2] R R R (prN R)) (Wk.eq R R R R))))))))))))))) (LH.seqT [(2,.sptr [.I p0.ID,.I p0.Version,.str p0.Stem,.lst 6 (List.map GPart.lv v1),.L v2])] [] R (sN (oLdA R tk54 ta54 ts54 R R (s_ (oSt R R R tk54 ts54 R R R (s0 ((Wk.trans (Wk.eq (el:=[(2,.ptr 102 0)]) (ml:=[(102,.box [.I p0.ID,.I p0.Version,.str p0.Stem,.lst 6 (List.map GPart.lv v1),.L v2])]) R R R R) (Wk.trans (Wk.frzB 102 [.I p0.ID,.I p0.Version,.str p0.Stem,.lst 6 (List.map GPart.lv v1),.L v2] R R R (prN R)) (Wk.eq R R R R))))))))) (LH.ret ?_))
  obtain rfl:=oI h
  exact retE (aT Tryz.results41) (lrSA R tk54 ta54 ts54 R R (lr0 ⟨memN mN,R,prK R,Sub.rfl⟩))

theorem q216q {F:Nat} {p0:List Gq0} {r:List Gq0 × Int} (h:q131q F p0=some r):LCall Tryz.prog 32 [.lst 12 (List.map Gq0.lv p0)] (Mem.of []) (.tup [.lst 12 (List.map Gq0.lv r.1),.I r.2]) (Mem.of []):=by
  unfold q131q at h
  refine bodyT Tryz.func32 R (nT Tryz.ntmps32 R) (LH.wk (Wk.eq (el:=[(0,.lst 12 (List.map Gq0.lv p0))]) (ml:=[]) R R R R) (LH.seqT [(0,.lst 12 (List.map Gq0.lv p0))] [] R (sAn R (sAi R zS)) ?_))
  obtain ⟨r1,hr1,h⟩:=bindS h
  refine LH.seqT [(0,.lst 12 (List.map Gq0.lv p0)),(4,.L r1.1),(5,.I r1.2)] [] R (sMl R (sN (oCP (args:=[.lst 12 (List.map Gq0.lv p0),.fn 55 [],.fn 56 []]) R isF54 R (sbR (sbR (sbR sbN))) (q180q (p1_f:=55) (p1_c:=[]) isF55 R (fun _ _ h=>q208q h) (p2_f:=56) (p2_c:=[]) isF56 R (fun _ _ _ h=>q247q h) hr1) R (sMt R (sN (oEx R R (sN (oEx R R (sAl R (sAi R zS)))))))))) (LH.seq (LH.seqT [(0,.lst 12 (List.map Gq0.lv p0)),(4,.L r1.1),(5,.I r1.2),(15,.bool (r1.2 != 0))] [] R (sMi R (sN (oNe R R zS))) (LH.cond (t:=(r1.2 != 0)) R (fun hc2=>?_) (fun hc2=>?_))))
  ·replace h:=iteT h hc2
   refine LH.seqT [(2,.nil),(3,.I r1.2)] [] R (sMi R (sAn R (sAi R zS))) (LH.ret (thenR ?_))
   obtain rfl:=oI h
   exact retE (aT Tryz.results32) (lrT R (lrT R (lr0 ⟨memN mN,R,prK R,(Sub.tup (sbL (sbR sbN)))⟩)))
  replace h:=iteF h hc2
  refine LH.skip (thenN ?_)
  obtain ⟨v3,hv3,h⟩:=bindS h
  refine LH.seqT [(0,.lst 12 (List.map Gq0.lv p0)),(4,.L r1.1),(6,.arr 119 (List.length v3))] [(119,.arr 63 12 (List.map Gq0.lv v3))] R (sMl R (sN (oLnL (f:=LV.I) te22 R (sX (ok_mkS (f:=Gq0.lv) (z:=(Gq0.mk (Gq4.mk 0 0 0) 0 (GItem.mk 0 0 (ByteArray.mk #[]) [] []) (GRef.mk 0 0) 0)) (id:=119) R te25 tz63 tr63 ts63 R R R (Sub.agg (sbR (sbR (sbR (sbR (sbR (sbR (sbR (sbL (sbL (sbR (sbR (sbR sbN))))))))))))) Gq0.ok hv3 R) (sAa R zS))))) (LH.seq (LH.seqT [(0,.lst 12 (List.map Gq0.lv p0)),(6,.arr 119 (List.length v3)),(20,.L r1.1),(21,.I (r1.1.length:Int)),(22,.I 0)] [(119,.arr 63 12 (List.map Gq0.lv v3))] R (sMl R (sN (oLnL (f:=LV.I) te22 R (sMi R zS)))) (LH.block (LH.loop (fun n e m=>∃ (n4:Int) (l5:List Gq0),q30q p0 r1 n n4 l5=some r∧e=Env.of [(0,.lst 12 (List.map Gq0.lv p0)),(6,.arr 119 (List.length l5)),(20,.L r1.1),(21,.I (r1.1.length:Int)),(22,.I n4)]∧m=Mem.of [(119,.arr 63 12 (List.map Gq0.lv l5))]) F ⟨0,v3,h,R,R⟩ ?_))))
  clear h
  rintro n e m ⟨n4,l5,h,rfl,rfl⟩
  rcases n with _ | n
  · cases (show Option.none=some _ from h)
  obtain ⟨rec1,hrec1⟩:∃ f,f=q30q p0 r1 n:=⟨_,rfl⟩
  replace h:q69q p0 r1 rec1 n4 l5=some r:=hrec1 ▸ h
  unfold q69q at h
  refine LH.seqT [(0,.lst 12 (List.map Gq0.lv p0)),(6,.arr 119 (List.length l5)),(20,.L r1.1),(21,.I (r1.1.length:Int)),(22,.I n4),(23,.bool (decide (n4<(r1.1.length:Int))))] [(119,.arr 63 12 (List.map Gq0.lv l5))] R (sN (oLt R R zS)) (LH.seq (LH.cond (t:=(decide (n4<(r1.1.length:Int)))) R (fun hc6=>?_) (fun hc6=>?_)))
  ·replace h:=iteT h hc6
   refine LH.skip (thenN (LH.wk (Wk.eq (el:=[(0,.lst 12 (List.map Gq0.lv p0)),(6,.arr 119 (List.length l5)),(20,.L r1.1),(21,.I (r1.1.length:Int)),(22,.I n4)]) (ml:=[(119,.arr 63 12 (List.map Gq0.lv l5))]) R R R R) (LH.seq (LH.block ?_))))
   obtain ⟨x7,hx7,h⟩:=bindS h
   refine LH.seqT [(0,.lst 12 (List.map Gq0.lv p0)),(6,.arr 119 (List.length l5)),(7,.I n4),(8,.I x7),(20,.L r1.1),(21,.I (r1.1.length:Int)),(22,.I n4)] [(119,.arr 63 12 (List.map Gq0.lv l5))] R (sMi R (sN (oIx (f:=LV.I) te22 tk3 ts3 R R okI hx7 R (sN (oLd R tk3 ta3 (sAi R (sAi R zS))))))) ?_
   obtain ⟨x8,hx8,h⟩:=bindS h
   obtain ⟨x9,hx9,h⟩:=bindS h
   refine LH.seqT [(0,.lst 12 (List.map Gq0.lv p0)),(6,.arr 119 (List.length (l5.set n4.toNat x8))),(7,.I n4),(8,.I x7),(20,.L r1.1),(21,.I (r1.1.length:Int)),(22,.I n4)] [(119,.arr 63 12 (List.map Gq0.lv (l5.set n4.toNat x8)))] R (sMa R (sMi R (sMl R (sMi R (sN (oIx (f:=Gq0.lv) te25 tk63 ts63 R R Gq0.ok hx8 R (sN (oLdA R tk63 ta63 ts63 R R (sN (oIxA (f:=Gq0.lv) te25 tk63 ts63 R R R hx9 (s_ (oStE (f:=Gq0.lv) (z':=x8) R R R R tk63 ts63 R (idxOk hx9).2 R (s0 (Wk.to (eC R (eC (congrArg (LV.arr 119) (by simp)) (eC R (eC R (eC R (eC R (eC R eN))))))) ⟨R,trivial⟩ R (prK R))))))))))))))) ?_
   obtain ⟨x10,hx10,h⟩:=bindS h
   obtain ⟨r11,hr11,h⟩:=bindS h
   obtain ⟨x12,hx12,h⟩:=bindS h
   refine LH.loneT [(0,.lst 12 (List.map Gq0.lv p0)),(6,.arr 119 (List.length ((l5.set n4.toNat x8).set n4.toNat (Gq0.mk x12.Stamp x12.Kind r11 x12.Ref x12.Form)))),(20,.L r1.1),(21,.I (r1.1.length:Int)),(22,.I n4)] [(119,.arr 63 12 (List.map Gq0.lv ((l5.set n4.toNat x8).set n4.toNat (Gq0.mk x12.Stamp x12.Kind r11 x12.Ref x12.Form))))] R (sMa R (sMi R (sMl R (sMi R (sN (oIx (f:=Gq0.lv) te25 tk63 ts63 R R Gq0.ok hx10 R (sN (oFaS tf63_2 tk54 ts54 R R R (sN (oLdA R tk54 ta54 ts54 R R (sN (oCP (args:=[GItem.lv x10.Item]) R isF41 R (sbR sbN) (q165q hr11) R (sN (oIxA (f:=Gq0.lv) te25 tk63 ts63 R R R hx12 (sN (oFaE (f:=Gq0.lv) tf63_2 tk54 ts54 R R R (s_ (oStE (f:=Gq0.lv) (z':=(Gq0.mk x12.Stamp x12.Kind r11 x12.Ref x12.Form)) R R R R tk54 ts54 R (idxOk hx12).2 R (s0 (Wk.to (eC R (eC (congrArg (LV.arr 119) (by simp)) (eC R (eC R (eC R eN))))) ⟨R,trivial⟩ R (prK R))))))))))))))))))))) (blockN (thenN (LH.loneT [(0,.lst 12 (List.map Gq0.lv p0)),(6,.arr 119 (List.length ((l5.set n4.toNat x8).set n4.toNat (Gq0.mk x12.Stamp x12.Kind r11 x12.Ref x12.Form)))),(20,.L r1.1),(21,.I (r1.1.length:Int)),(22,.I (i64 (n4+1)))] [(119,.arr 63 12 (List.map Gq0.lv ((l5.set n4.toNat x8).set n4.toNat (Gq0.mk x12.Stamp x12.Kind r11 x12.Ref x12.Form))))] R (sN (oAdd R R (sMi R zS))) ?_)))
   exact roundI ⟨(i64 (n4+1)),((l5.set n4.toNat x8).set n4.toNat (Gq0.mk x12.Stamp x12.Kind r11 x12.Ref x12.Form)),hrec1 ▸ h,R,R⟩ (Wk.eq R R R R)
  replace h:=iteF h hc6
  refine LH.exit (thenX (roundX (blockH (thenN (LH.wk ((Wk.trans (Wk.eq (el:=[(6,.arr 119 (List.length l5))]) (ml:=[(119,.arr 63 12 (List.map Gq0.lv l5))]) R R R R) (Wk.trans (Wk.frzL (f:=Gq0.lv) (el':=[(6,.lst 12 (List.map Gq0.lv l5))]) 119 63 12 l5 R R (prN R) (fZ fN)) (Wk.eq (el:=[(6,.lst 12 (List.map Gq0.lv l5))]) (ml:=[]) R R R R)))) (LH.seqT [(2,.lst 12 (List.map Gq0.lv l5)),(3,.I 0)] [] R (sMl R (sAl R (sAi R zS))) (LH.ret ?_)))))))
  obtain rfl:=oI h
  exact retE (aT Tryz.results32) (lrT R (lrT R (lr0 ⟨memN mN,R,prK R,(Sub.tup (sbR (sbR sbN)))⟩)))

theorem q195q {p0:Int} {r:Bool} (h:q112q p0=some r):LCall Tryz.prog 91 [.I p0] (Mem.of []) (.bool r) (Mem.of []):=by
  unfold q112q at h
  refine bodyT Tryz.func91 R (nT Tryz.ntmps91 R) (LH.wk (Wk.eq (el:=[(0,.I p0)]) (ml:=[]) R R R R) (LH.seqT [(0,.I p0)] [] R (sAb R zS) (LH.seqT [(2,.bool ((decide (p0 ≥ 0)) && (decide (p0≤9999))))] [] R ?_ ?_)))
  ·refine sMi R (sN (oGe R R (sMb R ?_)))
   by_cases hb2:(decide (p0 ≥ 0))=true
   ·exact sT R (cB hb2) (oM (v:=(.int _ _)) R (sT R (cB hb2) (oLe R R (sN (oPkT (cB hb2) (v:=(.bool _)) R (sAb R (s0 (Wk.to (eC (cB (andT hb2)) eN) mN R (prK R)))))))))
   ·replace hb2:=bF hb2
    exact sF R R hb2 (sF R R hb2 (sN (oPkF (cB hb2) (v:=(.bool _)) R (sAb R (s0 (Wk.to (eC (cB (andF hb2)) eN) mN R (prK R)))))))
  refine LH.ret ?_
  obtain rfl:=oI h
  exact retE (aT Tryz.results91) (lrT R (lr0 ⟨memN mN,R,prK R,Sub.rfl⟩))

theorem q218q {F:Nat} {p0:ByteArray} {r:Bool} (h:q135q F p0=some r):LCall Tryz.prog 92 [.str p0] (Mem.of []) (.bool r) (Mem.of []):=by
  unfold q135q at h
  refine bodyT Tryz.func92 R (nT Tryz.ntmps92 R) (LH.wk (Wk.eq (el:=[(0,.str p0)]) (ml:=[]) R R R R) (LH.seqT [(0,.str p0)] [] R (sAb R zS) (LH.seq (LH.seqT [(0,.str p0),(3,.I 0)] [] R (sAi R zS) (LH.block (LH.loop (fun n e m=>∃ (n1:Int),q31q p0 n n1=some r∧e=Env.of [(0,.str p0),(3,.I n1)]∧m=Mem.of []) F ⟨0,h,R,R⟩ ?_))))))
  clear h
  rintro n e m ⟨n1,h,rfl,rfl⟩
  rcases n with _ | n
  · cases (show Option.none=some _ from h)
  obtain ⟨rec1,hrec1⟩:∃ f,f=q31q p0 n:=⟨_,rfl⟩
  replace h:q70q p0 rec1 n1=some r:=hrec1 ▸ h
  unfold q70q at h
  refine LH.seq (LH.seqT [(0,.str p0),(3,.I n1),(7,.bool (decide (n1<(p0.size:Int))))] [] R (sMi R (sN (oM (v:=(.str _)) R (sX ((ok_sLen tS9 R).ok) (sN (oLt R R zS)))))) (LH.cond (t:=(decide (n1<(p0.size:Int)))) R (fun hc2=>?_) (fun hc2=>?_)))
  ·replace h:=iteT h hc2
   refine LH.skip (thenN (LH.wk (Wk.eq (el:=[(0,.str p0),(3,.I n1)]) (ml:=[]) R R R R) (LH.seq (LH.block ?_))))
   obtain ⟨w4,hv,h⟩:=bindS h
   refine LH.seqT [(0,.str p0),(3,.I n1),(19,.bool w4)] [] R ?_ ?_
   ·refine sN (oM (v:=(.str _)) R (sMi R ?_))
    obtain ⟨x5,hx5,hv⟩:=bindS hv
    refine sX ((ok_sIx tS9 R R hx5).ok) (sN (oLt R R (sMb R ?_)))
    by_cases hb6:(decide (x5<32))=true
    ·replace hv:=iteT hv hb6
     refine sF R R hb6 (sF R R hb6 (sF R R hb6 (sF R R hb6 (sN (oPkT (cB hb6) (v:=(.bool _)) R ?_)))))
     obtain rfl:=oI hv
     exact zS
    ·replace hb6:=bF hb6
     replace hv:=iteF hv hb6
     refine sT R (cB hb6) (oM (v:=(.str _)) R (sT R (cB hb6) (oM (v:=(.int _ _)) R ?_)))
     obtain ⟨x7,hx7,hv⟩:=bindS hv
     refine sXT R (cB hb6) ((ok_sIx tS9 R R hx7).ok) (sT R (cB hb6) (oGt R R (sN (oPkF (cB hb6) (v:=(.bool _)) R ?_))))
     obtain rfl:=oI hv
     exact zS
   clear hv
   refine LH.cond (t:=w4) R (fun hc8=>?_) (fun hc8=>?_)
   ·replace h:=iteT h hc8
    refine LH.seqT [(2,.bool false)] [] R (sAb R zS) (LH.ret (blockR (thenR (roundR (blockR (thenR ?_))))))
    obtain rfl:=oI h
    exact retE (aT Tryz.results92) (lrT R (lr0 ⟨memN mN,R,prK R,Sub.rfl⟩))
   replace h:=iteF h hc8
   refine LH.skip (blockN (thenN (LH.loneT [(0,.str p0),(3,.I (i64 (n1+1)))] [] R (sMi R (sN (oAdd R R (sAi R zS)))) ?_)))
   exact roundI ⟨(i64 (n1+1)),hrec1 ▸ h,R,R⟩ (Wk.eq R R R R)
  replace h:=iteF h hc2
  refine LH.exit (thenX (roundX (blockH (thenN (LH.seqT [(2,.bool true)] [] R (sAb R zS) (LH.ret ?_))))))
  obtain rfl:=oI h
  exact retE (aT Tryz.results92) (lrT R (lr0 ⟨memN mN,R,prK R,Sub.rfl⟩))

theorem q217q {p0:GPart} {r:Bool} (h:q134q p0=some r):LCall Tryz.prog 93 [GPart.lv p0] (Mem.of []) (.bool r) (Mem.of []):=by
  unfold q134q at h
  refine bodyT Tryz.func93 R (nT Tryz.ntmps93 R) (LH.wk (Wk.eq (el:=[(0,GPart.lv p0)]) (ml:=[]) R R R R) (LH.seqT [(1,.sptr (GPart.lv p0).cells)] [] R (sB (oBxR R R R R (sAb R zS))) (LH.seq (LH.seqT [(1,.sptr (GPart.lv p0).cells),(30,.bool ((decide (p0.Max<1)) || ((decide (p0.Max > 40)) || ((decide (p0.Topic<0)) || ((decide (p0.Topic ≥ 16)) || ((decide (p0.Objective<0)) || (decide (p0.Objective ≥ 6))))))))] [] R ?_ ?_))))
  ·refine sN (oFaS tf86_1 tk3 ts3 R R R (sN (oLd R tk3 ta3 (sN (oLt R R (sMb R ?_))))))
   by_cases hb2:(decide (p0.Max<1))=true
   ·exact sF R R hb2 (sF R R hb2 (sF R R hb2 (sN (oPkT (cB hb2) (v:=(.bool _)) R (sMb R (sF R R R (sF R R R (sF R R R (sN (oPkT R (v:=(.bool _)) R (sMb R (sF R R R (sF R R R (sF R R R (sN (oPkT R (v:=(.bool _)) R (sMb R (sF R R R (sF R R R (sF R R R (sN (oPkT R (v:=(.bool _)) R (sMb R (sF R R R (sF R R R (sF R R R (sN (oPkT R (v:=(.bool _)) R (s0 (Wk.to (eC R (eC (cB (orT hb2)) eN)) mN R (prK R)))))))))))))))))))))))))))))))
   ·replace hb2:=bF hb2
    refine sT R (cB hb2) (oFaS tf86_1 tk3 ts3 R R R (sT R (cB hb2) (oLd R tk3 ta3 (sT R (cB hb2) (oGt R R (sN (oPkF (cB hb2) (v:=(.bool _)) R (sMb R ?_))))))))
    by_cases hb3:(decide (p0.Max > 40))=true
    ·exact sF R R hb3 (sF R R hb3 (sF R R hb3 (sN (oPkT (cB hb3) (v:=(.bool _)) R (sMb R (sF R R R (sF R R R (sF R R R (sN (oPkT R (v:=(.bool _)) R (sMb R (sF R R R (sF R R R (sF R R R (sN (oPkT R (v:=(.bool _)) R (sMb R (sF R R R (sF R R R (sF R R R (sN (oPkT R (v:=(.bool _)) R (s0 (Wk.to (eC R (eC (cB (Eq.trans (orT hb3) (orF hb2))) eN)) mN R (prK R)))))))))))))))))))))))))
    ·replace hb3:=bF hb3
     refine sT R (cB hb3) (oFaS tf86_2 tk3 ts3 R R R (sT R (cB hb3) (oLd R tk3 ta3 (sT R (cB hb3) (oLt R R (sN (oPkF (cB hb3) (v:=(.bool _)) R (sMb R ?_))))))))
     by_cases hb4:(decide (p0.Topic<0))=true
     ·exact sF R R hb4 (sF R R hb4 (sF R R hb4 (sN (oPkT (cB hb4) (v:=(.bool _)) R (sMb R (sF R R R (sF R R R (sF R R R (sN (oPkT R (v:=(.bool _)) R (sMb R (sF R R R (sF R R R (sF R R R (sN (oPkT R (v:=(.bool _)) R (s0 (Wk.to (eC R (eC (cB (Eq.trans (Eq.trans (orT hb4) (orF hb3)) (orF hb2))) eN)) mN R (prK R)))))))))))))))))))
     ·replace hb4:=bF hb4
      refine sT R (cB hb4) (oFaS tf86_2 tk3 ts3 R R R (sT R (cB hb4) (oLd R tk3 ta3 (sT R (cB hb4) (oGe R R (sN (oPkF (cB hb4) (v:=(.bool _)) R (sMb R ?_))))))))
      by_cases hb5:(decide (p0.Topic ≥ 16))=true
      ·exact sF R R hb5 (sF R R hb5 (sF R R hb5 (sN (oPkT (cB hb5) (v:=(.bool _)) R (sMb R (sF R R R (sF R R R (sF R R R (sN (oPkT R (v:=(.bool _)) R (s0 (Wk.to (eC R (eC (cB (Eq.trans (Eq.trans (Eq.trans (orT hb5) (orF hb4)) (orF hb3)) (orF hb2))) eN)) mN R (prK R)))))))))))))
      ·replace hb5:=bF hb5
       refine sT R (cB hb5) (oFaS tf86_3 tk3 ts3 R R R (sT R (cB hb5) (oLd R tk3 ta3 (sT R (cB hb5) (oLt R R (sN (oPkF (cB hb5) (v:=(.bool _)) R (sMb R ?_))))))))
       by_cases hb6:(decide (p0.Objective<0))=true
       ·exact sF R R hb6 (sF R R hb6 (sF R R hb6 (sN (oPkT (cB hb6) (v:=(.bool _)) R (s0 (Wk.to (eC R (eC (cB (Eq.trans (Eq.trans (Eq.trans (Eq.trans (orT hb6) (orF hb5)) (orF hb4)) (orF hb3)) (orF hb2))) eN)) mN R (prK R)))))))
       ·replace hb6:=bF hb6
        exact sT R (cB hb6) (oFaS tf86_3 tk3 ts3 R R R (sT R (cB hb6) (oLd R tk3 ta3 (sT R (cB hb6) (oGe R R (sN (oPkF (cB hb6) (v:=(.bool _)) R (s0 (Wk.to (eC R (eC (cB (Eq.trans (Eq.trans (Eq.trans (Eq.trans (orF hb6) (orF hb5)) (orF hb4)) (orF hb3)) (orF hb2))) eN)) mN R (prK R))))))))))
  refine LH.cond (t:=((decide (p0.Max<1)) || ((decide (p0.Max > 40)) || ((decide (p0.Topic<0)) || ((decide (p0.Topic ≥ 16)) || ((decide (p0.Objective<0)) || (decide (p0.Objective ≥ 6)))))))) R (fun hc7=>?_) (fun hc7=>?_)
  ·replace h:=iteT h hc7
   refine LH.seqT [(2,.bool false)] [] R (sAb R zS) (LH.ret (thenR ?_))
   obtain rfl:=oI h
   exact retE (aT Tryz.results93) (lrT R (lr0 ⟨memN mN,R,prK R,Sub.rfl⟩))
  replace h:=iteF h hc7
  refine LH.skip (thenN (LH.wk (Wk.eq (el:=[(1,.sptr (GPart.lv p0).cells)]) (ml:=[]) R R R R) (LH.seq (LH.seqT [(1,.sptr (GPart.lv p0).cells),(32,.I p0.Kind)] [] R (sN (oFaS tf86_0 tk3 ts3 R R R (sN (oLd R tk3 ta3 zS)))) (LH.block (LH.seqT [(1,.sptr (GPart.lv p0).cells),(32,.I p0.Kind),(33,.bool (p0.Kind == 1))] [] R (sN (oEq R R (sAb R zS))) (LH.cond (t:=(p0.Kind == 1)) R (fun hc8=>?_) (fun hc8=>?_))))))))
  ·replace h:=iteT h hc8
   refine LH.seqT [(2,.bool ((p0.Options == 0) && (p0.Key == 0)))] [] R ?_ ?_
   ·refine sN (oFaS tf86_4 tk3 ts3 R R R (sN (oLd R tk3 ta3 (sN (oEq R R (sMb R ?_))))))
    by_cases hb10:(p0.Options == 0)=true
    ·exact sT R (cB hb10) (oFaS tf86_5 tk3 ts3 R R R (sT R (cB hb10) (oLd R tk3 ta3 (sT R (cB hb10) (oEq R R (sN (oPkT (cB hb10) (v:=(.bool _)) R (sAb R (s0 (Wk.to (eC (cB (andT hb10)) eN) mN R (prK R)))))))))))
    ·replace hb10:=bF hb10
     exact sF R R hb10 (sF R R hb10 (sF R R hb10 (sN (oPkF (cB hb10) (v:=(.bool _)) R (sAb R (s0 (Wk.to (eC (cB (andF hb10)) eN) mN R (prK R))))))))
   refine LH.ret (blockR (thenR ?_))
   obtain rfl:=oI h
   exact retE (aT Tryz.results93) (lrT R (lr0 ⟨memN mN,R,prK R,Sub.rfl⟩))
  replace h:=iteF h hc8
  refine LH.seqT [(1,.sptr (GPart.lv p0).cells),(43,.bool (p0.Kind == 2))] [] R (sN (oEq R R (sAb R zS))) (LH.cond (t:=(p0.Kind == 2)) R (fun hc11=>?_) (fun hc11=>?_))
  ·replace h:=iteT h hc11
   refine LH.seqT [(2,.bool ((decide (p0.Options ≥ 2)) && ((decide (p0.Options≤5)) && ((decide (p0.Key ≥ 0)) && (decide (p0.Key<p0.Options))))))] [] R ?_ ?_
   ·refine sN (oFaS tf86_4 tk3 ts3 R R R (sN (oLd R tk3 ta3 (sN (oGe R R (sMb R ?_))))))
    by_cases hb13:(decide (p0.Options ≥ 2))=true
    ·refine sT R (cB hb13) (oFaS tf86_4 tk3 ts3 R R R (sT R (cB hb13) (oLd R tk3 ta3 (sT R (cB hb13) (oLe R R (sN (oPkT (cB hb13) (v:=(.bool _)) R (sMb R ?_))))))))
     by_cases hb14:(decide (p0.Options≤5))=true
     ·refine sT R (cB hb14) (oFaS tf86_5 tk3 ts3 R R R (sT R (cB hb14) (oLd R tk3 ta3 (sT R (cB hb14) (oGe R R (sN (oPkT (cB hb14) (v:=(.bool _)) R (sMb R ?_))))))))
      by_cases hb15:(decide (p0.Key ≥ 0))=true
      ·exact sT R (cB hb15) (oFaS tf86_5 tk3 ts3 R R R (sT R (cB hb15) (oLd R tk3 ta3 (sT R (cB hb15) (oFaS tf86_4 tk3 ts3 R R R (sT R (cB hb15) (oLd R tk3 ta3 (sT R (cB hb15) (oLt R R (sN (oPkT (cB hb15) (v:=(.bool _)) R (sAb R (s0 (Wk.to (eC (cB (Eq.trans (Eq.trans (andT hb15) (andT hb14)) (andT hb13))) eN) mN R (prK R)))))))))))))))
      ·replace hb15:=bF hb15
       exact sF R R hb15 (sF R R hb15 (sF R R hb15 (sF R R hb15 (sF R R hb15 (sN (oPkF (cB hb15) (v:=(.bool _)) R (sAb R (s0 (Wk.to (eC (cB (Eq.trans (Eq.trans (andF hb15) (andT hb14)) (andT hb13))) eN) mN R (prK R))))))))))
     ·replace hb14:=bF hb14
      exact sF R R hb14 (sF R R hb14 (sF R R hb14 (sN (oPkF (cB hb14) (v:=(.bool _)) R (sMb R (sF R R R (sF R R R (sF R R R (sF R R R (sF R R R (sN (oPkF R (v:=(.bool _)) R (sAb R (s0 (Wk.to (eC (cB (Eq.trans (andF hb14) (andT hb13))) eN) mN R (prK R))))))))))))))))
    ·replace hb13:=bF hb13
     exact sF R R hb13 (sF R R hb13 (sF R R hb13 (sN (oPkF (cB hb13) (v:=(.bool _)) R (sMb R (sF R R R (sF R R R (sF R R R (sN (oPkF R (v:=(.bool _)) R (sMb R (sF R R R (sF R R R (sF R R R (sF R R R (sF R R R (sN (oPkF R (v:=(.bool _)) R (sAb R (s0 (Wk.to (eC (cB (andF hb13)) eN) mN R (prK R))))))))))))))))))))))
   refine LH.ret (blockR (thenR ?_))
   obtain rfl:=oI h
   exact retE (aT Tryz.results93) (lrT R (lr0 ⟨memN mN,R,prK R,Sub.rfl⟩))
  replace h:=iteF h hc11
  refine LH.skip (blockN (thenN (LH.seqT [(2,.bool false)] [] R (sAb R zS) (LH.ret ?_))))
  obtain rfl:=oI h
  exact retE (aT Tryz.results93) (lrT R (lr0 ⟨memN mN,R,prK R,Sub.rfl⟩))

theorem q199q {F:Nat} {p0:Int} {p1:List Int} {r:Bool} (h:q88q F p0 p1=some r):LCall Tryz.prog 94 [.I p0,.L p1] (Mem.of []) (.bool r) (Mem.of []):=by
  unfold q88q at h
  refine bodyT Tryz.func94 R (nT Tryz.ntmps94 R) (LH.wk (Wk.eq (el:=[(0,.I p0),(1,.L p1)]) (ml:=[]) R R R R) (LH.seqT [(0,.I p0),(1,.L p1)] [] R (sAb R zS) (LH.seq (LH.seqT [(0,.I p0),(1,.L p1),(7,.L p1),(8,.I (p1.length:Int)),(9,.I 0)] [] R (sMl R (sN (oLnL (f:=LV.I) te22 R (sMi R zS)))) (LH.block (LH.loop (fun n e m=>∃ (n1:Int),q29q p0 p1 n n1=some r∧e=Env.of [(0,.I p0),(1,.L p1),(7,.L p1),(8,.I (p1.length:Int)),(9,.I n1)]∧m=Mem.of []) F ⟨0,h,R,R⟩ ?_))))))
  clear h
  rintro n e m ⟨n1,h,rfl,rfl⟩
  rcases n with _ | n
  · cases (show Option.none=some _ from h)
  obtain ⟨rec1,hrec1⟩:∃ f,f=q29q p0 p1 n:=⟨_,rfl⟩
  replace h:q38q p0 p1 rec1 n1=some r:=hrec1 ▸ h
  unfold q38q at h
  refine LH.seqT [(0,.I p0),(1,.L p1),(7,.L p1),(8,.I (p1.length:Int)),(9,.I n1),(10,.bool (decide (n1<(p1.length:Int))))] [] R (sN (oLt R R zS)) (LH.seq (LH.cond (t:=(decide (n1<(p1.length:Int)))) R (fun hc2=>?_) (fun hc2=>?_)))
  ·replace h:=iteT h hc2
   refine LH.skip (thenN (LH.wk (Wk.eq (el:=[(0,.I p0),(1,.L p1),(7,.L p1),(8,.I (p1.length:Int)),(9,.I n1)]) (ml:=[]) R R R R) (LH.seq (LH.block ?_))))
   obtain ⟨x3,hx3,h⟩:=bindS h
   refine LH.seqT [(0,.I p0),(1,.L p1),(5,.I n1),(6,.I x3),(7,.L p1),(8,.I (p1.length:Int)),(9,.I n1)] [] R (sMi R (sN (oIx (f:=LV.I) te22 tk3 ts3 R R okI hx3 R (sN (oLd R tk3 ta3 (sAi R (sAi R zS))))))) ?_
   obtain ⟨w5,hv,h⟩:=bindS h
   refine LH.seqT [(0,.I p0),(1,.L p1),(7,.L p1),(8,.I (p1.length:Int)),(9,.I n1),(34,.bool w5)] [] R ?_ ?_
   ·refine sMi R ?_
    obtain ⟨r6,hr6,hv⟩:=bindS hv
    refine sN (oCP (args:=[.I x3]) R isF91 R (sbR sbN) (q195q hr6) R (sN (oNot R (sMb R ?_))))
    by_cases hb7:(!r6)=true
    ·replace hv:=iteT hv hb7
     refine sF R R hb7 (sF R R hb7 (sF R R hb7 (sN (oPkT (cB hb7) (v:=(.bool _)) R (sMb R (sF R R R (sF R R R (sF R R R (sU R R (sU R R (sU R R (sU R R (sU R R (sU R R (sU R R (sF R R R (sN (oPkT R (v:=(.bool _)) R ?_))))))))))))))))))
     obtain rfl:=oI hv
     exact zS
    ·replace hb7:=bF hb7
     replace hv:=iteF hv hb7
     refine sT R (cB hb7) (oM (v:=(.int _ _)) R (sT R (cB hb7) (oM (v:=(.int _ _)) R (sT R (cB hb7) (oEq R R (sN (oPkF (cB hb7) (v:=(.bool _)) R (sMb R ?_))))))))
     by_cases hb8:(x3 == p0)=true
     ·replace hv:=iteT hv hb8
      refine sF R R hb8 (sF R R hb8 (sF R R hb8 (sU R R (sU R R (sU R R (sU R R (sU R R (sU R R (sU R R (sF R R hb8 (sN (oPkT (cB hb8) (v:=(.bool _)) R ?_))))))))))))
      obtain rfl:=oI hv
      exact zS
     ·replace hb8:=bF hb8
      replace hv:=iteF hv hb8
      refine sT R (cB hb8) (oM (v:=(.int _ _)) R (sT R (cB hb8) (oGt R R (sT R (cB hb8) (oM (v:=(.bool _)) R ?_)))))
      by_cases hb9:(decide (n1 > 0))=true
      ·replace hv:=iteT hv hb9
       refine sT R (cB hb9) (oM (v:=(.lst _ _)) R (sT R (cB hb9) (oM (v:=(.int _ _)) R (sT R (cB hb9) (oSub R R ?_)))))
       obtain ⟨x10,hx10,hv⟩:=bindS hv
       refine sT R (cB hb9) (oIx (f:=LV.I) te22 tk3 ts3 R R okI hx10 R (sT R (cB hb9) (oLd R tk3 ta3 (sT R (cB hb9) (oM (v:=(.int _ _)) R (sT R (cB hb9) (oGe R R (sT R (cB hb8) (oPkT (cB hb9) (v:=(.bool _)) R (sN (oPkF (cB hb8) (v:=(.bool _)) R ?_)))))))))))
       obtain rfl:=oI hv
       exact zS
      ·replace hb9:=bF hb9
       replace hv:=iteF hv hb9
       refine sF R R hb9 (sF R R hb9 (sF R R hb9 (sF R R hb9 (sF R R hb9 (sF R R hb9 (sF R R hb9 (sT R (cB hb8) (oPkF (cB hb9) (v:=(.bool _)) R (sN (oPkF (cB hb8) (v:=(.bool _)) R ?_))))))))))
       obtain rfl:=oI hv
       exact zS
   clear hv
   refine LH.cond (t:=w5) R (fun hc11=>?_) (fun hc11=>?_)
   ·replace h:=iteT h hc11
    refine LH.seqT [(4,.bool false)] [] R (sAb R zS) (LH.ret (blockR (thenR (roundR (blockR (thenR ?_))))))
    obtain rfl:=oI h
    exact retE (aT Tryz.results94) (lrT R (lr0 ⟨memN mN,R,prK R,Sub.rfl⟩))
   replace h:=iteF h hc11
   refine LH.skip (blockN (thenN (LH.loneT [(0,.I p0),(1,.L p1),(7,.L p1),(8,.I (p1.length:Int)),(9,.I (i64 (n1+1)))] [] R (sN (oAdd R R (sMi R zS))) ?_)))
   exact roundI ⟨(i64 (n1+1)),hrec1 ▸ h,R,R⟩ (Wk.eq R R R R)
  replace h:=iteF h hc2
  refine LH.exit (thenX (roundX (blockH (thenN (LH.seqT [(4,.bool true)] [] R (sAb R zS) (LH.ret ?_))))))
  obtain rfl:=oI h
  exact retE (aT Tryz.results94) (lrT R (lr0 ⟨memN mN,R,prK R,Sub.rfl⟩))

theorem q186q {F:Nat} {p0:GItem} {r:Int} (h:q139q F p0=some r):LCall Tryz.prog 75 [GItem.lv p0] (Mem.of []) (.I r) (Mem.of []):=by
  unfold q139q at h
  refine bodyT Tryz.func75 R (nT Tryz.ntmps75 R) (LH.wk (Wk.eq (el:=[(0,GItem.lv p0)]) (ml:=[]) R R R R) (LH.seqT [(1,.sptr (GItem.lv p0).cells)] [] R (sB (oBxR R R R R (sAi R zS))) (LH.seq ?_)))
  obtain ⟨w2,hv,h⟩:=bindS h
  refine LH.seqT [(1,.sptr (GItem.lv p0).cells),(18,.bool w2)] [] R ?_ ?_
  ·refine sN (oFaS tf54_0 tk3 ts3 R R R (sN (oLd R tk3 ta3 ?_)))
   obtain ⟨r3,hr3,hv⟩:=bindS hv
   refine sN (oCP (args:=[.I p0.ID]) R isF91 R (sbR sbN) (q195q hr3) R (sN (oNot R (sMb R ?_))))
   by_cases hb4:(!r3)=true
   ·replace hv:=iteT hv hb4
    refine sF R R hb4 (sF R R hb4 (sF R R hb4 (sN (oPkT (cB hb4) (v:=(.bool _)) R (sMb R (sF R R R (sF R R R (sF R R R (sN (oPkT R (v:=(.bool _)) R ?_))))))))))
    obtain rfl:=oI hv
    exact zS
   ·replace hb4:=bF hb4
    replace hv:=iteF hv hb4
    refine sT R (cB hb4) (oFaS tf54_1 tk3 ts3 R R R (sT R (cB hb4) (oLd R tk3 ta3 (sT R (cB hb4) (oLt R R (sN (oPkF (cB hb4) (v:=(.bool _)) R (sMb R ?_))))))))
    by_cases hb5:(decide (p0.Version<1))=true
    ·replace hv:=iteT hv hb5
     refine sF R R hb5 (sF R R hb5 (sF R R hb5 (sN (oPkT (cB hb5) (v:=(.bool _)) R ?_))))
     obtain rfl:=oI hv
     exact zS
    ·replace hb5:=bF hb5
     replace hv:=iteF hv hb5
     refine sT R (cB hb5) (oFaS tf54_1 tk3 ts3 R R R (sT R (cB hb5) (oLd R tk3 ta3 (sT R (cB hb5) (oGt R R (sN (oPkF (cB hb5) (v:=(.bool _)) R ?_)))))))
     obtain rfl:=oI hv
     exact zS
  clear hv
  refine LH.cond (t:=w2) R (fun hc6=>?_) (fun hc6=>?_)
  ·replace h:=iteT h hc6
   refine LH.seqT [(2,.I 2)] [] R (sAi R zS) (LH.ret (thenR ?_))
   obtain rfl:=oI h
   exact retE (aT Tryz.results75) (lrT R (lr0 ⟨memN mN,R,prK R,Sub.rfl⟩))
  replace h:=iteF h hc6
  refine LH.skip (thenN (LH.wk (Wk.eq (el:=[(1,.sptr (GItem.lv p0).cells)]) (ml:=[]) R R R R) (LH.seq (LH.seqT [(1,.sptr (GItem.lv p0).cells),(34,.bool ((decide ((p0.Stem.size:Int) > 40)) || ((decide ((p0.Parts.length:Int) > 6)) || (decide ((p0.Enemies.length:Int) > 8)))))] [] R ?_ ?_))))
  ·refine sN (oFaS tf54_2 tk9 ts9 R R R (sN (oLd R tk9 ta9 (sX ((ok_sLen tS9 R).ok) (sN (oGt R R (sMb R ?_)))))))
   by_cases hb8:(decide ((p0.Stem.size:Int) > 40))=true
   ·exact sF R R hb8 (sF R R hb8 (sF R R hb8 (sF R R hb8 (sN (oPkT (cB hb8) (v:=(.bool _)) R (sMb R (sF R R R (sF R R R (sF R R R (sF R R R (sN (oPkT R (v:=(.bool _)) R (s0 (Wk.to (eC R (eC (cB (orT hb8)) eN)) mN R (prK R)))))))))))))))
   ·replace hb8:=bF hb8
    refine sT R (cB hb8) (oFaS tf54_3 tk52 ts52 R R R (sT R (cB hb8) (oLd R tk52 ta52 (sT R (cB hb8) (oLnL (f:=GPart.lv) te52 R (sT R (cB hb8) (oGt R R (sN (oPkF (cB hb8) (v:=(.bool _)) R (sMb R ?_))))))))))
    by_cases hb9:(decide ((p0.Parts.length:Int) > 6))=true
    ·exact sF R R hb9 (sF R R hb9 (sF R R hb9 (sF R R hb9 (sN (oPkT (cB hb9) (v:=(.bool _)) R (s0 (Wk.to (eC R (eC (cB (Eq.trans (orT hb9) (orF hb8))) eN)) mN R (prK R))))))))
    ·replace hb9:=bF hb9
     exact sT R (cB hb9) (oFaS tf54_4 tk22 ts22 R R R (sT R (cB hb9) (oLd R tk22 ta22 (sT R (cB hb9) (oLnL (f:=LV.I) te22 R (sT R (cB hb9) (oGt R R (sN (oPkF (cB hb9) (v:=(.bool _)) R (s0 (Wk.to (eC R (eC (cB (Eq.trans (orF hb9) (orF hb8))) eN)) mN R (prK R))))))))))))
  refine LH.cond (t:=((decide ((p0.Stem.size:Int) > 40)) || ((decide ((p0.Parts.length:Int) > 6)) || (decide ((p0.Enemies.length:Int) > 8))))) R (fun hc10=>?_) (fun hc10=>?_)
  ·replace h:=iteT h hc10
   refine LH.seqT [(2,.I 3)] [] R (sAi R zS) (LH.ret (thenR ?_))
   obtain rfl:=oI h
   exact retE (aT Tryz.results75) (lrT R (lr0 ⟨memN mN,R,prK R,Sub.rfl⟩))
  replace h:=iteF h hc10
  refine LH.skip (thenN (LH.wk (Wk.eq (el:=[(1,.sptr (GItem.lv p0).cells)]) (ml:=[]) R R R R) (LH.seq ?_)))
  obtain ⟨w12,hv,h⟩:=bindS h
  refine LH.seqT [(1,.sptr (GItem.lv p0).cells),(43,.bool w12)] [] R ?_ ?_
  ·refine sN (oFaS tf54_2 tk9 ts9 R R R (sN (oLd R tk9 ta9 (sX ((ok_sEq R R).ok) (sMb R ?_)))))
   by_cases hb13:(decide (p0.Stem=(ByteArray.mk #[])))=true
   ·replace hv:=iteT hv hb13
    refine sF R R hb13 (sF R R hb13 (sF R R hb13 (sF R R hb13 (sN (oPkT (cB hb13) (v:=(.bool _)) R ?_)))))
    obtain rfl:=oI hv
    exact zS
   ·replace hb13:=bF hb13
    replace hv:=iteF hv hb13
    refine sT R (cB hb13) (oFaS tf54_2 tk9 ts9 R R R (sT R (cB hb13) (oLd R tk9 ta9 ?_)))
    obtain ⟨r14,hr14,hv⟩:=bindS hv
    refine sT R (cB hb13) (oCP (args:=[.str p0.Stem]) R isF92 R (sbR sbN) (q218q hr14) R (sT R (cB hb13) (oNot R (sN (oPkF (cB hb13) (v:=(.bool _)) R ?_)))))
    obtain rfl:=oI hv
    exact zS
  clear hv
  refine LH.cond (t:=w12) R (fun hc15=>?_) (fun hc15=>?_)
  ·replace h:=iteT h hc15
   refine LH.seqT [(2,.I 7)] [] R (sAi R zS) (LH.ret (thenR ?_))
   obtain rfl:=oI h
   exact retE (aT Tryz.results75) (lrT R (lr0 ⟨memN mN,R,prK R,Sub.rfl⟩))
  replace h:=iteF h hc15
  refine LH.skip (thenN (LH.wk (Wk.eq (el:=[(1,.sptr (GItem.lv p0).cells)]) (ml:=[]) R R R R) (LH.seq (LH.seqT [(1,.sptr (GItem.lv p0).cells),(47,.bool ((p0.Parts.length:Int) == 0))] [] R (sN (oFaS tf54_3 tk52 ts52 R R R (sN (oLd R tk52 ta52 (sN (oLnL (f:=GPart.lv) te52 R (sN (oEq R R zS)))))))) (LH.cond (t:=((p0.Parts.length:Int) == 0)) R (fun hc16=>?_) (fun hc16=>?_))))))
  ·replace h:=iteT h hc16
   refine LH.seqT [(2,.I 10)] [] R (sAi R zS) (LH.ret (thenR ?_))
   obtain rfl:=oI h
   exact retE (aT Tryz.results75) (lrT R (lr0 ⟨memN mN,R,prK R,Sub.rfl⟩))
  replace h:=iteF h hc16
  refine LH.skip (thenN (LH.wk (Wk.eq (el:=[(1,.sptr (GItem.lv p0).cells)]) (ml:=[]) R R R R) (LH.seq (LH.seqT [(1,.sptr (GItem.lv p0).cells),(49,.lst 6 (List.map GPart.lv p0.Parts)),(50,.I (p0.Parts.length:Int)),(51,.I 0)] [] R (sN (oFaS tf54_3 tk52 ts52 R R R (sN (oLd R tk52 ta52 (sN (oLnL (f:=GPart.lv) te52 R (sMi R zS))))))) (LH.block (LH.loop (fun n e m=>∃ (n17:Int),q111q F p0 n n17=some r∧e=Env.of [(1,.sptr (GItem.lv p0).cells),(49,.lst 6 (List.map GPart.lv p0.Parts)),(50,.I (p0.Parts.length:Int)),(51,.I n17)]∧m=Mem.of []) F ⟨0,h,R,R⟩ ?_))))))
  clear h
  rintro n e m ⟨n17,h,rfl,rfl⟩
  rcases n with _ | n
  · cases (show Option.none=some _ from h)
  obtain ⟨rec1,hrec1⟩:∃ f,f=q111q F p0 n:=⟨_,rfl⟩
  replace h:q121q F p0 rec1 n17=some r:=hrec1 ▸ h
  unfold q121q at h
  refine LH.seqT [(1,.sptr (GItem.lv p0).cells),(49,.lst 6 (List.map GPart.lv p0.Parts)),(50,.I (p0.Parts.length:Int)),(51,.I n17),(52,.bool (decide (n17<(p0.Parts.length:Int))))] [] R (sN (oLt R R zS)) (LH.seq (LH.cond (t:=(decide (n17<(p0.Parts.length:Int)))) R (fun hc18=>?_) (fun hc18=>?_)))
  ·replace h:=iteT h hc18
   refine LH.skip (thenN (LH.wk (Wk.eq (el:=[(1,.sptr (GItem.lv p0).cells),(49,.lst 6 (List.map GPart.lv p0.Parts)),(50,.I (p0.Parts.length:Int)),(51,.I n17)]) (ml:=[]) R R R R) (LH.seq (LH.block ?_))))
   obtain ⟨x19,hx19,h⟩:=bindS h
   refine LH.seqT [(1,.sptr (GItem.lv p0).cells),(4,.sptr (GPart.lv x19).cells),(49,.lst 6 (List.map GPart.lv p0.Parts)),(50,.I (p0.Parts.length:Int)),(51,.I n17)] [] R (sN (oIx (f:=GPart.lv) te52 tk86 ts86 R R GPart.ok hx19 R (sN (oLdA R tk86 ta86 ts86 R R (sN (oAl (id:=104) R tz86 R R (s_ (oSt R R R tk86 ts86 R R R (s0 ((Wk.trans (Wk.eq (el:=[(1,.sptr (GItem.lv p0).cells),(4,.ptr 104 0),(49,.lst 6 (List.map GPart.lv p0.Parts)),(50,.I (p0.Parts.length:Int)),(51,.I n17)]) (ml:=[(104,.box (GPart.lv x19).cells)]) R R R R) (Wk.trans (Wk.frzB 104 (GPart.lv x19).cells R R R (prN R)) (Wk.eq R R R R))))))))))))) ?_
   obtain ⟨r20,hr20,h⟩:=bindS h
   refine LH.seqT [(1,.sptr (GItem.lv p0).cells),(49,.lst 6 (List.map GPart.lv p0.Parts)),(50,.I (p0.Parts.length:Int)),(51,.I n17),(57,.bool (!r20))] [] R (sN (oLdA R tk86 ta86 ts86 R R (sN (oCP (args:=[GPart.lv x19]) R isF93 R (sbR sbN) (q217q hr20) R (sN (oNot R zS)))))) (LH.cond (t:=(!r20)) R (fun hc21=>?_) (fun hc21=>?_))
   ·replace h:=iteT h hc21
    refine LH.seqT [(2,.I 1)] [] R (sAi R zS) (LH.ret (blockR (thenR (roundR (blockR (thenR ?_))))))
    obtain rfl:=oI h
    exact retE (aT Tryz.results75) (lrT R (lr0 ⟨memN mN,R,prK R,Sub.rfl⟩))
   replace h:=iteF h hc21
   refine LH.skip (blockN (thenN (LH.loneT [(1,.sptr (GItem.lv p0).cells),(49,.lst 6 (List.map GPart.lv p0.Parts)),(50,.I (p0.Parts.length:Int)),(51,.I (i64 (n17+1)))] [] R (sN (oAdd R R (sMi R zS))) ?_)))
   exact roundI ⟨(i64 (n17+1)),hrec1 ▸ h,R,R⟩ (Wk.eq R R R R)
  replace h:=iteF h hc18
  refine LH.exit (thenX (roundX (blockH (thenN (LH.wk (Wk.eq (el:=[(1,.sptr (GItem.lv p0).cells)]) (ml:=[]) R R R R) (LH.seq ?_))))))
  obtain ⟨r22,hr22,h⟩:=bindS h
  refine LH.seqT [(64,.bool (!r22))] [] R (sN (oFaS tf54_0 tk3 ts3 R R R (sN (oLd R tk3 ta3 (sN (oFaS tf54_4 tk22 ts22 R R R (sN (oLd R tk22 ta22 (sN (oCP (args:=[.I p0.ID,.L p0.Enemies]) R isF94 R (sbR (sbR sbN)) (q199q hr22) R (sN (oNot R zS)))))))))))) (LH.cond (t:=(!r22)) R (fun hc23=>?_) (fun hc23=>?_))
  ·replace h:=iteT h hc23
   refine LH.seqT [(2,.I 9)] [] R (sAi R zS) (LH.ret (thenR ?_))
   obtain rfl:=oI h
   exact retE (aT Tryz.results75) (lrT R (lr0 ⟨memN mN,R,prK R,Sub.rfl⟩))
  replace h:=iteF h hc23
  refine LH.skip (thenN (LH.seqT [(2,.I 0)] [] R (sAi R zS) (LH.ret ?_)))
  obtain rfl:=oI h
  exact retE (aT Tryz.results75) (lrT R (lr0 ⟨memN mN,R,prK R,Sub.rfl⟩))

theorem q129q {F:Nat} {p0:List Gq2} {p1:Int} {p2:(Gq2→Int→Option Int)} {r:Int × Bool} {p2_f:Nat} {p2_c:List LV} (p2_i:IsF Tryz.prog p2_f) (p2_q:LV.pureL p2_c=true) (p2_k:∀ (x0:Gq2) (x1:Int) (q:Int),p2 x0 x1=some q→LCall Tryz.prog p2_f ([.agg [.I x0.ID,.lst 5 (List.map GItem.lv x0.Versions),.lst 1 (List.map LV.bool x0.Approved),.lst 3 (List.map GUse.lv x0.Uses),.bool x0.Withdrawn],.I x1]++p2_c) (Mem.of []) (.I q) (Mem.of [])) (h:q4q F p0 p1 p2=some r):LCall Tryz.prog 95 [.lst 5 (List.map Gq2.lv p0),.I p1,.fn p2_f p2_c] (Mem.of []) (.tup [.I r.1,.bool r.2]) (Mem.of []):=by
  have p2_p:∀ {l:List LV},LV.pureL l=true→LV.pureL (l++p2_c)=true:=pnC p2_q
  have p2_r:LV.refsL p2_c=[]:=refsL_pure p2_q
  unfold q4q at h
  refine bodyT Tryz.func95 R (nT Tryz.ntmps95 R) (LH.wk (Wk.to (el:=[(0,.lst 5 (List.map Gq2.lv p0)),(1,.I p1),(2,.fn p2_f p2_c)]) (ml:=[]) (eQ ⟨R,R,R,trivial⟩) mN (by simp [keptRefs,LV.refs,LV.refsL,LV.cells,lev,Env.args,Env.of,Env.put,Env.drop,p2_r]) (prK R)) (LH.seqT [(0,.lst 5 (List.map Gq2.lv p0)),(1,.I p1),(2,.fn p2_f p2_c)] [] R (sAi R (sAb R (s0 (Wk.to (eQ ⟨R,R,R,trivial⟩) mN (by simp [keptRefs,LV.refs,LV.refsL,LV.cells,lev,Env.args,Env.of,Env.put,Env.drop,p2_r]) (prK R))))) (LH.seqT [(0,.lst 5 (List.map Gq2.lv p0)),(1,.I p1),(2,.fn p2_f p2_c),(8,.I (p0.length:Int))] [] R (sMl R (sN (oLnL (f:=Gq2.lv) te28 R (sAi R (s0 (Wk.to (eQ ⟨R,R,R,R,trivial⟩) mN (by simp [keptRefs,LV.refs,LV.refsL,LV.cells,lev,Env.args,Env.of,Env.put,Env.drop,p2_r]) (prK R))))))) (LH.seqT [(0,.lst 5 (List.map Gq2.lv p0)),(1,.I p1),(2,.fn p2_f p2_c),(8,.I (p0.length:Int)),(9,.I 0),(10,.I (p0.length:Int))] [] R (sMi R (sAi R (sAi R (s0 (Wk.to (eQ ⟨R,R,R,R,R,R,trivial⟩) mN (by simp [keptRefs,LV.refs,LV.refsL,LV.cells,lev,Env.args,Env.of,Env.put,Env.drop,p2_r]) (prK R)))))) (LH.seq (LH.block (LH.loop (fun n e m=>∃ (n1:Int) (n2:Int),q1q p0 p1 p2 n n1 n2=some r∧e=Env.of [(0,.lst 5 (List.map Gq2.lv p0)),(1,.I p1),(2,.fn p2_f p2_c),(8,.I (p0.length:Int)),(9,.I n1),(10,.I n2)]∧m=Mem.of []) F ⟨0,(p0.length:Int),h,R,R⟩ ?_)))))))
  clear h
  rintro n e m ⟨n1,n2,h,rfl,rfl⟩
  rcases n with _ | n
  · cases (show Option.none=some _ from h)
  obtain ⟨rec1,hrec1⟩:∃ f,f=q1q p0 p1 p2 n:=⟨_,rfl⟩
  replace h:q7q p0 p1 p2 rec1 n1 n2=some r:=hrec1 ▸ h
  unfold q7q at h
  refine LH.seq (LH.seqT [(0,.lst 5 (List.map Gq2.lv p0)),(1,.I p1),(2,.fn p2_f p2_c),(8,.I (p0.length:Int)),(9,.I n1),(10,.I n2),(17,.bool (decide (n1<n2)))] [] R (sMi R (sMi R (sN (oLt R R (s0 (Wk.to (eQ ⟨R,R,R,R,R,R,R,trivial⟩) mN (by simp [keptRefs,LV.refs,LV.refsL,LV.cells,lev,Env.args,Env.of,Env.put,Env.drop,p2_r]) (prK R))))))) (LH.cond (t:=(decide (n1<n2))) R (fun hc3=>?_) (fun hc3=>?_)))
  ·replace h:=iteT h hc3
   refine LH.skip (thenN (LH.wk (Wk.to (el:=[(0,.lst 5 (List.map Gq2.lv p0)),(1,.I p1),(2,.fn p2_f p2_c),(8,.I (p0.length:Int)),(9,.I n1),(10,.I n2)]) (ml:=[]) (eQ ⟨R,R,R,R,R,R,trivial⟩) mN (by simp [keptRefs,LV.refs,LV.refsL,LV.cells,lev,Env.args,Env.of,Env.put,Env.drop,p2_r]) (prK R)) (LH.block (LH.seqT [(0,.lst 5 (List.map Gq2.lv p0)),(1,.I p1),(2,.fn p2_f p2_c),(8,.I (p0.length:Int)),(9,.I n1),(10,.I n2),(11,.I (i64 (shrI .u64 (IntKind.u64.wrap (i64 (n1+n2))) 1)))] [] R (sMi R (sMi R (sN (oAdd R R (sN (oCv tk3 ti151 R (sX ((ok_shr R R (by decide)).ok) (sN (oCv tk151 ti3 R (sAi R (s0 (Wk.to (eQ ⟨R,R,R,R,R,R,R,trivial⟩) mN (by simp [keptRefs,LV.refs,LV.refsL,LV.cells,lev,Env.args,Env.of,Env.put,Env.drop,p2_r]) (prK R))))))))))))) ?_))))
   obtain ⟨x4,hx4,h⟩:=bindS h
   obtain ⟨r5,hr5,h⟩:=bindS h
   refine LH.seqT [(0,.lst 5 (List.map Gq2.lv p0)),(1,.I p1),(2,.fn p2_f p2_c),(8,.I (p0.length:Int)),(9,.I n1),(10,.I n2),(11,.I (i64 (shrI .u64 (IntKind.u64.wrap (i64 (n1+n2))) 1))),(31,.bool (decide (r5<0)))] [] R ?_ ?_
   ·refine sN (oM (v:=(.fn _ _)) R (sMl R (sMi R (sN (oIx (f:=Gq2.lv) te28 tk49 ts49 R R Gq2.ok hx4 R (sN (oLdA R tk49 ta49 ts49 R R (sMi R (sN (oCP (args:=[.agg [.I x4.ID,.lst 5 (List.map GItem.lv x4.Versions),.lst 1 (List.map LV.bool x4.Approved),.lst 3 (List.map GUse.lv x4.Uses),.bool x4.Withdrawn],.I p1]++p2_c) (args':=[.agg [.I x4.ID,.lst 5 (List.map GItem.lv x4.Versions),.lst 1 (List.map LV.bool x4.Approved),.lst 3 (List.map GUse.lv x4.Uses),.bool x4.Withdrawn],.I p1]++p2_c) R p2_i R SubL.rfl (p2_k _ _ _ hr5) (p2_p R) ?_))))))))))
    exact sN (oLt R R (s0 (Wk.to (eQ ⟨R,R,R,R,R,R,R,R,trivial⟩) mN (by simp [keptRefs,LV.refs,LV.refsL,LV.cells,lev,Env.args,Env.of,Env.put,Env.drop,p2_r]) (prK R))))
   refine LH.cond (t:=(decide (r5<0))) R (fun hc6=>?_) (fun hc6=>?_)
   ·replace h:=iteT h hc6
    refine LH.loneT [(0,.lst 5 (List.map Gq2.lv p0)),(1,.I p1),(2,.fn p2_f p2_c),(8,.I (p0.length:Int)),(9,.I (i64 ((i64 (shrI .u64 (IntKind.u64.wrap (i64 (n1+n2))) 1))+1))),(10,.I n2)] [] R (sMi R (sN (oAdd R R (sAi R (s0 (Wk.to (eQ ⟨R,R,R,R,R,R,trivial⟩) mN (by simp [keptRefs,LV.refs,LV.refsL,LV.cells,lev,Env.args,Env.of,Env.put,Env.drop,p2_r]) (prK R))))))) (blockN ?_)
    exact roundI ⟨(i64 ((i64 (shrI .u64 (IntKind.u64.wrap (i64 (n1+n2))) 1))+1)),n2,hrec1 ▸ h,R,R⟩ (Wk.to (eQ ⟨R,R,R,R,R,R,trivial⟩) mN (by simp [keptRefs,LV.refs,LV.refsL,LV.cells,lev,Env.args,Env.of,Env.put,Env.drop,p2_r]) (prK R))
   replace h:=iteF h hc6
   refine LH.loneT [(0,.lst 5 (List.map Gq2.lv p0)),(1,.I p1),(2,.fn p2_f p2_c),(8,.I (p0.length:Int)),(9,.I n1),(10,.I (i64 (shrI .u64 (IntKind.u64.wrap (i64 (n1+n2))) 1)))] [] R (sMi R (sAi R (s0 (Wk.to (eQ ⟨R,R,R,R,R,R,trivial⟩) mN (by simp [keptRefs,LV.refs,LV.refsL,LV.cells,lev,Env.args,Env.of,Env.put,Env.drop,p2_r]) (prK R))))) (blockN ?_)
   exact roundI ⟨n1,(i64 (shrI .u64 (IntKind.u64.wrap (i64 (n1+n2))) 1)),hrec1 ▸ h,R,R⟩ (Wk.to (eQ ⟨R,R,R,R,R,R,trivial⟩) mN (by simp [keptRefs,LV.refs,LV.refsL,LV.cells,lev,Env.args,Env.of,Env.put,Env.drop,p2_r]) (prK R))
  replace h:=iteF h hc3
  refine LH.exit (thenX (roundX (blockH (thenN ?_))))
  obtain ⟨w8,hv,h⟩:=bindS h
  refine LH.seqT [(6,.I n1),(7,.bool w8)] [] R ?_ ?_
  ·refine sMi R (sMi R (sMi R (sN (oLt R R (sMb R ?_)))))
   by_cases hb9:(decide (n1<(p0.length:Int)))=true
   ·replace hv:=iteT hv hb9
    refine sT R (cB hb9) (oM (v:=(.fn _ _)) R (sT R (cB hb9) (oM (v:=(.lst _ _)) R (sT R (cB hb9) (oM (v:=(.int _ _)) R ?_)))))
    obtain ⟨x10,hx10,hv⟩:=bindS hv
    refine sT R (cB hb9) (oIx (f:=Gq2.lv) te28 tk49 ts49 R R Gq2.ok hx10 R (sT R (cB hb9) (oLdA R tk49 ta49 ts49 R R (sT R (cB hb9) (oM (v:=(.int _ _)) R ?_)))))
    obtain ⟨r11,hr11,hv⟩:=bindS hv
    refine sT R (cB hb9) (oCP (args:=[.agg [.I x10.ID,.lst 5 (List.map GItem.lv x10.Versions),.lst 1 (List.map LV.bool x10.Approved),.lst 3 (List.map GUse.lv x10.Uses),.bool x10.Withdrawn],.I p1]++p2_c) (args':=[.agg [.I x10.ID,.lst 5 (List.map GItem.lv x10.Versions),.lst 1 (List.map LV.bool x10.Approved),.lst 3 (List.map GUse.lv x10.Uses),.bool x10.Withdrawn],.I p1]++p2_c) R p2_i R SubL.rfl (p2_k _ _ _ hr11) (p2_p R) ?_)
    refine sT R (cB hb9) (oEq R R (sN (oPkT (cB hb9) (v:=(.bool _)) R (sAi R (sAb R ?_)))))
    obtain rfl:=oI hv
    exact s0 (Wk.to (eQ ⟨R,R,trivial⟩) mN (by simp [keptRefs,LV.refs,LV.refsL,LV.cells,lev,Env.args,Env.of,Env.put,Env.drop,p2_r]) (prK R))
   ·replace hb9:=bF hb9
    replace hv:=iteF hv hb9
    refine sF R R hb9 (sF R R hb9 (sF R R hb9 (sF R R hb9 (sF R R hb9 (sF R R hb9 (sF R R hb9 (sF R R hb9 (sN (oPkF (cB hb9) (v:=(.bool _)) R (sAi R (sAb R ?_)))))))))))
    obtain rfl:=oI hv
    exact s0 (Wk.to (eQ ⟨R,R,trivial⟩) mN (by simp [keptRefs,LV.refs,LV.refsL,LV.cells,lev,Env.args,Env.of,Env.put,Env.drop,p2_r]) (prK R))
  clear hv
  refine LH.ret ?_
  obtain rfl:=oI h
  exact retE (aT Tryz.results95) (lrT R (lrT R (lr0 ⟨memN mN,R,prK R,(Sub.tup (sbR (sbR sbN)))⟩)))

theorem q228q {p0:Gq2} {p1:Int} {r:Int} (h:q96q p0 p1=some r):LCall Tryz.prog 96 [.agg [.I p0.ID,.lst 5 (List.map GItem.lv p0.Versions),.lst 1 (List.map LV.bool p0.Approved),.lst 3 (List.map GUse.lv p0.Uses),.bool p0.Withdrawn],.I p1] (Mem.of []) (.I r) (Mem.of []):=by
  unfold q96q at h
  refine bodyT Tryz.func96 R (nT Tryz.ntmps96 R) (LH.wk (Wk.eq (el:=[(0,.agg [.I p0.ID,.lst 5 (List.map GItem.lv p0.Versions),.lst 1 (List.map LV.bool p0.Approved),.lst 3 (List.map GUse.lv p0.Uses),.bool p0.Withdrawn]),(1,.I p1)]) (ml:=[]) R R R R) (LH.seqT [(1,.I p1),(2,.sptr [.I p0.ID,.lst 5 (List.map GItem.lv p0.Versions),.lst 1 (List.map LV.bool p0.Approved),.lst 3 (List.map GUse.lv p0.Uses),.bool p0.Withdrawn])] [] R (sB (oBxR R R R R (sAi R zS))) ?_))
  obtain ⟨r1,hr1,h⟩:=bindS h
  refine LH.seqT [(4,.I r1)] [] R (sN (oFaS tf49_0 tk3 ts3 R R R (sN (oLd R tk3 ta3 (sMi R (sN (oCP (args:=[.I p0.ID,.I p1]) R isF97 R (sbR (sbR sbN)) (cmp_Compare_int_ok hr1) R (sAi R zS)))))))) (LH.ret ?_)
  obtain rfl:=oI h
  exact retE (aT Tryz.results96) (lrT R (lr0 ⟨memN mN,R,prK R,Sub.rfl⟩))

theorem q203q {F:Nat} {p0:GBank} {p1:Int} {r:Int × Bool} (h:q157q F p0 p1=some r):LCall Tryz.prog 76 [.ptr 811 0,.I p1] (Mem.of [(811,.box [.arr 812 (List.length p0.Records)]),(812,.nest 49 5 [(1,54,5),(2,4,1),(3,88,3)] (List.map Gq2.lv p0.Records))]) (.tup [.I r.1,.bool r.2]) (Mem.of [(811,.box [.arr 812 (List.length p0.Records)]),(812,.nest 49 5 [(1,54,5),(2,4,1),(3,88,3)] (List.map Gq2.lv p0.Records))]):=by
  unfold q157q at h
  refine bodyT Tryz.func76 R (nT Tryz.ntmps76 R) (LH.wk (Wk.eq (el:=[(0,.ptr 811 0),(1,.I p1)]) (ml:=[(811,.box [.arr 812 (List.length p0.Records)]),(812,.nest 49 5 [(1,54,5),(2,4,1),(3,88,3)] (List.map Gq2.lv p0.Records))]) R R R R) (LH.seqT [(0,.ptr 811 0),(1,.I p1)] [(811,.box [.arr 812 (List.length p0.Records)]),(812,.nest 49 5 [(1,54,5),(2,4,1),(3,88,3)] (List.map Gq2.lv p0.Records))] R (sAi R (sAb R zS)) ?_))
  obtain ⟨r1,hr1,h⟩:=bindS h
  refine LH.seqT [(4,.I r1.1),(5,.bool r1.2)] [(811,.box [.arr 812 (List.length p0.Records)]),(812,.nest 49 5 [(1,54,5),(2,4,1),(3,88,3)] (List.map Gq2.lv p0.Records))] R (sMp R (sN (oNC R (sN (oFa tf30_0 tk28 ts28 R R (sN (oLdP R R R R tk28 ta28 (sMi R (sN (oCM (args:=[.arr 812 (List.length p0.Records),.I p1,.fn 96 []]) (ml:=[(812,.nest 49 5 [(1,54,5),(2,4,1),(3,88,3)] (List.map Gq2.lv p0.Records))]) (ml':=[(812,.nest 49 5 [(1,54,5),(2,4,1),(3,88,3)] (List.map Gq2.lv p0.Records))]) R isF95 R (sbR (sbR (sbR sbN))) (LCall.lendN 812 49 5 [(1,54,5),(2,4,1),(3,88,3)] (xs:=List.map Gq2.lv p0.Records) (Gq2.ok.pureL _) (q129q (p2_f:=96) (p2_c:=[]) isF96 R (fun _ _ _ h=>q228q h) hr1) (.row (by simp) (.keep R (.keep R .nil))) R R R R R plN) ⟨R,trivial⟩ (newI R newN) R (sN (oEx R R (sN (oEx R R (sAi R (sAb R zS)))))))))))))))) (LH.ret ?_)
  obtain rfl:=oI h
  exact retE (aT Tryz.results76) (lrT R (lrT R (lr0 ⟨memN (mC R (mC R mN)),R,prK R,(Sub.tup (sbR (sbR sbN)))⟩)))

theorem q241q {F:Nat} {p0:GBank} {p1:Gq0} {r:Int × GBank} (h:q175q F p0 p1=some r):LCall Tryz.prog 57 [.ptr 811 0,Gq0.lv p1] (Mem.of [(811,.box [.arr 812 (List.length p0.Records)]),(812,.nest 49 5 [(1,54,5),(2,4,1),(3,88,3)] (List.map Gq2.lv p0.Records))]) (.I r.1) (Mem.of [(811,.box [.arr 812 (List.length r.2.Records)]),(812,.nest 49 5 [(1,54,5),(2,4,1),(3,88,3)] (List.map Gq2.lv r.2.Records))]):=by
  unfold q175q at h
  refine bodyT Tryz.func57 R (nT Tryz.ntmps57 R) (LH.wk (Wk.eq (el:=[(0,.ptr 811 0),(1,Gq0.lv p1)]) (ml:=[(811,.box [.arr 812 (List.length p0.Records)]),(812,.nest 49 5 [(1,54,5),(2,4,1),(3,88,3)] (List.map Gq2.lv p0.Records))]) R R R R) (LH.seqT [(0,.ptr 811 0),(3,.sptr (Gq0.lv p1).cells)] [(811,.box [.arr 812 (List.length p0.Records)]),(812,.nest 49 5 [(1,54,5),(2,4,1),(3,88,3)] (List.map Gq2.lv p0.Records))] R (sB (oBxR R R R R (sAi R zS))) (LH.seq ?_)))
  obtain ⟨r1,hr1,h⟩:=bindS h
  refine LH.seqT [(0,.ptr 811 0),(3,.sptr (Gq0.lv p1).cells),(5,.I r1)] [(811,.box [.arr 812 (List.length p0.Records)]),(812,.nest 49 5 [(1,54,5),(2,4,1),(3,88,3)] (List.map Gq2.lv p0.Records))] R (sN (oFaS tf63_2 tk54 ts54 R R R (sN (oLdA R tk54 ta54 ts54 R R (sN (oCP (args:=[GItem.lv p1.Item]) R isF75 R (sbR sbN) (q186q hr1) R (sAi R zS))))))) (LH.seqT [(0,.ptr 811 0),(3,.sptr (Gq0.lv p1).cells),(5,.I r1),(12,.bool (r1 != 0))] [(811,.box [.arr 812 (List.length p0.Records)]),(812,.nest 49 5 [(1,54,5),(2,4,1),(3,88,3)] (List.map Gq2.lv p0.Records))] R (sMi R (sN (oNe R R zS))) (LH.cond (t:=(r1 != 0)) R (fun hc2=>?_) (fun hc2=>?_)))
  ·replace h:=iteT h hc2
   refine LH.seqT [(4,.I r1)] [(811,.box [.arr 812 (List.length p0.Records)]),(812,.nest 49 5 [(1,54,5),(2,4,1),(3,88,3)] (List.map Gq2.lv p0.Records))] R (sMi R (sAi R zS)) (LH.ret (thenR ?_))
   obtain rfl:=oI h
   exact retE (aT Tryz.results57) (lrT R (lr0 ⟨memN (mC R (mC R mN)),R,prK R,Sub.rfl⟩))
  replace h:=iteF h hc2
  refine LH.skip (thenN (LH.wk (Wk.eq (el:=[(0,.ptr 811 0),(3,.sptr (Gq0.lv p1).cells)]) (ml:=[(811,.box [.arr 812 (List.length p0.Records)]),(812,.nest 49 5 [(1,54,5),(2,4,1),(3,88,3)] (List.map Gq2.lv p0.Records))]) R R R R) (LH.seq (LH.seqT [(0,.ptr 811 0),(3,.sptr (Gq0.lv p1).cells),(17,.bool (p1.Item.Version != 1))] [(811,.box [.arr 812 (List.length p0.Records)]),(812,.nest 49 5 [(1,54,5),(2,4,1),(3,88,3)] (List.map Gq2.lv p0.Records))] R (sN (oFaS tf63_2 tk54 ts54 R R R (sN (oFaS tf54_1 tk3 ts3 R R R (sN (oLd R tk3 ta3 (sN (oNe R R zS)))))))) (LH.cond (t:=(p1.Item.Version != 1)) R (fun hc3=>?_) (fun hc3=>?_))))))
  ·replace h:=iteT h hc3
   refine LH.seqT [(4,.I 8)] [(811,.box [.arr 812 (List.length p0.Records)]),(812,.nest 49 5 [(1,54,5),(2,4,1),(3,88,3)] (List.map Gq2.lv p0.Records))] R (sAi R zS) (LH.ret (thenR ?_))
   obtain rfl:=oI h
   exact retE (aT Tryz.results57) (lrT R (lr0 ⟨memN (mC R (mC R mN)),R,prK R,Sub.rfl⟩))
  replace h:=iteF h hc3
  refine LH.skip (thenN ?_)
  obtain ⟨r4,hr4,h⟩:=bindS h
  refine LH.seqT [(0,.ptr 811 0),(3,.sptr (Gq0.lv p1).cells),(6,.I r4.1),(7,.bool r4.2)] [(811,.box [.arr 812 (List.length p0.Records)]),(812,.nest 49 5 [(1,54,5),(2,4,1),(3,88,3)] (List.map Gq2.lv p0.Records))] R (sMp R (sN (oFaS tf63_2 tk54 ts54 R R R (sN (oFaS tf54_0 tk3 ts3 R R R (sN (oLd R tk3 ta3 (sN (oCM (args:=[.ptr 811 0,.I p1.Item.ID]) (ml:=[(811,.box [.arr 812 (List.length p0.Records)]),(812,.nest 49 5 [(1,54,5),(2,4,1),(3,88,3)] (List.map Gq2.lv p0.Records))]) (ml':=[(811,.box [.arr 812 (List.length p0.Records)]),(812,.nest 49 5 [(1,54,5),(2,4,1),(3,88,3)] (List.map Gq2.lv p0.Records))]) R isF76 R (sbR (sbR sbN)) (q203q hr4) ⟨R,R,trivial⟩ (newI R (newI R newN)) R (sMt R (sN (oEx R R (sN (oEx R R (sAi R (sAb R zS)))))))))))))))) (LH.seq (LH.seqT [(0,.ptr 811 0),(3,.sptr (Gq0.lv p1).cells),(6,.I r4.1),(26,.bool r4.2)] [(811,.box [.arr 812 (List.length p0.Records)]),(812,.nest 49 5 [(1,54,5),(2,4,1),(3,88,3)] (List.map Gq2.lv p0.Records))] R (sMb R zS) (LH.cond (t:=r4.2) R (fun hc5=>?_) (fun hc5=>?_))))
  ·replace h:=iteT h hc5
   refine LH.seqT [(4,.I 5)] [(811,.box [.arr 812 (List.length p0.Records)]),(812,.nest 49 5 [(1,54,5),(2,4,1),(3,88,3)] (List.map Gq2.lv p0.Records))] R (sAi R zS) (LH.ret (thenR ?_))
   obtain rfl:=oI h
   exact retE (aT Tryz.results57) (lrT R (lr0 ⟨memN (mC R (mC R mN)),R,prK R,Sub.rfl⟩))
  replace h:=iteF h hc5
  refine LH.skip (thenN (LH.wk (Wk.eq (el:=[(0,.ptr 811 0),(3,.sptr (Gq0.lv p1).cells),(6,.I r4.1)]) (ml:=[(811,.box [.arr 812 (List.length p0.Records)]),(812,.nest 49 5 [(1,54,5),(2,4,1),(3,88,3)] (List.map Gq2.lv p0.Records))]) R R R R) (LH.seq (LH.seqT [(0,.ptr 811 0),(3,.sptr (Gq0.lv p1).cells),(6,.I r4.1),(32,.bool (decide ((p0.Records.length:Int) ≥ 40)))] [(811,.box [.arr 812 (List.length p0.Records)]),(812,.nest 49 5 [(1,54,5),(2,4,1),(3,88,3)] (List.map Gq2.lv p0.Records))] R (sMp R (sN (oNC R (sN (oFa tf30_0 tk28 ts28 R R (sN (oLdP R R R R tk28 ta28 (sX ((ok_lenNe (f:=Gq2.lv) (xs:=p0.Records) te28 R R R).ok) (sN (oGe R R zS)))))))))) (LH.cond (t:=(decide ((p0.Records.length:Int) ≥ 40))) R (fun hc6=>?_) (fun hc6=>?_))))))
  ·replace h:=iteT h hc6
   refine LH.seqT [(4,.I 3)] [(811,.box [.arr 812 (List.length p0.Records)]),(812,.nest 49 5 [(1,54,5),(2,4,1),(3,88,3)] (List.map Gq2.lv p0.Records))] R (sAi R zS) (LH.ret (thenR ?_))
   obtain rfl:=oI h
   exact retE (aT Tryz.results57) (lrT R (lr0 ⟨memN (mC R (mC R mN)),R,prK R,Sub.rfl⟩))
  replace h:=iteF h hc6
  refine LH.skip (thenN ?_)
  obtain ⟨r7,hr7,h⟩:=bindS h
  obtain ⟨v8,hv8,h⟩:=bindS h
  refine LH.seqJM mixed [] [0,0,0,0,1811,0,0,0,0,0,0,0,1000000145,1000000146,0,1146145148,3,0,0,100811] [] [(811,.box [.arr 812 (List.length v8)]),(812,.nest 49 5 [(1,54,5),(2,4,1),(3,88,3)] (List.map Gq2.lv v8))] R R (by kernel_rfl) ?_ ?_
  ·exact mMp R (mMp R (mN0 (oNC R ⟨R,mN0 (oFa tf30_0 tk28 ts28 R R ⟨R,mD R R R (fun _ b _ d=>oLdP R b R R tk28 ta28 d) (mMi R (mN0 (oFaS tf63_2 tk54 ts54 R R R ⟨R,mN0 (oFaS tf54_0 tk3 ts3 R R R ⟨R,mN0 (oLd R tk3 ta3 ⟨R,mN0 (oFaS tf63_2 tk54 ts54 R R R ⟨R,mN0 (oLdA R tk54 ta54 ts54 R R ⟨R,mN0 (oCP (args:=[GItem.lv p1.Item]) R isF41 R (sbR sbN) (q165q hr7) R ⟨R,mFt R (Foot.fresh R R (fun m0 h0=>OpOk.toR [44] (by simp [Op.operands]) (ok_bsA (g:=GItem.lv) (ys:=[r7]) (id:=145) te45 tr54 ts54 R R R GItem.ok h0))) (mFt R (Foot.fresh R R (fun m0 h0=>OpOk.toR [] (by simp [Op.operands]) (ok_bsA (g:=LV.bool) (ys:=[false]) (id:=146) te46 tr4 ts4 R R R okB h0))) (mN0 (oBd (vs:=[(0,.I p1.Item.ID),(1,.arr 145 (List.length [r7])),(2,.arr 146 (List.length [false]))]) tu49 tz49 R (lf tf49_0 ts3 tk3 R R R (lf tf49_1 ts45 tk45 R R R (lf tf49_2 ts46 tk46 R R R lf0))) ⟨R,mFt R (Foot.gone (S:=[145,146]) R (fun m0 h0=>ok_bsN (id:=148) (os:=[(1,54,5),(2,4,1),(3,88,3)]) (S:=[145,146]) (cs:=[.I p1.Item.ID,.arr 145 (List.length [r7]),.arr 146 (List.length [false]),.nil,.bool false]) (cs':=[.I p1.Item.ID,.lst 5 (List.map GItem.lv [r7]),.lst 1 (List.map LV.bool [false]),.lst 3 (List.map GUse.lv ([]:List GUse)),.bool false]) te28 tr49 ts49 R R R R ((h0 148 (by simp)).trans R) (abP R R (abA (g:=GItem.lv) (ys:=[r7]) R ((h0 145 (by simp)).trans R) (abA (g:=LV.bool) (ys:=[false]) R ((h0 146 (by simp)).trans R) (abZ R R (abP R R abN))))) (by decide) (fnC (prN R) (fnC (prN R) fnN)))) (mX (ok_insN (f:=Gq2.lv) (xs:=p0.Records) (z0:=(Gq2.mk p1.Item.ID [r7] [false] ([]:List GUse) false)) isF77 insW77 R R R R R (by decide) (prN R) hv8) (mN0 (oNC R ⟨R,mN0 (oFa tf30_0 tk28 ts28 R R ⟨R,mS R R R (fun _ b _ d=>oSt R R R tk28 ts28 b R R d) zM⟩)⟩)))⟩)))⟩)⟩)⟩)⟩)⟩)⟩)))⟩)⟩)))
  refine LH.seqT [(4,.I 0)] [(811,.box [.arr 812 (List.length v8)]),(812,.nest 49 5 [(1,54,5),(2,4,1),(3,88,3)] (List.map Gq2.lv v8))] R (sAi R zS) (LH.ret ?_)
  obtain rfl:=oI h
  exact retE (aT Tryz.results57) (lrT R (lr0 ⟨memN (mC R (mC R mN)),R,prK R,Sub.rfl⟩))

theorem q182q {F:Nat} {p0:GBank} {p1:Int} {r:Option Int} (h:q127q F p0 p1=some r):LCall Tryz.prog 78 [.ptr 811 0,.I p1] (Mem.of [(811,.box [.arr 812 (List.length p0.Records)]),(812,.nest 49 5 [(1,54,5),(2,4,1),(3,88,3)] (List.map Gq2.lv p0.Records))]) (optP 812 (List.length p0.Records) r) (Mem.of [(811,.box [.arr 812 (List.length p0.Records)]),(812,.nest 49 5 [(1,54,5),(2,4,1),(3,88,3)] (List.map Gq2.lv p0.Records))]):=by
  unfold q127q at h
  refine bodyT Tryz.func78 R (nT Tryz.ntmps78 R) (LH.wk (Wk.eq (el:=[(0,.ptr 811 0),(1,.I p1)]) (ml:=[(811,.box [.arr 812 (List.length p0.Records)]),(812,.nest 49 5 [(1,54,5),(2,4,1),(3,88,3)] (List.map Gq2.lv p0.Records))]) R R R R) (LH.seqT [(0,.ptr 811 0),(1,.I p1)] [(811,.box [.arr 812 (List.length p0.Records)]),(812,.nest 49 5 [(1,54,5),(2,4,1),(3,88,3)] (List.map Gq2.lv p0.Records))] R (sN (oA (v:=.nilp) R zS)) ?_))
  obtain ⟨r1,hr1,h⟩:=bindS h
  refine LH.seqT [(0,.ptr 811 0),(5,.I r1.1),(6,.bool r1.2)] [(811,.box [.arr 812 (List.length p0.Records)]),(812,.nest 49 5 [(1,54,5),(2,4,1),(3,88,3)] (List.map Gq2.lv p0.Records))] R (sMp R (sMi R (sN (oCM (args:=[.ptr 811 0,.I p1]) (ml:=[(811,.box [.arr 812 (List.length p0.Records)]),(812,.nest 49 5 [(1,54,5),(2,4,1),(3,88,3)] (List.map Gq2.lv p0.Records))]) (ml':=[(811,.box [.arr 812 (List.length p0.Records)]),(812,.nest 49 5 [(1,54,5),(2,4,1),(3,88,3)] (List.map Gq2.lv p0.Records))]) R isF76 R (sbR (sbR sbN)) (q203q hr1) ⟨R,R,trivial⟩ (newI R (newI R newN)) R (sMt R (sN (oEx R R (sN (oEx R R (sAi R (sAb R zS))))))))))) (LH.seq (LH.seqT [(0,.ptr 811 0),(5,.I r1.1),(14,.bool (!r1.2))] [(811,.box [.arr 812 (List.length p0.Records)]),(812,.nest 49 5 [(1,54,5),(2,4,1),(3,88,3)] (List.map Gq2.lv p0.Records))] R (sMb R (sN (oNot R zS))) (LH.cond (t:=(!r1.2)) R (fun hc2=>?_) (fun hc2=>?_))))
  ·replace h:=iteT h hc2
   refine LH.seqT [(4,.nilp)] [(811,.box [.arr 812 (List.length p0.Records)]),(812,.nest 49 5 [(1,54,5),(2,4,1),(3,88,3)] (List.map Gq2.lv p0.Records))] R (sN (oA (v:=.nilp) R zS)) (LH.ret (thenR ?_))
   obtain rfl:=oI h
   exact retE (aT Tryz.results78) (lrT R (lr0 ⟨memN (mC R (mC R mN)),R,prK R,Sub.rfl⟩))
  replace h:=iteF h hc2
  refine LH.skip (thenN ?_)
  obtain ⟨x3,hx3,h⟩:=bindS h
  refine LH.seqT [(4,.eptr 812 (List.length p0.Records) (r1.1).toNat 0)] [(811,.box [.arr 812 (List.length p0.Records)]),(812,.nest 49 5 [(1,54,5),(2,4,1),(3,88,3)] (List.map Gq2.lv p0.Records))] R (sMp R (sN (oNC R (sN (oFa tf30_0 tk28 ts28 R R (sN (oLdP R R R R tk28 ta28 (sMi R (sX ((ok_ixF (f:=Gq2.lv) (xs:=p0.Records) te28 tk49 ts49 R R R R hx3).ok) (sN (oA (v:=(.eptr _ _ _ _)) R zS))))))))))) (LH.ret ?_)
  obtain rfl:=oI h
  exact retE (aT Tryz.results78) (lrT R (lr0 ⟨memN (mC R (mC R mN)),R,prK R,Sub.rfl⟩))

theorem q233q {F:Nat} {p0:GBank} {p1:Gq0} {r:Int × GBank} (h:q166q F p0 p1=some r):LCall Tryz.prog 58 [.ptr 811 0,.agg [.I p1.Stamp.Time,.I p1.Stamp.Source,.I p1.Stamp.Seq,.I p1.Kind,.I p1.Item.ID,.I p1.Item.Version,.str p1.Item.Stem,.lst 6 (List.map GPart.lv p1.Item.Parts),.L p1.Item.Enemies,.I p1.Ref.ID,.I p1.Ref.Version,.I p1.Form]] (Mem.of [(811,.box [.arr 812 (List.length p0.Records)]),(812,.nest 49 5 [(1,54,5),(2,4,1),(3,88,3)] (List.map Gq2.lv p0.Records))]) (.I r.1) (Mem.of [(811,.box [.arr 812 (List.length r.2.Records)]),(812,.nest 49 5 [(1,54,5),(2,4,1),(3,88,3)] (List.map Gq2.lv r.2.Records))]):=by
  unfold q166q at h
  refine bodyT Tryz.func58 R (nT Tryz.ntmps58 R) ?_
  refine LH.wk (Wk.eq (el:=[(0,.ptr 811 0),(1,.agg [.I p1.Stamp.Time,.I p1.Stamp.Source,.I p1.Stamp.Seq,.I p1.Kind,.I p1.Item.ID,.I p1.Item.Version,.str p1.Item.Stem,.lst 6 (List.map GPart.lv p1.Item.Parts),.L p1.Item.Enemies,.I p1.Ref.ID,.I p1.Ref.Version,.I p1.Form])]) (ml:=[(811,.box [.arr 812 (List.length p0.Records)]),(812,.nest 49 5 [(1,54,5),(2,4,1),(3,88,3)] (List.map Gq2.lv p0.Records))]) R R R R) ?_
  refine LH.seqT [(0,.ptr 811 0),(3,.sptr [.I p1.Stamp.Time,.I p1.Stamp.Source,.I p1.Stamp.Seq,.I p1.Kind,.I p1.Item.ID,.I p1.Item.Version,.str p1.Item.Stem,.lst 6 (List.map GPart.lv p1.Item.Parts),.L p1.Item.Enemies,.I p1.Ref.ID,.I p1.Ref.Version,.I p1.Form])] [(811,.box [.arr 812 (List.length p0.Records)]),(812,.nest 49 5 [(1,54,5),(2,4,1),(3,88,3)] (List.map Gq2.lv p0.Records))] R ?_ ?_
  ·refine sB (oBxR R R R R ?_)
   refine sAi R ?_
   exact zS
  refine LH.seq ?_
  obtain ⟨r1,hr1,h⟩:=bindS h
  refine LH.seqT [(0,.ptr 811 0),(3,.sptr [.I p1.Stamp.Time,.I p1.Stamp.Source,.I p1.Stamp.Seq,.I p1.Kind,.I p1.Item.ID,.I p1.Item.Version,.str p1.Item.Stem,.lst 6 (List.map GPart.lv p1.Item.Parts),.L p1.Item.Enemies,.I p1.Ref.ID,.I p1.Ref.Version,.I p1.Form]),(5,.I r1)] [(811,.box [.arr 812 (List.length p0.Records)]),(812,.nest 49 5 [(1,54,5),(2,4,1),(3,88,3)] (List.map Gq2.lv p0.Records))] R ?_ ?_
  ·refine sN (oFaS tf63_2 tk54 ts54 R R R ?_)
   refine sN (oLdA R tk54 ta54 ts54 R R ?_)
   refine sN (oCP (args:=[.agg [.I p1.Item.ID,.I p1.Item.Version,.str p1.Item.Stem,.lst 6 (List.map GPart.lv p1.Item.Parts),.L p1.Item.Enemies]]) R isF75 R (sbR sbN) (q186q hr1) R ?_)
   refine sAi R ?_
   exact zS
  refine LH.seqT [(0,.ptr 811 0),(3,.sptr [.I p1.Stamp.Time,.I p1.Stamp.Source,.I p1.Stamp.Seq,.I p1.Kind,.I p1.Item.ID,.I p1.Item.Version,.str p1.Item.Stem,.lst 6 (List.map GPart.lv p1.Item.Parts),.L p1.Item.Enemies,.I p1.Ref.ID,.I p1.Ref.Version,.I p1.Form]),(5,.I r1),(11,.bool (r1 != 0))] [(811,.box [.arr 812 (List.length p0.Records)]),(812,.nest 49 5 [(1,54,5),(2,4,1),(3,88,3)] (List.map Gq2.lv p0.Records))] R ?_ ?_
  ·refine sMi R ?_
   refine sN (oNe R R ?_)
   exact zS
  refine LH.cond (t:=(r1 != 0)) R (fun hc2=>?_) (fun hc2=>?_)
  ·replace h:=iteT h hc2
   refine LH.seqT [(4,.I r1)] [(811,.box [.arr 812 (List.length p0.Records)]),(812,.nest 49 5 [(1,54,5),(2,4,1),(3,88,3)] (List.map Gq2.lv p0.Records))] R ?_ ?_
   ·refine sMi R ?_
    refine sAi R ?_
    exact zS
   refine LH.ret ?_
   refine thenR ?_
   obtain rfl:=oI h
   exact retE (aT Tryz.results58) (lrT R (lr0 ⟨memN (mC R (mC R mN)),R,prK R,Sub.rfl⟩))
  replace h:=iteF h hc2
  refine LH.skip ?_
  refine thenN ?_
  obtain ⟨r3,hr3,h⟩:=bindS h
  refine LH.seqT [(3,.sptr [.I p1.Stamp.Time,.I p1.Stamp.Source,.I p1.Stamp.Seq,.I p1.Kind,.I p1.Item.ID,.I p1.Item.Version,.str p1.Item.Stem,.lst 6 (List.map GPart.lv p1.Item.Parts),.L p1.Item.Enemies,.I p1.Ref.ID,.I p1.Ref.Version,.I p1.Form]),(6,optP 812 (List.length p0.Records) r3)] [(811,.box [.arr 812 (List.length p0.Records)]),(812,.nest 49 5 [(1,54,5),(2,4,1),(3,88,3)] (List.map Gq2.lv p0.Records))] R ?_ ?_
  ·refine sMp R ?_
   refine sN (oFaS tf63_2 tk54 ts54 R R R ?_)
   refine sN (oFaS tf54_0 tk3 ts3 R R R ?_)
   refine sN (oLd R tk3 ta3 ?_)
   refine sN (oCM (args:=[.ptr 811 0,.I p1.Item.ID]) (ml:=[(811,.box [.arr 812 (List.length p0.Records)]),(812,.nest 49 5 [(1,54,5),(2,4,1),(3,88,3)] (List.map Gq2.lv p0.Records))]) (ml':=[(811,.box [.arr 812 (List.length p0.Records)]),(812,.nest 49 5 [(1,54,5),(2,4,1),(3,88,3)] (List.map Gq2.lv p0.Records))]) R isF78 R (sbR (sbR sbN)) (q182q hr3) ⟨R,R,trivial⟩ (newI R (newI R newN)) R ?_)
   refine sN (oA (v:=(optP _ _ _)) R ?_)
   exact s0 (Wk.to (eQ ⟨R,R,trivial⟩) ⟨R,R,trivial⟩ (by rcases r3 with _ | _ <;> exact R) (prK R))
  rcases r3 with _ | j4
  ·replace h:=optN h
   refine LH.wk (Wk.eq (el:=[(3,.sptr [.I p1.Stamp.Time,.I p1.Stamp.Source,.I p1.Stamp.Seq,.I p1.Kind,.I p1.Item.ID,.I p1.Item.Version,.str p1.Item.Stem,.lst 6 (List.map GPart.lv p1.Item.Parts),.L p1.Item.Enemies,.I p1.Ref.ID,.I p1.Ref.Version,.I p1.Form]),(6,.nilp)]) (ml:=[(811,.box [.arr 812 (List.length p0.Records)]),(812,.nest 49 5 [(1,54,5),(2,4,1),(3,88,3)] (List.map Gq2.lv p0.Records))]) R R R R) ?_
   refine LH.seq ?_
   refine LH.seqT [(3,.sptr [.I p1.Stamp.Time,.I p1.Stamp.Source,.I p1.Stamp.Seq,.I p1.Kind,.I p1.Item.ID,.I p1.Item.Version,.str p1.Item.Stem,.lst 6 (List.map GPart.lv p1.Item.Parts),.L p1.Item.Enemies,.I p1.Ref.ID,.I p1.Ref.Version,.I p1.Form]),(6,.nilp),(19,.bool true)] [(811,.box [.arr 812 (List.length p0.Records)]),(812,.nest 49 5 [(1,54,5),(2,4,1),(3,88,3)] (List.map Gq2.lv p0.Records))] R ?_ ?_
   ·refine sN (oM (v:=.nilp) R ?_)
    refine sX ((ok_pNN tq127 R R).ok) ?_
    exact zS
   refine LH.cond (t:=true) R (fun hc6=>?_) (fun hc6=>?_)
   ·refine LH.seqT [(4,.I 4)] [(811,.box [.arr 812 (List.length p0.Records)]),(812,.nest 49 5 [(1,54,5),(2,4,1),(3,88,3)] (List.map Gq2.lv p0.Records))] R ?_ ?_
    ·refine sAi R ?_
     exact zS
    refine LH.ret ?_
    refine thenR ?_
    obtain rfl:=oI h
    exact retE (aT Tryz.results58) (lrT R (lr0 ⟨memN (mC R (mC R mN)),R,prK R,Sub.rfl⟩))
   ·cases hc6
  replace h:=optS h
  obtain ⟨x5,hx5,h⟩:=bindS h
  refine LH.wk (Wk.to (el:=[(3,.sptr [.I p1.Stamp.Time,.I p1.Stamp.Source,.I p1.Stamp.Seq,.I p1.Kind,.I p1.Item.ID,.I p1.Item.Version,.str p1.Item.Stem,.lst 6 (List.map GPart.lv p1.Item.Parts),.L p1.Item.Enemies,.I p1.Ref.ID,.I p1.Ref.Version,.I p1.Form]),(6,.eptr 812 (List.length p0.Records) (j4).toNat 0)]) (ml:=[(811,.box [.arr 812 (List.length p0.Records)]),(812,.nest 49 5 [(1,54,5),(2,4,1),(3,88,3)] ((List.map Gq2.lv p0.Records).set (j4).toNat (.agg [.I x5.ID,.lst 5 (List.map GItem.lv x5.Versions),.lst 1 (List.map LV.bool x5.Approved),.lst 3 (List.map GUse.lv x5.Uses),.bool x5.Withdrawn])))]) (eQ ⟨R,R,trivial⟩) (mC R (mC (focN hx5) mN)) R (prK R)) ?_
  refine LH.seq ?_
  refine LH.seqT [(3,.sptr [.I p1.Stamp.Time,.I p1.Stamp.Source,.I p1.Stamp.Seq,.I p1.Kind,.I p1.Item.ID,.I p1.Item.Version,.str p1.Item.Stem,.lst 6 (List.map GPart.lv p1.Item.Parts),.L p1.Item.Enemies,.I p1.Ref.ID,.I p1.Ref.Version,.I p1.Form]),(6,.eptr 812 (List.length p0.Records) (j4).toNat 0),(19,.bool false)] [(811,.box [.arr 812 (List.length p0.Records)]),(812,.nest 49 5 [(1,54,5),(2,4,1),(3,88,3)] ((List.map Gq2.lv p0.Records).set (j4).toNat (.agg [.I x5.ID,.lst 5 (List.map GItem.lv x5.Versions),.lst 1 (List.map LV.bool x5.Approved),.lst 3 (List.map GUse.lv x5.Uses),.bool x5.Withdrawn])))] R ?_ ?_
  ·refine sN (oM (v:=(.eptr _ _ _ _)) R ?_)
   refine sX ((ok_pEN tq127 R R R (by simp) (focAt hx5)).ok) ?_
   exact zS
  refine LH.cond (t:=false) R (fun hc7=>?_) (fun hc7=>?_)
  ·cases hc7
  refine LH.skip ?_
  refine thenN ?_
  refine LH.wk (Wk.eq (el:=[(3,.sptr [.I p1.Stamp.Time,.I p1.Stamp.Source,.I p1.Stamp.Seq,.I p1.Kind,.I p1.Item.ID,.I p1.Item.Version,.str p1.Item.Stem,.lst 6 (List.map GPart.lv p1.Item.Parts),.L p1.Item.Enemies,.I p1.Ref.ID,.I p1.Ref.Version,.I p1.Form]),(6,.eptr 812 (List.length p0.Records) (j4).toNat 0)]) (ml:=[(811,.box [.arr 812 (List.length p0.Records)]),(812,.nest 49 5 [(1,54,5),(2,4,1),(3,88,3)] ((List.map Gq2.lv p0.Records).set (j4).toNat (.agg [.I x5.ID,.lst 5 (List.map GItem.lv x5.Versions),.lst 1 (List.map LV.bool x5.Approved),.lst 3 (List.map GUse.lv x5.Uses),.bool x5.Withdrawn])))]) R R R R) ?_
  refine LH.seq ?_
  refine LH.seqJM mixed [] [0,3,3,3,0,0,0,0,0,3,3,3,3,0,0,0] [(3,.sptr [.I p1.Stamp.Time,.I p1.Stamp.Source,.I p1.Stamp.Seq,.I p1.Kind,.I p1.Item.ID,.I p1.Item.Version,.str p1.Item.Stem,.lst 6 (List.map GPart.lv p1.Item.Parts),.L p1.Item.Enemies,.I p1.Ref.ID,.I p1.Ref.Version,.I p1.Form]),(6,.eptr 812 (List.length p0.Records) (j4).toNat 0),(35,.bool (x5.Withdrawn || (p1.Item.Version != (i64 ((x5.Versions.length:Int)+1)))))] [(811,.box [.arr 812 (List.length p0.Records)]),(812,.nest 49 5 [(1,54,5),(2,4,1),(3,88,3)] ((List.map Gq2.lv p0.Records).set (j4).toNat (.agg [.I x5.ID,.lst 5 (List.map GItem.lv x5.Versions),.lst 1 (List.map LV.bool x5.Approved),.lst 3 (List.map GUse.lv x5.Uses),.bool x5.Withdrawn])))] R R (by kernel_rfl) ?_ ?_
  ·refine mN0 (oM (v:=(.eptr _ _ _ _)) R ⟨R,?_⟩)
   refine mX (ok_ncN R R (by simp) (focAt hx5)) ?_
   refine mX (ok_faN tf49_4 tk4 ts4 R R (by simp) (focAt hx5)) ?_
   refine mX (ok_ldN (cs:=[.I x5.ID,.lst 5 (List.map GItem.lv x5.Versions),.lst 1 (List.map LV.bool x5.Approved),.lst 3 (List.map GUse.lv x5.Uses),.bool x5.Withdrawn]) R R (by simp) (focAt hx5) R R tk4 ta4) ?_
   refine mMb R ?_
   by_cases hb9:x5.Withdrawn=true
   ·refine mF R R hb9 ?_
    refine mF R R hb9 ?_
    refine mF R R hb9 ?_
    refine mF R R hb9 ?_
    refine mF R R hb9 ?_
    refine mF R R hb9 ?_
    refine mF R R hb9 ?_
    refine mF R R hb9 ?_
    refine mF R R hb9 ?_
    refine mF R R hb9 ?_
    refine mN0 (oPkT (cB hb9) (v:=(.bool _)) R ⟨R,?_⟩)
    exact m0 (Wk.to (eC R (eC R (eC (cB (orT hb9)) eN))) ⟨R,R,trivial⟩ R (prK R))
   ·replace hb9:=bF hb9
    refine mT R (cB hb9) (mN0 (oFaS tf63_2 tk54 ts54 R R R ⟨R,?_⟩))
    refine mT R (cB hb9) (mN0 (oFaS tf54_1 tk3 ts3 R R R ⟨R,?_⟩))
    refine mT R (cB hb9) (mN0 (oLd R tk3 ta3 ⟨R,?_⟩))
    refine mT R (cB hb9) (mN0 (oM (v:=(.eptr _ _ _ _)) R ⟨R,?_⟩))
    refine mT R (cB hb9) (mX (ok_ncN R R (by simp) (focAt hx5)) ?_)
    refine mT R (cB hb9) (mX (ok_faN tf49_1 tk45 ts45 R R (by simp) (focAt hx5)) ?_)
    refine mT R (cB hb9) (mX (ok_lnF (g:=GItem.lv) (ys:=x5.Versions) (cs:=[.I x5.ID,.lst 5 (List.map GItem.lv x5.Versions),.lst 1 (List.map LV.bool x5.Approved),.lst 3 (List.map GUse.lv x5.Uses),.bool x5.Withdrawn]) R R (by simp) (focAt hx5) R R tk45 ta45) ?_)
    refine mT R (cB hb9) (mX (ok_lenS te45 R) ?_)
    refine mT R (cB hb9) (mN0 (oAdd R R ⟨R,?_⟩))
    refine mT R (cB hb9) (mN0 (oNe R R ⟨R,?_⟩))
    refine mN0 (oPkF (cB hb9) (v:=(.bool _)) R ⟨R,?_⟩)
    exact m0 (Wk.to (eC R (eC R (eC (cB (orF hb9)) eN))) ⟨R,R,trivial⟩ R (prK R))
  refine LH.cond (t:=(x5.Withdrawn || (p1.Item.Version != (i64 ((x5.Versions.length:Int)+1))))) R (fun hc10=>?_) (fun hc10=>?_)
  ·replace h:=iteT h hc10
   refine LH.seqT [(4,.I 8)] [(811,.box [.arr 812 (List.length p0.Records)]),(812,.nest 49 5 [(1,54,5),(2,4,1),(3,88,3)] (List.map Gq2.lv p0.Records))] R ?_ ?_
   ·refine sAi R ?_
    exact s0 (Wk.to (eQ ⟨R,trivial⟩) (mC R (mC (focN hx5).symm mN)) R (prK R))
   refine LH.ret ?_
   refine thenR ?_
   obtain rfl:=oI h
   exact retE (aT Tryz.results58) (lrT R (lr0 ⟨memN (mC R (mC R mN)),R,prK R,Sub.rfl⟩))
  replace h:=iteF h hc10
  refine LH.skip ?_
  refine thenN ?_
  obtain ⟨r11,hr11,h⟩:=bindS h
  obtain ⟨v12,hv12,h⟩:=bindS h
  refine LH.seqJM mixed [] [0,0,3,3,3,0,0,0,0,2,3,3,3] [(6,.eptr 812 (List.length p0.Records) (j4).toNat 0)] [(811,.box [.arr 812 (List.length p0.Records)]),(812,.nest 49 5 [(1,54,5),(2,4,1),(3,88,3)] ((List.map Gq2.lv p0.Records).set (j4).toNat (.agg [.I x5.ID,.lst 5 (List.map GItem.lv v12),.lst 1 (List.map LV.bool x5.Approved),.lst 3 (List.map GUse.lv x5.Uses),.bool x5.Withdrawn])))] R R (by kernel_rfl) ?_ ?_
  ·refine mN0 (oM (v:=(.eptr _ _ _ _)) R ⟨R,?_⟩)
   refine mN0 (oM (v:=(.eptr _ _ _ _)) R ⟨R,?_⟩)
   refine mX (ok_ncN R R (by simp) (focAt hx5)) ?_
   refine mX (ok_faN tf49_1 tk45 ts45 R R (by simp) (focAt hx5)) ?_
   refine mX (ok_takeF (g:=GItem.lv) (ys:=x5.Versions) (ls:=List.map Gq2.lv p0.Records) (cs:=[.I x5.ID,.lst 5 (List.map GItem.lv x5.Versions),.lst 1 (List.map LV.bool x5.Approved),.lst 3 (List.map GUse.lv x5.Uses),.bool x5.Withdrawn]) (id2:=140) (cs':=[.I x5.ID,.und,.lst 1 (List.map LV.bool x5.Approved),.lst 3 (List.map GUse.lv x5.Uses),.bool x5.Withdrawn]) R R (by simp) (focAt hx5) R R R tk45 ta45 R) ?_
   refine mN0 (oFaS tf63_2 tk54 ts54 R R R ⟨R,?_⟩)
   refine mN0 (oLdA R tk54 ta54 ts54 R R ⟨R,?_⟩)
   refine mN0 (oCP (args:=[.agg [.I p1.Item.ID,.I p1.Item.Version,.str p1.Item.Stem,.lst 6 (List.map GPart.lv p1.Item.Parts),.L p1.Item.Enemies]]) R isF41 R (sbR sbN) (q165q hr11) R ⟨R,?_⟩)
   refine mN0 (oBS (f:=GItem.lv) (ys:=[r11]) te45 tr54 ts54 R R R GItem.ok ⟨R,?_⟩)
   refine mN2 (oAp (f:=GItem.lv) te45 tr54 ts54 R R (prN R) R hv12 ?_)
   refine mX (ok_ncN R R (by simp) (focAt hx5)) ?_
   refine mX (ok_faN tf49_1 tk45 ts45 R R (by simp) (focAt hx5)) ?_
   refine mX_ (ok_putF (g:=GItem.lv) (ys:=v12) (ls:=List.map Gq2.lv p0.Records) (cs:=[.I x5.ID,.und,.lst 1 (List.map LV.bool x5.Approved),.lst 3 (List.map GUse.lv x5.Uses),.bool x5.Withdrawn]) (cs':=[.I x5.ID,.lst 5 (List.map GItem.lv v12),.lst 1 (List.map LV.bool x5.Approved),.lst 3 (List.map GUse.lv x5.Uses),.bool x5.Withdrawn]) R R (by simp) (focAt hx5) R R R R R (prN R) tk45 ts45 R) ?_
   exact zM
  obtain ⟨v13,hv13,h⟩:=bindS h
  refine LH.seqT [] [(811,.box [.arr 812 (List.length (p0.Records.set (j4).toNat (Gq2.mk x5.ID v12 v13 x5.Uses x5.Withdrawn)))]),(812,.nest 49 5 [(1,54,5),(2,4,1),(3,88,3)] (List.map Gq2.lv (p0.Records.set (j4).toNat (Gq2.mk x5.ID v12 v13 x5.Uses x5.Withdrawn))))] R ?_ ?_
  ·refine sN (oM (v:=(.eptr _ _ _ _)) R ?_)
   refine sN (oM (v:=(.eptr _ _ _ _)) R ?_)
   refine sX ((ok_ncN R R (by simp) (focAt hx5)).ok) ?_
   refine sX ((ok_faN tf49_2 tk46 ts46 R R (by simp) (focAt hx5)).ok) ?_
   refine sX ((ok_takeF (g:=LV.bool) (ys:=x5.Approved) (ls:=List.map Gq2.lv p0.Records) (cs:=[.I x5.ID,.lst 5 (List.map GItem.lv v12),.lst 1 (List.map LV.bool x5.Approved),.lst 3 (List.map GUse.lv x5.Uses),.bool x5.Withdrawn]) (id2:=152) (cs':=[.I x5.ID,.lst 5 (List.map GItem.lv v12),.und,.lst 3 (List.map GUse.lv x5.Uses),.bool x5.Withdrawn]) R R (by simp) (focAt hx5) R R R tk46 ta46 R).ok) ?_
   refine sN (oBS (f:=LV.bool) (ys:=[false]) te46 tr4 ts4 R R R okB ?_)
   refine sN (oAp (f:=LV.bool) te46 tr4 ts4 R R (prN R) R hv13 ?_)
   refine sX ((ok_ncN R R (by simp) (focAt hx5)).ok) ?_
   refine sX ((ok_faN tf49_2 tk46 ts46 R R (by simp) (focAt hx5)).ok) ?_
   refine sX_ ((ok_putF (g:=LV.bool) (ys:=v13) (ls:=List.map Gq2.lv p0.Records) (cs:=[.I x5.ID,.lst 5 (List.map GItem.lv v12),.und,.lst 3 (List.map GUse.lv x5.Uses),.bool x5.Withdrawn]) (cs':=[.I x5.ID,.lst 5 (List.map GItem.lv v12),.lst 1 (List.map LV.bool v13),.lst 3 (List.map GUse.lv x5.Uses),.bool x5.Withdrawn]) R R (by simp) (focAt hx5) R R R R R (prN R) tk46 ts46 R).ok) ?_
   exact s0 (Wk.to eN (mC ((show _=some (LE.box [.arr 812 (List.length p0.Records)]) from R).trans (by simp)) (mC (unfN R R) mN)) R (prK R))
  refine LH.seqT [(4,.I 0)] [(811,.box [.arr 812 (List.length (p0.Records.set (j4).toNat (Gq2.mk x5.ID v12 v13 x5.Uses x5.Withdrawn)))]),(812,.nest 49 5 [(1,54,5),(2,4,1),(3,88,3)] (List.map Gq2.lv (p0.Records.set (j4).toNat (Gq2.mk x5.ID v12 v13 x5.Uses x5.Withdrawn))))] R ?_ ?_
  ·refine sAi R ?_
   exact zS
  refine LH.ret ?_
  obtain rfl:=oI h
  exact retE (aT Tryz.results58) (lrT R (lr0 ⟨memN (mC R (mC R mN)),R,prK R,Sub.rfl⟩))

theorem q197q {F:Nat} {p0:GBank} {p1:GRef} {r:Option Int} (h:q133q F p0 p1=some r):LCall Tryz.prog 79 [.ptr 811 0,.agg [.I p1.ID,.I p1.Version]] (Mem.of [(811,.box [.arr 812 (List.length p0.Records)]),(812,.nest 49 5 [(1,54,5),(2,4,1),(3,88,3)] (List.map Gq2.lv p0.Records))]) (optP 812 (List.length p0.Records) r) (Mem.of [(811,.box [.arr 812 (List.length p0.Records)]),(812,.nest 49 5 [(1,54,5),(2,4,1),(3,88,3)] (List.map Gq2.lv p0.Records))]):=by
  unfold q133q at h
  refine bodyT Tryz.func79 R (nT Tryz.ntmps79 R) ?_
  refine LH.wk (Wk.eq (el:=[(0,.ptr 811 0),(1,.agg [.I p1.ID,.I p1.Version])]) (ml:=[(811,.box [.arr 812 (List.length p0.Records)]),(812,.nest 49 5 [(1,54,5),(2,4,1),(3,88,3)] (List.map Gq2.lv p0.Records))]) R R R R) ?_
  refine LH.seqT [(0,.ptr 811 0),(3,.sptr [.I p1.ID,.I p1.Version])] [(811,.box [.arr 812 (List.length p0.Records)]),(812,.nest 49 5 [(1,54,5),(2,4,1),(3,88,3)] (List.map Gq2.lv p0.Records))] R ?_ ?_
  ·refine sB (oBxR R R R R ?_)
   refine sN (oA (v:=.nilp) R ?_)
   exact zS
  obtain ⟨r1,hr1,h⟩:=bindS h
  refine LH.seqT [(3,.sptr [.I p1.ID,.I p1.Version]),(5,optP 812 (List.length p0.Records) r1)] [(811,.box [.arr 812 (List.length p0.Records)]),(812,.nest 49 5 [(1,54,5),(2,4,1),(3,88,3)] (List.map Gq2.lv p0.Records))] R ?_ ?_
  ·refine sMp R ?_
   refine sN (oFaS tf43_0 tk3 ts3 R R R ?_)
   refine sN (oLd R tk3 ta3 ?_)
   refine sN (oCM (args:=[.ptr 811 0,.I p1.ID]) (ml:=[(811,.box [.arr 812 (List.length p0.Records)]),(812,.nest 49 5 [(1,54,5),(2,4,1),(3,88,3)] (List.map Gq2.lv p0.Records))]) (ml':=[(811,.box [.arr 812 (List.length p0.Records)]),(812,.nest 49 5 [(1,54,5),(2,4,1),(3,88,3)] (List.map Gq2.lv p0.Records))]) R isF78 R (sbR (sbR sbN)) (q182q hr1) ⟨R,R,trivial⟩ (newI R (newI R newN)) R ?_)
   refine sN (oA (v:=(optP _ _ _)) R ?_)
   exact s0 (Wk.to (eQ ⟨R,R,trivial⟩) ⟨R,R,trivial⟩ (by rcases r1 with _ | _ <;> exact R) (prK R))
  rcases r1 with _ | j2
  ·replace h:=optN h
   refine LH.wk (Wk.eq (el:=[(3,.sptr [.I p1.ID,.I p1.Version]),(5,.nilp)]) (ml:=[(811,.box [.arr 812 (List.length p0.Records)]),(812,.nest 49 5 [(1,54,5),(2,4,1),(3,88,3)] (List.map Gq2.lv p0.Records))]) R R R R) ?_
   refine LH.seq ?_
   refine LH.seqJM mixed [] [0,4,0,0,0,0,0,0,0,0,0,0,0,0,0,0,0] [(5,.nilp),(26,.bool true)] [(811,.box [.arr 812 (List.length p0.Records)]),(812,.nest 49 5 [(1,54,5),(2,4,1),(3,88,3)] (List.map Gq2.lv p0.Records))] R R (by kernel_rfl) ?_ ?_
   ·refine mN0 (oM (v:=.nilp) R ⟨R,?_⟩)
    refine mM (fun _=>ok_pNN tq127 R R) ?_
    refine mMb R ?_
    refine mF R R R ?_
    refine mF R R R ?_
    refine mF R R R ?_
    refine mN0 (oPkT R (v:=(.bool _)) R ⟨R,?_⟩)
    refine mMb R ?_
    refine mF R R R ?_
    refine mF R R R ?_
    refine mF R R R ?_
    refine mF R R R ?_
    refine mF R R R ?_
    refine mF R R R ?_
    refine mF R R R ?_
    refine mF R R R ?_
    refine mN0 (oPkT R (v:=(.bool _)) R ⟨R,?_⟩)
    exact zM
   refine LH.cond (t:=true) R (fun hc4=>?_) (fun hc4=>?_)
   ·refine LH.seqT [(4,.nilp)] [(811,.box [.arr 812 (List.length p0.Records)]),(812,.nest 49 5 [(1,54,5),(2,4,1),(3,88,3)] (List.map Gq2.lv p0.Records))] R ?_ ?_
    ·refine sN (oA (v:=.nilp) R ?_)
     exact zS
    refine LH.ret ?_
    refine thenR ?_
    obtain rfl:=oI h
    exact retE (aT Tryz.results79) (lrT R (lr0 ⟨memN (mC R (mC R mN)),R,prK R,Sub.rfl⟩))
   ·cases hc4
  replace h:=optS h
  obtain ⟨x3,hx3,h⟩:=bindS h
  refine LH.wk (Wk.to (el:=[(3,.sptr [.I p1.ID,.I p1.Version]),(5,.eptr 812 (List.length p0.Records) (j2).toNat 0)]) (ml:=[(811,.box [.arr 812 (List.length p0.Records)]),(812,.nest 49 5 [(1,54,5),(2,4,1),(3,88,3)] ((List.map Gq2.lv p0.Records).set (j2).toNat (.agg [.I x3.ID,.lst 5 (List.map GItem.lv x3.Versions),.lst 1 (List.map LV.bool x3.Approved),.lst 3 (List.map GUse.lv x3.Uses),.bool x3.Withdrawn])))]) (eQ ⟨R,R,trivial⟩) (mC R (mC (focN hx3) mN)) R (prK R)) ?_
  refine LH.seq ?_
  refine LH.seqJM mixed [] [0,3,0,0,0,0,0,0,0,0,0,3,3,3,3,0,0] [(5,.eptr 812 (List.length p0.Records) (j2).toNat 0),(26,.bool ((decide (p1.Version<1)) || (decide (p1.Version > (x3.Versions.length:Int)))))] [(811,.box [.arr 812 (List.length p0.Records)]),(812,.nest 49 5 [(1,54,5),(2,4,1),(3,88,3)] ((List.map Gq2.lv p0.Records).set (j2).toNat (.agg [.I x3.ID,.lst 5 (List.map GItem.lv x3.Versions),.lst 1 (List.map LV.bool x3.Approved),.lst 3 (List.map GUse.lv x3.Uses),.bool x3.Withdrawn])))] R R (by kernel_rfl) ?_ ?_
  ·refine mN0 (oM (v:=(.eptr _ _ _ _)) R ⟨R,?_⟩)
   refine mX (ok_pEN tq127 R R R (by simp) (focAt hx3)) ?_
   refine mMb R ?_
   refine mT R R (mN0 (oFaS tf43_1 tk3 ts3 R R R ⟨R,?_⟩))
   refine mT R R (mN0 (oLd R tk3 ta3 ⟨R,?_⟩))
   refine mT R R (mN0 (oLt R R ⟨R,?_⟩))
   refine mN0 (oPkF R (v:=(.bool _)) R ⟨R,?_⟩)
   refine mMb R ?_
   by_cases hb6:(decide (p1.Version<1))=true
   ·refine mF R R hb6 ?_
    refine mF R R hb6 ?_
    refine mF R R hb6 ?_
    refine mF R R hb6 ?_
    refine mF R R hb6 ?_
    refine mF R R hb6 ?_
    refine mF R R hb6 ?_
    refine mF R R hb6 ?_
    refine mN0 (oPkT (cB hb6) (v:=(.bool _)) R ⟨R,?_⟩)
    exact m0 (Wk.to (eC R (eC (cB (orT hb6)) eN)) ⟨R,R,trivial⟩ R (prK R))
   ·replace hb6:=bF hb6
    refine mT R (cB hb6) (mN0 (oFaS tf43_1 tk3 ts3 R R R ⟨R,?_⟩))
    refine mT R (cB hb6) (mN0 (oLd R tk3 ta3 ⟨R,?_⟩))
    refine mT R (cB hb6) (mN0 (oM (v:=(.eptr _ _ _ _)) R ⟨R,?_⟩))
    refine mT R (cB hb6) (mX (ok_ncN R R (by simp) (focAt hx3)) ?_)
    refine mT R (cB hb6) (mX (ok_faN tf49_1 tk45 ts45 R R (by simp) (focAt hx3)) ?_)
    refine mT R (cB hb6) (mX (ok_lnF (g:=GItem.lv) (ys:=x3.Versions) (cs:=[.I x3.ID,.lst 5 (List.map GItem.lv x3.Versions),.lst 1 (List.map LV.bool x3.Approved),.lst 3 (List.map GUse.lv x3.Uses),.bool x3.Withdrawn]) R R (by simp) (focAt hx3) R R tk45 ta45) ?_)
    refine mT R (cB hb6) (mX (ok_lenS te45 R) ?_)
    refine mT R (cB hb6) (mN0 (oGt R R ⟨R,?_⟩))
    refine mN0 (oPkF (cB hb6) (v:=(.bool _)) R ⟨R,?_⟩)
    exact m0 (Wk.to (eC R (eC (cB (orF hb6)) eN)) ⟨R,R,trivial⟩ R (prK R))
  refine LH.cond (t:=((decide (p1.Version<1)) || (decide (p1.Version > (x3.Versions.length:Int))))) R (fun hc7=>?_) (fun hc7=>?_)
  ·replace h:=iteT h hc7
   refine LH.seqT [(4,.nilp)] [(811,.box [.arr 812 (List.length p0.Records)]),(812,.nest 49 5 [(1,54,5),(2,4,1),(3,88,3)] (List.map Gq2.lv p0.Records))] R ?_ ?_
   ·refine sN (oA (v:=.nilp) R ?_)
    exact s0 (Wk.to (eQ ⟨R,trivial⟩) (mC R (mC (focN hx3).symm mN)) R (prK R))
   refine LH.ret ?_
   refine thenR ?_
   obtain rfl:=oI h
   exact retE (aT Tryz.results79) (lrT R (lr0 ⟨memN (mC R (mC R mN)),R,prK R,Sub.rfl⟩))
  replace h:=iteF h hc7
  refine LH.skip ?_
  refine thenN ?_
  refine LH.seqT [(4,.eptr 812 (List.length p0.Records) (j2).toNat 0)] [(811,.box [.arr 812 (List.length p0.Records)]),(812,.nest 49 5 [(1,54,5),(2,4,1),(3,88,3)] ((List.map Gq2.lv p0.Records).set (j2).toNat (.agg [.I x3.ID,.lst 5 (List.map GItem.lv x3.Versions),.lst 1 (List.map LV.bool x3.Approved),.lst 3 (List.map GUse.lv x3.Uses),.bool x3.Withdrawn])))] R ?_ ?_
  ·refine sN (oM (v:=(.eptr _ _ _ _)) R ?_)
   refine sN (oA (v:=(.eptr _ _ _ _)) R ?_)
   exact zS
  refine LH.ret ?_
  obtain rfl:=oI h
  exact retE (aT Tryz.results79) (lrT R (lr0 ⟨memN (mC R (mC (focN hx3).symm mN)),R,prK R,Sub.rfl⟩))

theorem q227q {F:Nat} {p0:GBank} {p1:Gq0} {r:Int × GBank} (h:q152q F p0 p1=some r):LCall Tryz.prog 59 [.ptr 811 0,.agg [.I p1.Stamp.Time,.I p1.Stamp.Source,.I p1.Stamp.Seq,.I p1.Kind,.I p1.Item.ID,.I p1.Item.Version,.str p1.Item.Stem,.lst 6 (List.map GPart.lv p1.Item.Parts),.L p1.Item.Enemies,.I p1.Ref.ID,.I p1.Ref.Version,.I p1.Form]] (Mem.of [(811,.box [.arr 812 (List.length p0.Records)]),(812,.nest 49 5 [(1,54,5),(2,4,1),(3,88,3)] (List.map Gq2.lv p0.Records))]) (.I r.1) (Mem.of [(811,.box [.arr 812 (List.length r.2.Records)]),(812,.nest 49 5 [(1,54,5),(2,4,1),(3,88,3)] (List.map Gq2.lv r.2.Records))]):=by
  unfold q152q at h
  refine bodyT Tryz.func59 R (nT Tryz.ntmps59 R) ?_
  refine LH.wk (Wk.eq (el:=[(0,.ptr 811 0),(1,.agg [.I p1.Stamp.Time,.I p1.Stamp.Source,.I p1.Stamp.Seq,.I p1.Kind,.I p1.Item.ID,.I p1.Item.Version,.str p1.Item.Stem,.lst 6 (List.map GPart.lv p1.Item.Parts),.L p1.Item.Enemies,.I p1.Ref.ID,.I p1.Ref.Version,.I p1.Form])]) (ml:=[(811,.box [.arr 812 (List.length p0.Records)]),(812,.nest 49 5 [(1,54,5),(2,4,1),(3,88,3)] (List.map Gq2.lv p0.Records))]) R R R R) ?_
  refine LH.seqT [(0,.ptr 811 0),(3,.sptr [.I p1.Stamp.Time,.I p1.Stamp.Source,.I p1.Stamp.Seq,.I p1.Kind,.I p1.Item.ID,.I p1.Item.Version,.str p1.Item.Stem,.lst 6 (List.map GPart.lv p1.Item.Parts),.L p1.Item.Enemies,.I p1.Ref.ID,.I p1.Ref.Version,.I p1.Form])] [(811,.box [.arr 812 (List.length p0.Records)]),(812,.nest 49 5 [(1,54,5),(2,4,1),(3,88,3)] (List.map Gq2.lv p0.Records))] R ?_ ?_
  ·refine sB (oBxR R R R R ?_)
   refine sAi R ?_
   exact zS
  obtain ⟨r1,hr1,h⟩:=bindS h
  refine LH.seqT [(3,.sptr [.I p1.Stamp.Time,.I p1.Stamp.Source,.I p1.Stamp.Seq,.I p1.Kind,.I p1.Item.ID,.I p1.Item.Version,.str p1.Item.Stem,.lst 6 (List.map GPart.lv p1.Item.Parts),.L p1.Item.Enemies,.I p1.Ref.ID,.I p1.Ref.Version,.I p1.Form]),(5,optP 812 (List.length p0.Records) r1)] [(811,.box [.arr 812 (List.length p0.Records)]),(812,.nest 49 5 [(1,54,5),(2,4,1),(3,88,3)] (List.map Gq2.lv p0.Records))] R ?_ ?_
  ·refine sMp R ?_
   refine sN (oFaS tf63_3 tk43 ts43 R R R ?_)
   refine sN (oLdA R tk43 ta43 ts43 R R ?_)
   refine sN (oCM (args:=[.ptr 811 0,.agg [.I p1.Ref.ID,.I p1.Ref.Version]]) (ml:=[(811,.box [.arr 812 (List.length p0.Records)]),(812,.nest 49 5 [(1,54,5),(2,4,1),(3,88,3)] (List.map Gq2.lv p0.Records))]) (ml':=[(811,.box [.arr 812 (List.length p0.Records)]),(812,.nest 49 5 [(1,54,5),(2,4,1),(3,88,3)] (List.map Gq2.lv p0.Records))]) R isF79 R (sbR (sbR sbN)) (q197q hr1) ⟨R,R,trivial⟩ (newI R (newI R newN)) R ?_)
   refine sN (oA (v:=(optP _ _ _)) R ?_)
   exact s0 (Wk.to (eQ ⟨R,R,trivial⟩) ⟨R,R,trivial⟩ (by rcases r1 with _ | _ <;> exact R) (prK R))
  rcases r1 with _ | j2
  ·replace h:=optN h
   refine LH.wk (Wk.eq (el:=[(3,.sptr [.I p1.Stamp.Time,.I p1.Stamp.Source,.I p1.Stamp.Seq,.I p1.Kind,.I p1.Item.ID,.I p1.Item.Version,.str p1.Item.Stem,.lst 6 (List.map GPart.lv p1.Item.Parts),.L p1.Item.Enemies,.I p1.Ref.ID,.I p1.Ref.Version,.I p1.Form]),(5,.nilp)]) (ml:=[(811,.box [.arr 812 (List.length p0.Records)]),(812,.nest 49 5 [(1,54,5),(2,4,1),(3,88,3)] (List.map Gq2.lv p0.Records))]) R R R R) ?_
   refine LH.seq ?_
   refine LH.seqT [(3,.sptr [.I p1.Stamp.Time,.I p1.Stamp.Source,.I p1.Stamp.Seq,.I p1.Kind,.I p1.Item.ID,.I p1.Item.Version,.str p1.Item.Stem,.lst 6 (List.map GPart.lv p1.Item.Parts),.L p1.Item.Enemies,.I p1.Ref.ID,.I p1.Ref.Version,.I p1.Form]),(5,.nilp),(11,.bool true)] [(811,.box [.arr 812 (List.length p0.Records)]),(812,.nest 49 5 [(1,54,5),(2,4,1),(3,88,3)] (List.map Gq2.lv p0.Records))] R ?_ ?_
   ·refine sN (oM (v:=.nilp) R ?_)
    refine sX ((ok_pNN tq127 R R).ok) ?_
    exact zS
   refine LH.cond (t:=true) R (fun hc4=>?_) (fun hc4=>?_)
   ·refine LH.seqT [(4,.I 4)] [(811,.box [.arr 812 (List.length p0.Records)]),(812,.nest 49 5 [(1,54,5),(2,4,1),(3,88,3)] (List.map Gq2.lv p0.Records))] R ?_ ?_
    ·refine sAi R ?_
     exact zS
    refine LH.ret ?_
    refine thenR ?_
    obtain rfl:=oI h
    exact retE (aT Tryz.results59) (lrT R (lr0 ⟨memN (mC R (mC R mN)),R,prK R,Sub.rfl⟩))
   ·cases hc4
  replace h:=optS h
  obtain ⟨x3,hx3,h⟩:=bindS h
  refine LH.wk (Wk.to (el:=[(3,.sptr [.I p1.Stamp.Time,.I p1.Stamp.Source,.I p1.Stamp.Seq,.I p1.Kind,.I p1.Item.ID,.I p1.Item.Version,.str p1.Item.Stem,.lst 6 (List.map GPart.lv p1.Item.Parts),.L p1.Item.Enemies,.I p1.Ref.ID,.I p1.Ref.Version,.I p1.Form]),(5,.eptr 812 (List.length p0.Records) (j2).toNat 0)]) (ml:=[(811,.box [.arr 812 (List.length p0.Records)]),(812,.nest 49 5 [(1,54,5),(2,4,1),(3,88,3)] ((List.map Gq2.lv p0.Records).set (j2).toNat (.agg [.I x3.ID,.lst 5 (List.map GItem.lv x3.Versions),.lst 1 (List.map LV.bool x3.Approved),.lst 3 (List.map GUse.lv x3.Uses),.bool x3.Withdrawn])))]) (eQ ⟨R,R,trivial⟩) (mC R (mC (focN hx3) mN)) R (prK R)) ?_
  refine LH.seq ?_
  refine LH.seqT [(3,.sptr [.I p1.Stamp.Time,.I p1.Stamp.Source,.I p1.Stamp.Seq,.I p1.Kind,.I p1.Item.ID,.I p1.Item.Version,.str p1.Item.Stem,.lst 6 (List.map GPart.lv p1.Item.Parts),.L p1.Item.Enemies,.I p1.Ref.ID,.I p1.Ref.Version,.I p1.Form]),(5,.eptr 812 (List.length p0.Records) (j2).toNat 0),(11,.bool false)] [(811,.box [.arr 812 (List.length p0.Records)]),(812,.nest 49 5 [(1,54,5),(2,4,1),(3,88,3)] ((List.map Gq2.lv p0.Records).set (j2).toNat (.agg [.I x3.ID,.lst 5 (List.map GItem.lv x3.Versions),.lst 1 (List.map LV.bool x3.Approved),.lst 3 (List.map GUse.lv x3.Uses),.bool x3.Withdrawn])))] R ?_ ?_
  ·refine sN (oM (v:=(.eptr _ _ _ _)) R ?_)
   refine sX ((ok_pEN tq127 R R R (by simp) (focAt hx3)).ok) ?_
   exact zS
  refine LH.cond (t:=false) R (fun hc5=>?_) (fun hc5=>?_)
  ·cases hc5
  refine LH.skip ?_
  refine thenN ?_
  refine LH.wk (Wk.eq (el:=[(3,.sptr [.I p1.Stamp.Time,.I p1.Stamp.Source,.I p1.Stamp.Seq,.I p1.Kind,.I p1.Item.ID,.I p1.Item.Version,.str p1.Item.Stem,.lst 6 (List.map GPart.lv p1.Item.Parts),.L p1.Item.Enemies,.I p1.Ref.ID,.I p1.Ref.Version,.I p1.Form]),(5,.eptr 812 (List.length p0.Records) (j2).toNat 0)]) (ml:=[(811,.box [.arr 812 (List.length p0.Records)]),(812,.nest 49 5 [(1,54,5),(2,4,1),(3,88,3)] ((List.map Gq2.lv p0.Records).set (j2).toNat (.agg [.I x3.ID,.lst 5 (List.map GItem.lv x3.Versions),.lst 1 (List.map LV.bool x3.Approved),.lst 3 (List.map GUse.lv x3.Uses),.bool x3.Withdrawn])))]) R R R R) ?_
  refine LH.seq ?_
  refine LH.seqT [(3,.sptr [.I p1.Stamp.Time,.I p1.Stamp.Source,.I p1.Stamp.Seq,.I p1.Kind,.I p1.Item.ID,.I p1.Item.Version,.str p1.Item.Stem,.lst 6 (List.map GPart.lv p1.Item.Parts),.L p1.Item.Enemies,.I p1.Ref.ID,.I p1.Ref.Version,.I p1.Form]),(5,.eptr 812 (List.length p0.Records) (j2).toNat 0),(15,.bool x3.Withdrawn)] [(811,.box [.arr 812 (List.length p0.Records)]),(812,.nest 49 5 [(1,54,5),(2,4,1),(3,88,3)] ((List.map Gq2.lv p0.Records).set (j2).toNat (.agg [.I x3.ID,.lst 5 (List.map GItem.lv x3.Versions),.lst 1 (List.map LV.bool x3.Approved),.lst 3 (List.map GUse.lv x3.Uses),.bool x3.Withdrawn])))] R ?_ ?_
  ·refine sN (oM (v:=(.eptr _ _ _ _)) R ?_)
   refine sX ((ok_ncN R R (by simp) (focAt hx3)).ok) ?_
   refine sX ((ok_faN tf49_4 tk4 ts4 R R (by simp) (focAt hx3)).ok) ?_
   refine sX ((ok_ldN (cs:=[.I x3.ID,.lst 5 (List.map GItem.lv x3.Versions),.lst 1 (List.map LV.bool x3.Approved),.lst 3 (List.map GUse.lv x3.Uses),.bool x3.Withdrawn]) R R (by simp) (focAt hx3) R R tk4 ta4).ok) ?_
   exact zS
  refine LH.cond (t:=x3.Withdrawn) R (fun hc6=>?_) (fun hc6=>?_)
  ·replace h:=iteT h hc6
   refine LH.seqT [(4,.I 8)] [(811,.box [.arr 812 (List.length p0.Records)]),(812,.nest 49 5 [(1,54,5),(2,4,1),(3,88,3)] (List.map Gq2.lv p0.Records))] R ?_ ?_
   ·refine sAi R ?_
    exact s0 (Wk.to (eQ ⟨R,trivial⟩) (mC R (mC (focN hx3).symm mN)) R (prK R))
   refine LH.ret ?_
   refine thenR ?_
   obtain rfl:=oI h
   exact retE (aT Tryz.results59) (lrT R (lr0 ⟨memN (mC R (mC R mN)),R,prK R,Sub.rfl⟩))
  replace h:=iteF h hc6
  refine LH.skip ?_
  refine thenN ?_
  refine LH.wk (Wk.eq (el:=[(3,.sptr [.I p1.Stamp.Time,.I p1.Stamp.Source,.I p1.Stamp.Seq,.I p1.Kind,.I p1.Item.ID,.I p1.Item.Version,.str p1.Item.Stem,.lst 6 (List.map GPart.lv p1.Item.Parts),.L p1.Item.Enemies,.I p1.Ref.ID,.I p1.Ref.Version,.I p1.Form]),(5,.eptr 812 (List.length p0.Records) (j2).toNat 0)]) (ml:=[(811,.box [.arr 812 (List.length p0.Records)]),(812,.nest 49 5 [(1,54,5),(2,4,1),(3,88,3)] ((List.map Gq2.lv p0.Records).set (j2).toNat (.agg [.I x3.ID,.lst 5 (List.map GItem.lv x3.Versions),.lst 1 (List.map LV.bool x3.Approved),.lst 3 (List.map GUse.lv x3.Uses),.bool x3.Withdrawn])))]) R R R R) ?_
  refine LH.seq ?_
  obtain ⟨x7,hx7,h⟩:=bindS h
  refine LH.seqJM mixed [] [0,3,3,3,0,0,0,0,1119,1119] [(3,.sptr [.I p1.Stamp.Time,.I p1.Stamp.Source,.I p1.Stamp.Seq,.I p1.Kind,.I p1.Item.ID,.I p1.Item.Version,.str p1.Item.Stem,.lst 6 (List.map GPart.lv p1.Item.Parts),.L p1.Item.Enemies,.I p1.Ref.ID,.I p1.Ref.Version,.I p1.Form]),(5,.eptr 812 (List.length p0.Records) (j2).toNat 0),(25,.bool x7)] [(811,.box [.arr 812 (List.length p0.Records)]),(812,.nest 49 5 [(1,54,5),(2,4,1),(3,88,3)] ((List.map Gq2.lv p0.Records).set (j2).toNat (.agg [.I x3.ID,.lst 5 (List.map GItem.lv x3.Versions),.lst 1 (List.map LV.bool x3.Approved),.lst 3 (List.map GUse.lv x3.Uses),.bool x3.Withdrawn])))] R R (by kernel_rfl) ?_ ?_
  ·refine mN0 (oM (v:=(.eptr _ _ _ _)) R ⟨R,?_⟩)
   refine mX (ok_ncN R R (by simp) (focAt hx3)) ?_
   refine mX (ok_faN tf49_2 tk46 ts46 R R (by simp) (focAt hx3)) ?_
   refine mX (ok_takeLF (g:=LV.bool) (ys:=x3.Approved) (ls:=List.map Gq2.lv p0.Records) (cs:=[.I x3.ID,.lst 5 (List.map GItem.lv x3.Versions),.lst 1 (List.map LV.bool x3.Approved),.lst 3 (List.map GUse.lv x3.Uses),.bool x3.Withdrawn]) (id2:=119) (cs':=[.I x3.ID,.lst 5 (List.map GItem.lv x3.Versions),.und,.lst 3 (List.map GUse.lv x3.Uses),.bool x3.Withdrawn]) R R (by simp) (focAt hx3) R R R tk46 ta46 R) ?_
   refine mN0 (oFaS tf63_3 tk43 ts43 R R R ⟨R,?_⟩)
   refine mN0 (oFaS tf43_1 tk3 ts3 R R R ⟨R,?_⟩)
   refine mN0 (oLd R tk3 ta3 ⟨R,?_⟩)
   refine mN0 (oSub R R ⟨R,?_⟩)
   refine mD R R R (fun _ b _ d=>oIxA (f:=LV.bool) te46 tk4 ts4 R b R hx7 d) ?_
   refine mD R R R (fun _ b _ d=>oLdE (f:=LV.bool) R b (idxOk hx7).2 R R R tk4 ta4 d) ?_
   exact m0 (Wk.trans (Wk.unlinkF (id:=812) (id2:=119) (o0:=2) (i:=(j2).toNat) (n2:=List.length x3.Approved) (g:=LV.bool) (ys:=x3.Approved) (ls:=List.map Gq2.lv p0.Records) (cs:=[.I x3.ID,.lst 5 (List.map GItem.lv x3.Versions),.und,.lst 3 (List.map GUse.lv x3.Uses),.bool x3.Withdrawn]) (cs':=[.I x3.ID,.lst 5 (List.map GItem.lv x3.Versions),.lst 1 (List.map LV.bool x3.Approved),.lst 3 (List.map GUse.lv x3.Uses),.bool x3.Withdrawn]) R (focAt hx3) R R R R (prN R) R) (Wk.eq R R R R))
  refine LH.cond (t:=x7) R (fun hc8=>?_) (fun hc8=>?_)
  ·replace h:=iteT h hc8
   refine LH.seqT [(4,.I 5)] [(811,.box [.arr 812 (List.length p0.Records)]),(812,.nest 49 5 [(1,54,5),(2,4,1),(3,88,3)] (List.map Gq2.lv p0.Records))] R ?_ ?_
   ·refine sAi R ?_
    exact s0 (Wk.to (eQ ⟨R,trivial⟩) (mC R (mC (focN hx3).symm mN)) R (prK R))
   refine LH.ret ?_
   refine thenR ?_
   obtain rfl:=oI h
   exact retE (aT Tryz.results59) (lrT R (lr0 ⟨memN (mC R (mC R mN)),R,prK R,Sub.rfl⟩))
  replace h:=iteF h hc8
  refine LH.skip ?_
  refine thenN ?_
  obtain ⟨x9,hx9,h⟩:=bindS h
  refine LH.seqJM mixed [] [0,3,3,3,0,0,0,0,1129,100129] [] [(811,.box [.arr 812 (List.length (p0.Records.set (j2).toNat (Gq2.mk x3.ID x3.Versions (x3.Approved.set ((i64 (p1.Ref.Version - 1)).toNat) true) x3.Uses x3.Withdrawn)))]),(812,.nest 49 5 [(1,54,5),(2,4,1),(3,88,3)] (List.map Gq2.lv (p0.Records.set (j2).toNat (Gq2.mk x3.ID x3.Versions (x3.Approved.set ((i64 (p1.Ref.Version - 1)).toNat) true) x3.Uses x3.Withdrawn))))] R R (by kernel_rfl) ?_ ?_
  ·refine mN0 (oM (v:=(.eptr _ _ _ _)) R ⟨R,?_⟩)
   refine mX (ok_ncN R R (by simp) (focAt hx3)) ?_
   refine mX (ok_faN tf49_2 tk46 ts46 R R (by simp) (focAt hx3)) ?_
   refine mX (ok_takeLF (g:=LV.bool) (ys:=x3.Approved) (ls:=List.map Gq2.lv p0.Records) (cs:=[.I x3.ID,.lst 5 (List.map GItem.lv x3.Versions),.lst 1 (List.map LV.bool x3.Approved),.lst 3 (List.map GUse.lv x3.Uses),.bool x3.Withdrawn]) (id2:=129) (cs':=[.I x3.ID,.lst 5 (List.map GItem.lv x3.Versions),.und,.lst 3 (List.map GUse.lv x3.Uses),.bool x3.Withdrawn]) R R (by simp) (focAt hx3) R R R tk46 ta46 R) ?_
   refine mN0 (oFaS tf63_3 tk43 ts43 R R R ⟨R,?_⟩)
   refine mN0 (oFaS tf43_1 tk3 ts3 R R R ⟨R,?_⟩)
   refine mN0 (oLd R tk3 ta3 ⟨R,?_⟩)
   refine mN0 (oSub R R ⟨R,?_⟩)
   refine mD R R R (fun _ b _ d=>oIxA (f:=LV.bool) te46 tk4 ts4 R b R hx9 d) ?_
   refine mS R R R (fun _ b _ d=>oStE (f:=LV.bool) (z':=true) R R R R tk4 ts4 b (idxOk hx9).2 R d) ?_
   exact m0 (Wk.trans (Wk.unlinkF (id:=812) (id2:=129) (o0:=2) (i:=(j2).toNat) (n2:=List.length x3.Approved) (g:=LV.bool) (ys:=(x3.Approved.set ((i64 (p1.Ref.Version - 1)).toNat) true)) (ls:=List.map Gq2.lv p0.Records) (cs:=[.I x3.ID,.lst 5 (List.map GItem.lv x3.Versions),.und,.lst 3 (List.map GUse.lv x3.Uses),.bool x3.Withdrawn]) (cs':=[.I x3.ID,.lst 5 (List.map GItem.lv x3.Versions),.lst 1 (List.map LV.bool (x3.Approved.set ((i64 (p1.Ref.Version - 1)).toNat) true)),.lst 3 (List.map GUse.lv x3.Uses),.bool x3.Withdrawn]) R (focAt hx3) R R R (by simp) (prN R) R) (Wk.to eN (mC ((show _=some (LE.box [.arr 812 (List.length p0.Records)]) from R).trans (by simp)) (mC (unfN R R) mN)) R (prK R)))
  refine LH.seqT [(4,.I 0)] [(811,.box [.arr 812 (List.length (p0.Records.set (j2).toNat (Gq2.mk x3.ID x3.Versions (x3.Approved.set ((i64 (p1.Ref.Version - 1)).toNat) true) x3.Uses x3.Withdrawn)))]),(812,.nest 49 5 [(1,54,5),(2,4,1),(3,88,3)] (List.map Gq2.lv (p0.Records.set (j2).toNat (Gq2.mk x3.ID x3.Versions (x3.Approved.set ((i64 (p1.Ref.Version - 1)).toNat) true) x3.Uses x3.Withdrawn))))] R ?_ ?_
  ·refine sAi R ?_
   exact zS
  refine LH.ret ?_
  obtain rfl:=oI h
  exact retE (aT Tryz.results59) (lrT R (lr0 ⟨memN (mC R (mC R mN)),R,prK R,Sub.rfl⟩))

theorem q242q {p0:GUse} {c0:Gq0} {r:Bool} (h:q190q p0 c0=some r):LCall Tryz.prog 80 [.agg [.I p0.Version,.I p0.Form,.I p0.Time],.sptr (Gq0.lv c0).cells] (Mem.of []) (.bool r) (Mem.of []):=by
  unfold q190q at h
  refine bodyT Tryz.func80 R (nT Tryz.ntmps80 R) (LH.wk (Wk.eq (el:=[(0,.agg [.I p0.Version,.I p0.Form,.I p0.Time]),(1,.sptr (Gq0.lv c0).cells)]) (ml:=[]) R R R R) (LH.seqT [(1,.sptr (Gq0.lv c0).cells),(2,.sptr [.I p0.Version,.I p0.Form,.I p0.Time])] [] R (sB (oBxR R R R R (sAb R zS))) (LH.seqT [(3,.bool (p0.Form == c0.Form))] [] R (sN (oFaS tf88_1 tk3 ts3 R R R (sN (oLd R tk3 ta3 (sN (oFaS tf63_4 tk3 ts3 R R R (sN (oLd R tk3 ta3 (sN (oEq R R (sAb R zS))))))))))) (LH.ret ?_))))
  obtain rfl:=oI h
  exact retE (aT Tryz.results80) (lrT R (lr0 ⟨memN mN,R,prK R,Sub.rfl⟩))

theorem q185q {F:Nat} {p0:List GUse} {p1:(GUse→Option Bool)} {r:Int} {p1_f:Nat} {p1_c:List LV} (p1_i:IsF Tryz.prog p1_f) (p1_q:LV.pureL p1_c=true) (p1_k:∀ (x0:GUse) (q:Bool),p1 x0=some q→LCall Tryz.prog p1_f ([.agg [.I x0.Version,.I x0.Form,.I x0.Time]]++p1_c) (Mem.of []) (.bool q) (Mem.of [])) (h:q62q F p0 p1=some r):LCall Tryz.prog 65 [.lst 3 (List.map GUse.lv p0),.fn p1_f p1_c] (Mem.of []) (.I r) (Mem.of []):=by
  have p1_p:∀ {l:List LV},LV.pureL l=true→LV.pureL (l++p1_c)=true:=pnC p1_q
  have p1_r:LV.refsL p1_c=[]:=refsL_pure p1_q
  unfold q62q at h
  refine bodyT Tryz.func65 R (nT Tryz.ntmps65 R) (LH.wk (Wk.to (el:=[(0,.lst 3 (List.map GUse.lv p0)),(1,.fn p1_f p1_c)]) (ml:=[]) (eQ ⟨R,R,trivial⟩) mN (by simp [keptRefs,LV.refs,LV.refsL,LV.cells,lev,Env.args,Env.of,Env.put,Env.drop,p1_r]) (prK R)) (LH.seqT [(0,.lst 3 (List.map GUse.lv p0)),(1,.fn p1_f p1_c)] [] R (sAi R (s0 (Wk.to (eQ ⟨R,R,trivial⟩) mN (by simp [keptRefs,LV.refs,LV.refsL,LV.cells,lev,Env.args,Env.of,Env.put,Env.drop,p1_r]) (prK R)))) (LH.seq (LH.seqT [(0,.lst 3 (List.map GUse.lv p0)),(1,.fn p1_f p1_c),(7,.I (p0.length:Int)),(8,.I 0)] [] R (sMl R (sN (oLnL (f:=GUse.lv) te47 R (sMi R (s0 (Wk.to (eQ ⟨R,R,R,R,trivial⟩) mN (by simp [keptRefs,LV.refs,LV.refsL,LV.cells,lev,Env.args,Env.of,Env.put,Env.drop,p1_r]) (prK R))))))) (LH.block (LH.loop (fun n e m=>∃ (n1:Int),q8q p0 p1 n n1=some r∧e=Env.of [(0,.lst 3 (List.map GUse.lv p0)),(1,.fn p1_f p1_c),(7,.I (p0.length:Int)),(8,.I n1)]∧m=Mem.of []) F ⟨0,h,R,R⟩ ?_))))))
  clear h
  rintro n e m ⟨n1,h,rfl,rfl⟩
  rcases n with _ | n
  · cases (show Option.none=some _ from h)
  obtain ⟨rec1,hrec1⟩:∃ f,f=q8q p0 p1 n:=⟨_,rfl⟩
  replace h:q16q p0 p1 rec1 n1=some r:=hrec1 ▸ h
  unfold q16q at h
  refine LH.seqT [(0,.lst 3 (List.map GUse.lv p0)),(1,.fn p1_f p1_c),(7,.I (p0.length:Int)),(8,.I n1),(9,.bool (decide (n1<(p0.length:Int))))] [] R (sN (oLt R R (s0 (Wk.to (eQ ⟨R,R,R,R,R,trivial⟩) mN (by simp [keptRefs,LV.refs,LV.refsL,LV.cells,lev,Env.args,Env.of,Env.put,Env.drop,p1_r]) (prK R))))) (LH.seq (LH.cond (t:=(decide (n1<(p0.length:Int)))) R (fun hc2=>?_) (fun hc2=>?_)))
  ·replace h:=iteT h hc2
   refine LH.skip (thenN (LH.wk (Wk.to (el:=[(0,.lst 3 (List.map GUse.lv p0)),(1,.fn p1_f p1_c),(7,.I (p0.length:Int)),(8,.I n1)]) (ml:=[]) (eQ ⟨R,R,R,R,trivial⟩) mN (by simp [keptRefs,LV.refs,LV.refsL,LV.cells,lev,Env.args,Env.of,Env.put,Env.drop,p1_r]) (prK R)) (LH.seq (LH.block (LH.seqT [(0,.lst 3 (List.map GUse.lv p0)),(1,.fn p1_f p1_c),(5,.I n1),(7,.I (p0.length:Int)),(8,.I n1)] [] R (sMi R (sAi R (s0 (Wk.to (eQ ⟨R,R,R,R,R,trivial⟩) mN (by simp [keptRefs,LV.refs,LV.refsL,LV.cells,lev,Env.args,Env.of,Env.put,Env.drop,p1_r]) (prK R))))) ?_)))))
   obtain ⟨x3,hx3,h⟩:=bindS h
   obtain ⟨r4,hr4,h⟩:=bindS h
   refine LH.seqT [(0,.lst 3 (List.map GUse.lv p0)),(1,.fn p1_f p1_c),(5,.I n1),(7,.I (p0.length:Int)),(8,.I n1),(16,.bool r4)] [] R ?_ ?_
   ·refine sN (oM (v:=(.fn _ _)) R (sMl R (sMi R (sN (oIx (f:=GUse.lv) te47 tk88 ts88 R R GUse.ok hx3 R (sN (oLdA R tk88 ta88 ts88 R R (sN (oCP (args:=[.agg [.I x3.Version,.I x3.Form,.I x3.Time]]++p1_c) (args':=[.agg [.I x3.Version,.I x3.Form,.I x3.Time]]++p1_c) R p1_i R SubL.rfl (p1_k _ _ hr4) (p1_p R) ?_)))))))))
    exact s0 (Wk.to (eQ ⟨R,R,R,R,R,R,trivial⟩) mN (by simp [keptRefs,LV.refs,LV.refsL,LV.cells,lev,Env.args,Env.of,Env.put,Env.drop,p1_r]) (prK R))
   refine LH.cond (t:=r4) R (fun hc5=>?_) (fun hc5=>?_)
   ·replace h:=iteT h hc5
    refine LH.seqT [(4,.I n1)] [] R (sMi R (sAi R (s0 (Wk.to (eQ ⟨R,trivial⟩) mN (by simp [keptRefs,LV.refs,LV.refsL,LV.cells,lev,Env.args,Env.of,Env.put,Env.drop,p1_r]) (prK R))))) (LH.ret (blockR (thenR (roundR (blockR (thenR ?_))))))
    obtain rfl:=oI h
    exact retE (aT Tryz.results65) (lrT R (lr0 ⟨memN mN,R,prK R,Sub.rfl⟩))
   replace h:=iteF h hc5
   refine LH.skip (blockN (thenN (LH.loneT [(0,.lst 3 (List.map GUse.lv p0)),(1,.fn p1_f p1_c),(7,.I (p0.length:Int)),(8,.I (i64 (n1+1)))] [] R (sN (oAdd R R (sMi R (s0 (Wk.to (eQ ⟨R,R,R,R,trivial⟩) mN (by simp [keptRefs,LV.refs,LV.refsL,LV.cells,lev,Env.args,Env.of,Env.put,Env.drop,p1_r]) (prK R)))))) ?_)))
   exact roundI ⟨(i64 (n1+1)),hrec1 ▸ h,R,R⟩ (Wk.to (eQ ⟨R,R,R,R,trivial⟩) mN (by simp [keptRefs,LV.refs,LV.refsL,LV.cells,lev,Env.args,Env.of,Env.put,Env.drop,p1_r]) (prK R))
  replace h:=iteF h hc2
  refine LH.exit (thenX (roundX (blockH (thenN (LH.seqT [(4,.I (-1))] [] R (sAi R (s0 (Wk.to (eQ ⟨R,trivial⟩) mN (by simp [keptRefs,LV.refs,LV.refsL,LV.cells,lev,Env.args,Env.of,Env.put,Env.drop,p1_r]) (prK R)))) (LH.ret ?_))))))
  obtain rfl:=oI h
  exact retE (aT Tryz.results65) (lrT R (lr0 ⟨memN mN,R,prK R,Sub.rfl⟩))

theorem q126q {F:Nat} {p0:List GUse} {p1:(GUse→Option Bool)} {r:Bool} {p1_f:Nat} {p1_c:List LV} (p1_i:IsF Tryz.prog p1_f) (p1_q:LV.pureL p1_c=true) (p1_k:∀ (x0:GUse) (q:Bool),p1 x0=some q→LCall Tryz.prog p1_f ([.agg [.I x0.Version,.I x0.Form,.I x0.Time]]++p1_c) (Mem.of []) (.bool q) (Mem.of [])) (h:q13q F p0 p1=some r):LCall Tryz.prog 36 [.lst 3 (List.map GUse.lv p0),.fn p1_f p1_c] (Mem.of []) (.bool r) (Mem.of []):=by
  have p1_p:∀ {l:List LV},LV.pureL l=true→LV.pureL (l++p1_c)=true:=pnC p1_q
  have p1_r:LV.refsL p1_c=[]:=refsL_pure p1_q
  unfold q13q at h
  refine bodyT Tryz.func36 R (nT Tryz.ntmps36 R) (LH.wk (Wk.to (el:=[(0,.lst 3 (List.map GUse.lv p0)),(1,.fn p1_f p1_c)]) (ml:=[]) (eQ ⟨R,R,trivial⟩) mN (by simp [keptRefs,LV.refs,LV.refsL,LV.cells,lev,Env.args,Env.of,Env.put,Env.drop,p1_r]) (prK R)) (LH.seqT [(0,.lst 3 (List.map GUse.lv p0)),(1,.fn p1_f p1_c)] [] R (sAb R (s0 (Wk.to (eQ ⟨R,R,trivial⟩) mN (by simp [keptRefs,LV.refs,LV.refsL,LV.cells,lev,Env.args,Env.of,Env.put,Env.drop,p1_r]) (prK R)))) ?_))
  obtain ⟨r1,hr1,h⟩:=bindS h
  refine LH.seqT [(4,.bool (decide (r1 ≥ 0)))] [] R (sMl R (sN (oM (v:=(.fn _ _)) R (sN (oCP (args:=[.lst 3 (List.map GUse.lv p0),.fn p1_f p1_c]) R isF65 R (sbR (sbR sbN)) (q185q p1_i p1_q p1_k hr1) (by simp [LV.pure,LV.pureL,p1_q]) (sN (oGe R R (sAb R (s0 (Wk.to (eQ ⟨R,trivial⟩) mN (by simp [keptRefs,LV.refs,LV.refsL,LV.cells,lev,Env.args,Env.of,Env.put,Env.drop,p1_r]) (prK R))))))))))) (LH.ret ?_)
  obtain rfl:=oI h
  exact retE (aT Tryz.results36) (lrT R (lr0 ⟨memN mN,R,prK R,Sub.rfl⟩))

theorem q250q {F:Nat} {p0:GBank} {p1:Gq0} {r:Int × GBank} (h:bank_use F p0 p1=some r):LCall Tryz.prog 60 [.ptr 811 0,.agg [.I p1.Stamp.Time,.I p1.Stamp.Source,.I p1.Stamp.Seq,.I p1.Kind,.I p1.Item.ID,.I p1.Item.Version,.str p1.Item.Stem,.lst 6 (List.map GPart.lv p1.Item.Parts),.L p1.Item.Enemies,.I p1.Ref.ID,.I p1.Ref.Version,.I p1.Form]] (Mem.of [(811,.box [.arr 812 (List.length p0.Records)]),(812,.nest 49 5 [(1,54,5),(2,4,1),(3,88,3)] (List.map Gq2.lv p0.Records))]) (.I r.1) (Mem.of [(811,.box [.arr 812 (List.length r.2.Records)]),(812,.nest 49 5 [(1,54,5),(2,4,1),(3,88,3)] (List.map Gq2.lv r.2.Records))]):=by
  unfold bank_use at h
  refine bodyT Tryz.func60 R (nT Tryz.ntmps60 R) ?_
  refine LH.wk (Wk.eq (el:=[(0,.ptr 811 0),(1,.agg [.I p1.Stamp.Time,.I p1.Stamp.Source,.I p1.Stamp.Seq,.I p1.Kind,.I p1.Item.ID,.I p1.Item.Version,.str p1.Item.Stem,.lst 6 (List.map GPart.lv p1.Item.Parts),.L p1.Item.Enemies,.I p1.Ref.ID,.I p1.Ref.Version,.I p1.Form])]) (ml:=[(811,.box [.arr 812 (List.length p0.Records)]),(812,.nest 49 5 [(1,54,5),(2,4,1),(3,88,3)] (List.map Gq2.lv p0.Records))]) R R R R) ?_
  refine LH.seqT [(0,.ptr 811 0),(3,.sptr [.I p1.Stamp.Time,.I p1.Stamp.Source,.I p1.Stamp.Seq,.I p1.Kind,.I p1.Item.ID,.I p1.Item.Version,.str p1.Item.Stem,.lst 6 (List.map GPart.lv p1.Item.Parts),.L p1.Item.Enemies,.I p1.Ref.ID,.I p1.Ref.Version,.I p1.Form])] [(811,.box [.arr 812 (List.length p0.Records)]),(812,.nest 49 5 [(1,54,5),(2,4,1),(3,88,3)] (List.map Gq2.lv p0.Records))] R ?_ ?_
  ·refine sB (oBxR R R R R ?_)
   refine sAi R ?_
   exact zS
  obtain ⟨r1,hr1,h⟩:=bindS h
  refine LH.seqT [(3,.sptr [.I p1.Stamp.Time,.I p1.Stamp.Source,.I p1.Stamp.Seq,.I p1.Kind,.I p1.Item.ID,.I p1.Item.Version,.str p1.Item.Stem,.lst 6 (List.map GPart.lv p1.Item.Parts),.L p1.Item.Enemies,.I p1.Ref.ID,.I p1.Ref.Version,.I p1.Form]),(5,optP 812 (List.length p0.Records) r1)] [(811,.box [.arr 812 (List.length p0.Records)]),(812,.nest 49 5 [(1,54,5),(2,4,1),(3,88,3)] (List.map Gq2.lv p0.Records))] R ?_ ?_
  ·refine sMp R ?_
   refine sN (oFaS tf63_3 tk43 ts43 R R R ?_)
   refine sN (oLdA R tk43 ta43 ts43 R R ?_)
   refine sN (oCM (args:=[.ptr 811 0,.agg [.I p1.Ref.ID,.I p1.Ref.Version]]) (ml:=[(811,.box [.arr 812 (List.length p0.Records)]),(812,.nest 49 5 [(1,54,5),(2,4,1),(3,88,3)] (List.map Gq2.lv p0.Records))]) (ml':=[(811,.box [.arr 812 (List.length p0.Records)]),(812,.nest 49 5 [(1,54,5),(2,4,1),(3,88,3)] (List.map Gq2.lv p0.Records))]) R isF79 R (sbR (sbR sbN)) (q197q hr1) ⟨R,R,trivial⟩ (newI R (newI R newN)) R ?_)
   refine sN (oA (v:=(optP _ _ _)) R ?_)
   exact s0 (Wk.to (eQ ⟨R,R,trivial⟩) ⟨R,R,trivial⟩ (by rcases r1 with _ | _ <;> exact R) (prK R))
  rcases r1 with _ | j2
  ·replace h:=optN h
   refine LH.wk (Wk.eq (el:=[(3,.sptr [.I p1.Stamp.Time,.I p1.Stamp.Source,.I p1.Stamp.Seq,.I p1.Kind,.I p1.Item.ID,.I p1.Item.Version,.str p1.Item.Stem,.lst 6 (List.map GPart.lv p1.Item.Parts),.L p1.Item.Enemies,.I p1.Ref.ID,.I p1.Ref.Version,.I p1.Form]),(5,.nilp)]) (ml:=[(811,.box [.arr 812 (List.length p0.Records)]),(812,.nest 49 5 [(1,54,5),(2,4,1),(3,88,3)] (List.map Gq2.lv p0.Records))]) R R R R) ?_
   refine LH.seq ?_
   refine LH.seqT [(3,.sptr [.I p1.Stamp.Time,.I p1.Stamp.Source,.I p1.Stamp.Seq,.I p1.Kind,.I p1.Item.ID,.I p1.Item.Version,.str p1.Item.Stem,.lst 6 (List.map GPart.lv p1.Item.Parts),.L p1.Item.Enemies,.I p1.Ref.ID,.I p1.Ref.Version,.I p1.Form]),(5,.nilp),(11,.bool true)] [(811,.box [.arr 812 (List.length p0.Records)]),(812,.nest 49 5 [(1,54,5),(2,4,1),(3,88,3)] (List.map Gq2.lv p0.Records))] R ?_ ?_
   ·refine sN (oM (v:=.nilp) R ?_)
    refine sX ((ok_pNN tq127 R R).ok) ?_
    exact zS
   refine LH.cond (t:=true) R (fun hc4=>?_) (fun hc4=>?_)
   ·refine LH.seqT [(4,.I 4)] [(811,.box [.arr 812 (List.length p0.Records)]),(812,.nest 49 5 [(1,54,5),(2,4,1),(3,88,3)] (List.map Gq2.lv p0.Records))] R ?_ ?_
    ·refine sAi R ?_
     exact zS
    refine LH.ret ?_
    refine thenR ?_
    obtain rfl:=oI h
    exact retE (aT Tryz.results60) (lrT R (lr0 ⟨memN (mC R (mC R mN)),R,prK R,Sub.rfl⟩))
   ·cases hc4
  replace h:=optS h
  obtain ⟨x3,hx3,h⟩:=bindS h
  refine LH.wk (Wk.to (el:=[(3,.sptr [.I p1.Stamp.Time,.I p1.Stamp.Source,.I p1.Stamp.Seq,.I p1.Kind,.I p1.Item.ID,.I p1.Item.Version,.str p1.Item.Stem,.lst 6 (List.map GPart.lv p1.Item.Parts),.L p1.Item.Enemies,.I p1.Ref.ID,.I p1.Ref.Version,.I p1.Form]),(5,.eptr 812 (List.length p0.Records) (j2).toNat 0)]) (ml:=[(811,.box [.arr 812 (List.length p0.Records)]),(812,.nest 49 5 [(1,54,5),(2,4,1),(3,88,3)] ((List.map Gq2.lv p0.Records).set (j2).toNat (.agg [.I x3.ID,.lst 5 (List.map GItem.lv x3.Versions),.lst 1 (List.map LV.bool x3.Approved),.lst 3 (List.map GUse.lv x3.Uses),.bool x3.Withdrawn])))]) (eQ ⟨R,R,trivial⟩) (mC R (mC (focN hx3) mN)) R (prK R)) ?_
  refine LH.seq ?_
  refine LH.seqT [(3,.sptr [.I p1.Stamp.Time,.I p1.Stamp.Source,.I p1.Stamp.Seq,.I p1.Kind,.I p1.Item.ID,.I p1.Item.Version,.str p1.Item.Stem,.lst 6 (List.map GPart.lv p1.Item.Parts),.L p1.Item.Enemies,.I p1.Ref.ID,.I p1.Ref.Version,.I p1.Form]),(5,.eptr 812 (List.length p0.Records) (j2).toNat 0),(11,.bool false)] [(811,.box [.arr 812 (List.length p0.Records)]),(812,.nest 49 5 [(1,54,5),(2,4,1),(3,88,3)] ((List.map Gq2.lv p0.Records).set (j2).toNat (.agg [.I x3.ID,.lst 5 (List.map GItem.lv x3.Versions),.lst 1 (List.map LV.bool x3.Approved),.lst 3 (List.map GUse.lv x3.Uses),.bool x3.Withdrawn])))] R ?_ ?_
  ·refine sN (oM (v:=(.eptr _ _ _ _)) R ?_)
   refine sX ((ok_pEN tq127 R R R (by simp) (focAt hx3)).ok) ?_
   exact zS
  refine LH.cond (t:=false) R (fun hc5=>?_) (fun hc5=>?_)
  ·cases hc5
  refine LH.skip ?_
  refine thenN ?_
  refine LH.wk (Wk.eq (el:=[(3,.sptr [.I p1.Stamp.Time,.I p1.Stamp.Source,.I p1.Stamp.Seq,.I p1.Kind,.I p1.Item.ID,.I p1.Item.Version,.str p1.Item.Stem,.lst 6 (List.map GPart.lv p1.Item.Parts),.L p1.Item.Enemies,.I p1.Ref.ID,.I p1.Ref.Version,.I p1.Form]),(5,.eptr 812 (List.length p0.Records) (j2).toNat 0)]) (ml:=[(811,.box [.arr 812 (List.length p0.Records)]),(812,.nest 49 5 [(1,54,5),(2,4,1),(3,88,3)] ((List.map Gq2.lv p0.Records).set (j2).toNat (.agg [.I x3.ID,.lst 5 (List.map GItem.lv x3.Versions),.lst 1 (List.map LV.bool x3.Approved),.lst 3 (List.map GUse.lv x3.Uses),.bool x3.Withdrawn])))]) R R R R) ?_
  refine LH.seq ?_
  obtain ⟨w7,hv,h⟩:=bindS h
  refine LH.seqJM mixed [] [0,3,3,3,0,0,3,3,3,0,0,0,0,1,1,0,0] [(3,.sptr [.I p1.Stamp.Time,.I p1.Stamp.Source,.I p1.Stamp.Seq,.I p1.Kind,.I p1.Item.ID,.I p1.Item.Version,.str p1.Item.Stem,.lst 6 (List.map GPart.lv p1.Item.Parts),.L p1.Item.Enemies,.I p1.Ref.ID,.I p1.Ref.Version,.I p1.Form]),(5,.eptr 812 (List.length p0.Records) (j2).toNat 0),(28,.bool w7)] [(811,.box [.arr 812 (List.length p0.Records)]),(812,.nest 49 5 [(1,54,5),(2,4,1),(3,88,3)] ((List.map Gq2.lv p0.Records).set (j2).toNat (.agg [.I x3.ID,.lst 5 (List.map GItem.lv x3.Versions),.lst 1 (List.map LV.bool x3.Approved),.lst 3 (List.map GUse.lv x3.Uses),.bool x3.Withdrawn])))] R R (by kernel_rfl) ?_ ?_
  ·refine mN0 (oM (v:=(.eptr _ _ _ _)) R ⟨R,?_⟩)
   refine mX (ok_ncN R R (by simp) (focAt hx3)) ?_
   refine mX (ok_faN tf49_4 tk4 ts4 R R (by simp) (focAt hx3)) ?_
   refine mX (ok_ldN (cs:=[.I x3.ID,.lst 5 (List.map GItem.lv x3.Versions),.lst 1 (List.map LV.bool x3.Approved),.lst 3 (List.map GUse.lv x3.Uses),.bool x3.Withdrawn]) R R (by simp) (focAt hx3) R R tk4 ta4) ?_
   refine mMb R ?_
   by_cases hb8:x3.Withdrawn=true
   ·replace hv:=iteT hv hb8
    refine mF R R hb8 ?_
    refine mF R R hb8 ?_
    refine mF R R hb8 ?_
    refine mF R R hb8 ?_
    refine mF R R hb8 ?_
    refine mF R R hb8 ?_
    refine mF R R hb8 ?_
    refine mF R R hb8 ?_
    refine mF R R hb8 ?_
    refine mF R R hb8 ?_
    refine mF R R hb8 ?_
    refine mN0 (oPkT (cB hb8) (v:=(.bool _)) R ⟨R,?_⟩)
    obtain rfl:=oI hv
    exact zM
   ·replace hb8:=bF hb8
    replace hv:=iteF hv hb8
    refine mT R (cB hb8) (mN0 (oM (v:=(.eptr _ _ _ _)) R ⟨R,?_⟩))
    refine mT R (cB hb8) (mX (ok_ncN R R (by simp) (focAt hx3)) ?_)
    refine mT R (cB hb8) (mX (ok_faN tf49_2 tk46 ts46 R R (by simp) (focAt hx3)) ?_)
    refine mT R (cB hb8) (mX (ok_takeLF (g:=LV.bool) (ys:=x3.Approved) (ls:=List.map Gq2.lv p0.Records) (cs:=[.I x3.ID,.lst 5 (List.map GItem.lv x3.Versions),.lst 1 (List.map LV.bool x3.Approved),.lst 3 (List.map GUse.lv x3.Uses),.bool x3.Withdrawn]) (id2:=120) (cs':=[.I x3.ID,.lst 5 (List.map GItem.lv x3.Versions),.und,.lst 3 (List.map GUse.lv x3.Uses),.bool x3.Withdrawn]) R R (by simp) (focAt hx3) R R R tk46 ta46 R) ?_)
    refine mT R (cB hb8) (mN0 (oFaS tf63_3 tk43 ts43 R R R ⟨R,?_⟩))
    refine mT R (cB hb8) (mN0 (oFaS tf43_1 tk3 ts3 R R R ⟨R,?_⟩))
    refine mT R (cB hb8) (mN0 (oLd R tk3 ta3 ⟨R,?_⟩))
    refine mT R (cB hb8) (mN0 (oSub R R ⟨R,?_⟩))
    obtain ⟨x9,hx9,hv⟩:=bindS hv
    refine mT R (cB hb8) (mN1 (oIxA (f:=LV.bool) te46 tk4 ts4 R R R hx9 ⟨R,?_⟩))
    refine mT R (cB hb8) (mN1 (oLdE (f:=LV.bool) R R (idxOk hx9).2 R R R tk4 ta4 ⟨R,?_⟩))
    refine mT R (cB hb8) (mN0 (oNot R ⟨R,?_⟩))
    refine mN0 (oPkF (cB hb8) (v:=(.bool _)) R ⟨R,?_⟩)
    obtain rfl:=oI hv
    exact m0 (Wk.trans (Wk.unlinkF (id:=812) (id2:=120) (o0:=2) (i:=(j2).toNat) (n2:=List.length x3.Approved) (g:=LV.bool) (ys:=x3.Approved) (ls:=List.map Gq2.lv p0.Records) (cs:=[.I x3.ID,.lst 5 (List.map GItem.lv x3.Versions),.und,.lst 3 (List.map GUse.lv x3.Uses),.bool x3.Withdrawn]) (cs':=[.I x3.ID,.lst 5 (List.map GItem.lv x3.Versions),.lst 1 (List.map LV.bool x3.Approved),.lst 3 (List.map GUse.lv x3.Uses),.bool x3.Withdrawn]) R (focAt hx3) R R R R (prN R) R) (Wk.eq R R R R))
  clear hv
  refine LH.cond (t:=w7) R (fun hc10=>?_) (fun hc10=>?_)
  ·replace h:=iteT h hc10
   refine LH.seqT [(4,.I 8)] [(811,.box [.arr 812 (List.length p0.Records)]),(812,.nest 49 5 [(1,54,5),(2,4,1),(3,88,3)] (List.map Gq2.lv p0.Records))] R ?_ ?_
   ·refine sAi R ?_
    exact s0 (Wk.to (eQ ⟨R,trivial⟩) (mC R (mC (focN hx3).symm mN)) R (prK R))
   refine LH.ret ?_
   refine thenR ?_
   obtain rfl:=oI h
   exact retE (aT Tryz.results60) (lrT R (lr0 ⟨memN (mC R (mC R mN)),R,prK R,Sub.rfl⟩))
  replace h:=iteF h hc10
  refine LH.skip ?_
  refine thenN ?_
  refine LH.wk (Wk.eq (el:=[(3,.sptr [.I p1.Stamp.Time,.I p1.Stamp.Source,.I p1.Stamp.Seq,.I p1.Kind,.I p1.Item.ID,.I p1.Item.Version,.str p1.Item.Stem,.lst 6 (List.map GPart.lv p1.Item.Parts),.L p1.Item.Enemies,.I p1.Ref.ID,.I p1.Ref.Version,.I p1.Form]),(5,.eptr 812 (List.length p0.Records) (j2).toNat 0)]) (ml:=[(811,.box [.arr 812 (List.length p0.Records)]),(812,.nest 49 5 [(1,54,5),(2,4,1),(3,88,3)] ((List.map Gq2.lv p0.Records).set (j2).toNat (.agg [.I x3.ID,.lst 5 (List.map GItem.lv x3.Versions),.lst 1 (List.map LV.bool x3.Approved),.lst 3 (List.map GUse.lv x3.Uses),.bool x3.Withdrawn])))]) R R R R) ?_
  refine LH.seq ?_
  obtain ⟨r11,hr11,h⟩:=bindS h
  refine LH.seqT [(3,.sptr [.I p1.Stamp.Time,.I p1.Stamp.Source,.I p1.Stamp.Seq,.I p1.Kind,.I p1.Item.ID,.I p1.Item.Version,.str p1.Item.Stem,.lst 6 (List.map GPart.lv p1.Item.Parts),.L p1.Item.Enemies,.I p1.Ref.ID,.I p1.Ref.Version,.I p1.Form]),(5,.eptr 812 (List.length p0.Records) (j2).toNat 0),(34,.bool r11)] [(811,.box [.arr 812 (List.length p0.Records)]),(812,.nest 49 5 [(1,54,5),(2,4,1),(3,88,3)] ((List.map Gq2.lv p0.Records).set (j2).toNat (.agg [.I x3.ID,.lst 5 (List.map GItem.lv x3.Versions),.lst 1 (List.map LV.bool x3.Approved),.lst 3 (List.map GUse.lv x3.Uses),.bool x3.Withdrawn])))] R ?_ ?_
  ·refine sN (oM (v:=(.eptr _ _ _ _)) R ?_)
   refine sX ((ok_ncN R R (by simp) (focAt hx3)).ok) ?_
   refine sX ((ok_faN tf49_3 tk47 ts47 R R (by simp) (focAt hx3)).ok) ?_
   refine sX ((ok_takeLF (g:=GUse.lv) (ys:=x3.Uses) (ls:=List.map Gq2.lv p0.Records) (cs:=[.I x3.ID,.lst 5 (List.map GItem.lv x3.Versions),.lst 1 (List.map LV.bool x3.Approved),.lst 3 (List.map GUse.lv x3.Uses),.bool x3.Withdrawn]) (id2:=132) (cs':=[.I x3.ID,.lst 5 (List.map GItem.lv x3.Versions),.lst 1 (List.map LV.bool x3.Approved),.und,.bool x3.Withdrawn]) R R (by simp) (focAt hx3) R R R tk47 ta47 R).ok) ?_
   refine sN (oMF (vs:=[.sptr [.I p1.Stamp.Time,.I p1.Stamp.Source,.I p1.Stamp.Seq,.I p1.Kind,.I p1.Item.ID,.I p1.Item.Version,.str p1.Item.Stem,.lst 6 (List.map GPart.lv p1.Item.Parts),.L p1.Item.Enemies,.I p1.Ref.ID,.I p1.Ref.Version,.I p1.Form]]) R ?_)
   refine sN (oCM (args:=[.arr 132 (List.length x3.Uses),.fn 80 [.sptr [.I p1.Stamp.Time,.I p1.Stamp.Source,.I p1.Stamp.Seq,.I p1.Kind,.I p1.Item.ID,.I p1.Item.Version,.str p1.Item.Stem,.lst 6 (List.map GPart.lv p1.Item.Parts),.L p1.Item.Enemies,.I p1.Ref.ID,.I p1.Ref.Version,.I p1.Form]]]) (ml:=[(132,.arr 88 3 (List.map GUse.lv x3.Uses))]) (ml':=[(132,.arr 88 3 (List.map GUse.lv x3.Uses))]) R isF36 R (sbR (sbR sbN)) (LCall.lend 132 88 3 (xs:=List.map GUse.lv x3.Uses) (q126q (p1_f:=80) (p1_c:=[.sptr [.I p1.Stamp.Time,.I p1.Stamp.Source,.I p1.Stamp.Seq,.I p1.Kind,.I p1.Item.ID,.I p1.Item.Version,.str p1.Item.Stem,.lst 6 (List.map GPart.lv p1.Item.Parts),.L p1.Item.Enemies,.I p1.Ref.ID,.I p1.Ref.Version,.I p1.Form]]) isF80 R (fun _ _ h=>q242q h) hr11) (.row (by simp) (.keep R .nil)) R R R R R plN) ⟨R,trivial⟩ (newI R newN) R ?_)
   exact s0 (Wk.trans (Wk.unlinkF (id:=812) (id2:=132) (o0:=3) (i:=(j2).toNat) (n2:=List.length x3.Uses) (g:=GUse.lv) (ys:=x3.Uses) (ls:=List.map Gq2.lv p0.Records) (cs:=[.I x3.ID,.lst 5 (List.map GItem.lv x3.Versions),.lst 1 (List.map LV.bool x3.Approved),.und,.bool x3.Withdrawn]) (cs':=[.I x3.ID,.lst 5 (List.map GItem.lv x3.Versions),.lst 1 (List.map LV.bool x3.Approved),.lst 3 (List.map GUse.lv x3.Uses),.bool x3.Withdrawn]) R (focAt hx3) R R R R (prN R) R) (Wk.eq R R R R))
  refine LH.cond (t:=r11) R (fun hc12=>?_) (fun hc12=>?_)
  ·replace h:=iteT h hc12
   refine LH.seqT [(4,.I 5)] [(811,.box [.arr 812 (List.length p0.Records)]),(812,.nest 49 5 [(1,54,5),(2,4,1),(3,88,3)] (List.map Gq2.lv p0.Records))] R ?_ ?_
   ·refine sAi R ?_
    exact s0 (Wk.to (eQ ⟨R,trivial⟩) (mC R (mC (focN hx3).symm mN)) R (prK R))
   refine LH.ret ?_
   refine thenR ?_
   obtain rfl:=oI h
   exact retE (aT Tryz.results60) (lrT R (lr0 ⟨memN (mC R (mC R mN)),R,prK R,Sub.rfl⟩))
  replace h:=iteF h hc12
  refine LH.skip ?_
  refine thenN ?_
  refine LH.wk (Wk.eq (el:=[(3,.sptr [.I p1.Stamp.Time,.I p1.Stamp.Source,.I p1.Stamp.Seq,.I p1.Kind,.I p1.Item.ID,.I p1.Item.Version,.str p1.Item.Stem,.lst 6 (List.map GPart.lv p1.Item.Parts),.L p1.Item.Enemies,.I p1.Ref.ID,.I p1.Ref.Version,.I p1.Form]),(5,.eptr 812 (List.length p0.Records) (j2).toNat 0)]) (ml:=[(811,.box [.arr 812 (List.length p0.Records)]),(812,.nest 49 5 [(1,54,5),(2,4,1),(3,88,3)] ((List.map Gq2.lv p0.Records).set (j2).toNat (.agg [.I x3.ID,.lst 5 (List.map GItem.lv x3.Versions),.lst 1 (List.map LV.bool x3.Approved),.lst 3 (List.map GUse.lv x3.Uses),.bool x3.Withdrawn])))]) R R R R) ?_
  refine LH.seq ?_
  refine LH.seqT [(3,.sptr [.I p1.Stamp.Time,.I p1.Stamp.Source,.I p1.Stamp.Seq,.I p1.Kind,.I p1.Item.ID,.I p1.Item.Version,.str p1.Item.Stem,.lst 6 (List.map GPart.lv p1.Item.Parts),.L p1.Item.Enemies,.I p1.Ref.ID,.I p1.Ref.Version,.I p1.Form]),(5,.eptr 812 (List.length p0.Records) (j2).toNat 0),(40,.bool (decide ((x3.Uses.length:Int) ≥ 300)))] [(811,.box [.arr 812 (List.length p0.Records)]),(812,.nest 49 5 [(1,54,5),(2,4,1),(3,88,3)] ((List.map Gq2.lv p0.Records).set (j2).toNat (.agg [.I x3.ID,.lst 5 (List.map GItem.lv x3.Versions),.lst 1 (List.map LV.bool x3.Approved),.lst 3 (List.map GUse.lv x3.Uses),.bool x3.Withdrawn])))] R ?_ ?_
  ·refine sN (oM (v:=(.eptr _ _ _ _)) R ?_)
   refine sX ((ok_ncN R R (by simp) (focAt hx3)).ok) ?_
   refine sX ((ok_faN tf49_3 tk47 ts47 R R (by simp) (focAt hx3)).ok) ?_
   refine sX ((ok_lnF (g:=GUse.lv) (ys:=x3.Uses) (cs:=[.I x3.ID,.lst 5 (List.map GItem.lv x3.Versions),.lst 1 (List.map LV.bool x3.Approved),.lst 3 (List.map GUse.lv x3.Uses),.bool x3.Withdrawn]) R R (by simp) (focAt hx3) R R tk47 ta47).ok) ?_
   refine sX ((ok_lenS te47 R).ok) ?_
   refine sN (oGe R R ?_)
   exact zS
  refine LH.cond (t:=(decide ((x3.Uses.length:Int) ≥ 300))) R (fun hc13=>?_) (fun hc13=>?_)
  ·replace h:=iteT h hc13
   refine LH.seqT [(4,.I 3)] [(811,.box [.arr 812 (List.length p0.Records)]),(812,.nest 49 5 [(1,54,5),(2,4,1),(3,88,3)] (List.map Gq2.lv p0.Records))] R ?_ ?_
   ·refine sAi R ?_
    exact s0 (Wk.to (eQ ⟨R,trivial⟩) (mC R (mC (focN hx3).symm mN)) R (prK R))
   refine LH.ret ?_
   refine thenR ?_
   obtain rfl:=oI h
   exact retE (aT Tryz.results60) (lrT R (lr0 ⟨memN (mC R (mC R mN)),R,prK R,Sub.rfl⟩))
  replace h:=iteF h hc13
  refine LH.skip ?_
  refine thenN ?_
  obtain ⟨v14,hv14,h⟩:=bindS h
  refine LH.seqJM mixed [] [0,0,3,3,3,0,0,0,0,0,0,0,0,0,0,2,3,3,3] [] [(811,.box [.arr 812 (List.length (p0.Records.set (j2).toNat (Gq2.mk x3.ID x3.Versions x3.Approved v14 x3.Withdrawn)))]),(812,.nest 49 5 [(1,54,5),(2,4,1),(3,88,3)] (List.map Gq2.lv (p0.Records.set (j2).toNat (Gq2.mk x3.ID x3.Versions x3.Approved v14 x3.Withdrawn))))] R R (by kernel_rfl) ?_ ?_
  ·refine mN0 (oM (v:=(.eptr _ _ _ _)) R ⟨R,?_⟩)
   refine mN0 (oM (v:=(.eptr _ _ _ _)) R ⟨R,?_⟩)
   refine mX (ok_ncN R R (by simp) (focAt hx3)) ?_
   refine mX (ok_faN tf49_3 tk47 ts47 R R (by simp) (focAt hx3)) ?_
   refine mX (ok_takeF (g:=GUse.lv) (ys:=x3.Uses) (ls:=List.map Gq2.lv p0.Records) (cs:=[.I x3.ID,.lst 5 (List.map GItem.lv x3.Versions),.lst 1 (List.map LV.bool x3.Approved),.lst 3 (List.map GUse.lv x3.Uses),.bool x3.Withdrawn]) (id2:=145) (cs':=[.I x3.ID,.lst 5 (List.map GItem.lv x3.Versions),.lst 1 (List.map LV.bool x3.Approved),.und,.bool x3.Withdrawn]) R R (by simp) (focAt hx3) R R R tk47 ta47 R) ?_
   refine mN0 (oFaS tf63_3 tk43 ts43 R R R ⟨R,?_⟩)
   refine mN0 (oFaS tf43_1 tk3 ts3 R R R ⟨R,?_⟩)
   refine mN0 (oLd R tk3 ta3 ⟨R,?_⟩)
   refine mN0 (oFaS tf63_4 tk3 ts3 R R R ⟨R,?_⟩)
   refine mN0 (oLd R tk3 ta3 ⟨R,?_⟩)
   refine mN0 (oFaS tf63_0 tk61 ts61 R R R ⟨R,?_⟩)
   refine mN0 (oFaS tf61_0 tk3 ts3 R R R ⟨R,?_⟩)
   refine mN0 (oLd R tk3 ta3 ⟨R,?_⟩)
   refine mN0 (oBd (vs:=[(0,.I p1.Ref.Version),(1,.I p1.Form),(2,.I p1.Stamp.Time)]) tu88 tz88 R (lf tf88_0 ts3 tk3 R R R (lf tf88_1 ts3 tk3 R R R (lf tf88_2 ts3 tk3 R R R lf0))) ⟨R,?_⟩)
   refine mN0 (oBS (f:=GUse.lv) (ys:=[(GUse.mk p1.Ref.Version p1.Form p1.Stamp.Time)]) te47 tr88 ts88 R R R GUse.ok ⟨R,?_⟩)
   refine mN2 (oAp (f:=GUse.lv) te47 tr88 ts88 R R (prN R) R hv14 ?_)
   refine mX (ok_ncN R R (by simp) (focAt hx3)) ?_
   refine mX (ok_faN tf49_3 tk47 ts47 R R (by simp) (focAt hx3)) ?_
   refine mX_ (ok_putF (g:=GUse.lv) (ys:=v14) (ls:=List.map Gq2.lv p0.Records) (cs:=[.I x3.ID,.lst 5 (List.map GItem.lv x3.Versions),.lst 1 (List.map LV.bool x3.Approved),.und,.bool x3.Withdrawn]) (cs':=[.I x3.ID,.lst 5 (List.map GItem.lv x3.Versions),.lst 1 (List.map LV.bool x3.Approved),.lst 3 (List.map GUse.lv v14),.bool x3.Withdrawn]) R R (by simp) (focAt hx3) R R R R R (prN R) tk47 ts47 R) ?_
   exact m0 (Wk.to eN (mC ((show _=some (LE.box [.arr 812 (List.length p0.Records)]) from R).trans (by simp)) (mC (unfN R R) mN)) R (prK R))
  refine LH.seqT [(4,.I 0)] [(811,.box [.arr 812 (List.length (p0.Records.set (j2).toNat (Gq2.mk x3.ID x3.Versions x3.Approved v14 x3.Withdrawn)))]),(812,.nest 49 5 [(1,54,5),(2,4,1),(3,88,3)] (List.map Gq2.lv (p0.Records.set (j2).toNat (Gq2.mk x3.ID x3.Versions x3.Approved v14 x3.Withdrawn))))] R ?_ ?_
  ·refine sAi R ?_
   exact zS
  refine LH.ret ?_
  obtain rfl:=oI h
  exact retE (aT Tryz.results60) (lrT R (lr0 ⟨memN (mC R (mC R mN)),R,prK R,Sub.rfl⟩))

theorem q167q {F:Nat} {p0:GBank} {p1:Gq0} {c0:Bool} {r:Int × GBank} (h:q35q F p0 p1 c0=some r):LCall Tryz.prog 81 [.ptr 811 0,.agg [.I p1.Stamp.Time,.I p1.Stamp.Source,.I p1.Stamp.Seq,.I p1.Kind,.I p1.Item.ID,.I p1.Item.Version,.str p1.Item.Stem,.lst 6 (List.map GPart.lv p1.Item.Parts),.L p1.Item.Enemies,.I p1.Ref.ID,.I p1.Ref.Version,.I p1.Form],.sptr [.bool c0]] (Mem.of [(811,.box [.arr 812 (List.length p0.Records)]),(812,.nest 49 5 [(1,54,5),(2,4,1),(3,88,3)] (List.map Gq2.lv p0.Records))]) (.I r.1) (Mem.of [(811,.box [.arr 812 (List.length r.2.Records)]),(812,.nest 49 5 [(1,54,5),(2,4,1),(3,88,3)] (List.map Gq2.lv r.2.Records))]):=by
  unfold q35q at h
  refine bodyT Tryz.func81 R (nT Tryz.ntmps81 R) ?_
  refine LH.wk (Wk.eq (el:=[(0,.ptr 811 0),(1,.agg [.I p1.Stamp.Time,.I p1.Stamp.Source,.I p1.Stamp.Seq,.I p1.Kind,.I p1.Item.ID,.I p1.Item.Version,.str p1.Item.Stem,.lst 6 (List.map GPart.lv p1.Item.Parts),.L p1.Item.Enemies,.I p1.Ref.ID,.I p1.Ref.Version,.I p1.Form]),(2,.sptr [.bool c0])]) (ml:=[(811,.box [.arr 812 (List.length p0.Records)]),(812,.nest 49 5 [(1,54,5),(2,4,1),(3,88,3)] (List.map Gq2.lv p0.Records))]) R R R R) ?_
  refine LH.seqT [(0,.ptr 811 0),(2,.sptr [.bool c0]),(4,.sptr [.I p1.Stamp.Time,.I p1.Stamp.Source,.I p1.Stamp.Seq,.I p1.Kind,.I p1.Item.ID,.I p1.Item.Version,.str p1.Item.Stem,.lst 6 (List.map GPart.lv p1.Item.Parts),.L p1.Item.Enemies,.I p1.Ref.ID,.I p1.Ref.Version,.I p1.Form])] [(811,.box [.arr 812 (List.length p0.Records)]),(812,.nest 49 5 [(1,54,5),(2,4,1),(3,88,3)] (List.map Gq2.lv p0.Records))] R ?_ ?_
  ·refine sB (oBxR R R R R ?_)
   refine sAi R ?_
   exact zS
  obtain ⟨r1,hr1,h⟩:=bindS h
  refine LH.seqT [(2,.sptr [.bool c0]),(6,optP 812 (List.length p0.Records) r1)] [(811,.box [.arr 812 (List.length p0.Records)]),(812,.nest 49 5 [(1,54,5),(2,4,1),(3,88,3)] (List.map Gq2.lv p0.Records))] R ?_ ?_
  ·refine sMp R ?_
   refine sN (oFaS tf63_3 tk43 ts43 R R R ?_)
   refine sN (oFaS tf43_0 tk3 ts3 R R R ?_)
   refine sN (oLd R tk3 ta3 ?_)
   refine sN (oCM (args:=[.ptr 811 0,.I p1.Ref.ID]) (ml:=[(811,.box [.arr 812 (List.length p0.Records)]),(812,.nest 49 5 [(1,54,5),(2,4,1),(3,88,3)] (List.map Gq2.lv p0.Records))]) (ml':=[(811,.box [.arr 812 (List.length p0.Records)]),(812,.nest 49 5 [(1,54,5),(2,4,1),(3,88,3)] (List.map Gq2.lv p0.Records))]) R isF78 R (sbR (sbR sbN)) (q182q hr1) ⟨R,R,trivial⟩ (newI R (newI R newN)) R ?_)
   refine sN (oA (v:=(optP _ _ _)) R ?_)
   exact s0 (Wk.to (eQ ⟨R,R,trivial⟩) ⟨R,R,trivial⟩ (by rcases r1 with _ | _ <;> exact R) (prK R))
  rcases r1 with _ | j2
  ·replace h:=optN h
   refine LH.wk (Wk.eq (el:=[(2,.sptr [.bool c0]),(6,.nilp)]) (ml:=[(811,.box [.arr 812 (List.length p0.Records)]),(812,.nest 49 5 [(1,54,5),(2,4,1),(3,88,3)] (List.map Gq2.lv p0.Records))]) R R R R) ?_
   refine LH.seq ?_
   refine LH.seqT [(2,.sptr [.bool c0]),(6,.nilp),(13,.bool true)] [(811,.box [.arr 812 (List.length p0.Records)]),(812,.nest 49 5 [(1,54,5),(2,4,1),(3,88,3)] (List.map Gq2.lv p0.Records))] R ?_ ?_
   ·refine sN (oM (v:=.nilp) R ?_)
    refine sX ((ok_pNN tq127 R R).ok) ?_
    exact zS
   refine LH.cond (t:=true) R (fun hc4=>?_) (fun hc4=>?_)
   ·refine LH.seqT [(5,.I 4)] [(811,.box [.arr 812 (List.length p0.Records)]),(812,.nest 49 5 [(1,54,5),(2,4,1),(3,88,3)] (List.map Gq2.lv p0.Records))] R ?_ ?_
    ·refine sAi R ?_
     exact zS
    refine LH.ret ?_
    refine thenR ?_
    obtain rfl:=oI h
    exact retE (aT Tryz.results81) (lrT R (lr0 ⟨memN (mC R (mC R mN)),R,prK R,Sub.rfl⟩))
   ·cases hc4
  replace h:=optS h
  obtain ⟨x3,hx3,h⟩:=bindS h
  refine LH.wk (Wk.to (el:=[(2,.sptr [.bool c0]),(6,.eptr 812 (List.length p0.Records) (j2).toNat 0)]) (ml:=[(811,.box [.arr 812 (List.length p0.Records)]),(812,.nest 49 5 [(1,54,5),(2,4,1),(3,88,3)] ((List.map Gq2.lv p0.Records).set (j2).toNat (.agg [.I x3.ID,.lst 5 (List.map GItem.lv x3.Versions),.lst 1 (List.map LV.bool x3.Approved),.lst 3 (List.map GUse.lv x3.Uses),.bool x3.Withdrawn])))]) (eQ ⟨R,R,trivial⟩) (mC R (mC (focN hx3) mN)) R (prK R)) ?_
  refine LH.seq ?_
  refine LH.seqT [(2,.sptr [.bool c0]),(6,.eptr 812 (List.length p0.Records) (j2).toNat 0),(13,.bool false)] [(811,.box [.arr 812 (List.length p0.Records)]),(812,.nest 49 5 [(1,54,5),(2,4,1),(3,88,3)] ((List.map Gq2.lv p0.Records).set (j2).toNat (.agg [.I x3.ID,.lst 5 (List.map GItem.lv x3.Versions),.lst 1 (List.map LV.bool x3.Approved),.lst 3 (List.map GUse.lv x3.Uses),.bool x3.Withdrawn])))] R ?_ ?_
  ·refine sN (oM (v:=(.eptr _ _ _ _)) R ?_)
   refine sX ((ok_pEN tq127 R R R (by simp) (focAt hx3)).ok) ?_
   exact zS
  refine LH.cond (t:=false) R (fun hc5=>?_) (fun hc5=>?_)
  ·cases hc5
  refine LH.skip ?_
  refine thenN ?_
  refine LH.wk (Wk.eq (el:=[(2,.sptr [.bool c0]),(6,.eptr 812 (List.length p0.Records) (j2).toNat 0)]) (ml:=[(811,.box [.arr 812 (List.length p0.Records)]),(812,.nest 49 5 [(1,54,5),(2,4,1),(3,88,3)] ((List.map Gq2.lv p0.Records).set (j2).toNat (.agg [.I x3.ID,.lst 5 (List.map GItem.lv x3.Versions),.lst 1 (List.map LV.bool x3.Approved),.lst 3 (List.map GUse.lv x3.Uses),.bool x3.Withdrawn])))]) R R R R) ?_
  refine LH.seq ?_
  refine LH.seqJM mixed [] [0,3,3,3,0,0] [(2,.sptr [.bool c0]),(6,.eptr 812 (List.length p0.Records) (j2).toNat 0),(19,.bool (x3.Withdrawn == c0))] [(811,.box [.arr 812 (List.length p0.Records)]),(812,.nest 49 5 [(1,54,5),(2,4,1),(3,88,3)] ((List.map Gq2.lv p0.Records).set (j2).toNat (.agg [.I x3.ID,.lst 5 (List.map GItem.lv x3.Versions),.lst 1 (List.map LV.bool x3.Approved),.lst 3 (List.map GUse.lv x3.Uses),.bool x3.Withdrawn])))] R R (by kernel_rfl) ?_ ?_
  ·refine mN0 (oM (v:=(.eptr _ _ _ _)) R ⟨R,?_⟩)
   refine mX (ok_ncN R R (by simp) (focAt hx3)) ?_
   refine mX (ok_faN tf49_4 tk4 ts4 R R (by simp) (focAt hx3)) ?_
   refine mX (ok_ldN (cs:=[.I x3.ID,.lst 5 (List.map GItem.lv x3.Versions),.lst 1 (List.map LV.bool x3.Approved),.lst 3 (List.map GUse.lv x3.Uses),.bool x3.Withdrawn]) R R (by simp) (focAt hx3) R R tk4 ta4) ?_
   refine mN0 (oLd R tk4 ta4 ⟨R,?_⟩)
   refine mN0 (oEqB R R tb4 ⟨R,?_⟩)
   exact zM
  refine LH.cond (t:=(x3.Withdrawn == c0)) R (fun hc6=>?_) (fun hc6=>?_)
  ·replace h:=iteT h hc6
   refine LH.seqT [(5,.I 8)] [(811,.box [.arr 812 (List.length p0.Records)]),(812,.nest 49 5 [(1,54,5),(2,4,1),(3,88,3)] (List.map Gq2.lv p0.Records))] R ?_ ?_
   ·refine sAi R ?_
    exact s0 (Wk.to (eQ ⟨R,trivial⟩) (mC R (mC (focN hx3).symm mN)) R (prK R))
   refine LH.ret ?_
   refine thenR ?_
   obtain rfl:=oI h
   exact retE (aT Tryz.results81) (lrT R (lr0 ⟨memN (mC R (mC R mN)),R,prK R,Sub.rfl⟩))
  replace h:=iteF h hc6
  refine LH.skip ?_
  refine thenN ?_
  refine LH.seqT [] [(811,.box [.arr 812 (List.length (p0.Records.set (j2).toNat (Gq2.mk x3.ID x3.Versions x3.Approved x3.Uses c0)))]),(812,.nest 49 5 [(1,54,5),(2,4,1),(3,88,3)] (List.map Gq2.lv (p0.Records.set (j2).toNat (Gq2.mk x3.ID x3.Versions x3.Approved x3.Uses c0))))] R ?_ ?_
  ·refine sN (oM (v:=(.eptr _ _ _ _)) R ?_)
   refine sN (oLd R tk4 ta4 ?_)
   refine sX ((ok_ncN R R (by simp) (focAt hx3)).ok) ?_
   refine sX ((ok_faN tf49_4 tk4 ts4 R R (by simp) (focAt hx3)).ok) ?_
   refine sX_ ((ok_s1F (ls:=List.map Gq2.lv p0.Records) (cs:=[.I x3.ID,.lst 5 (List.map GItem.lv x3.Versions),.lst 1 (List.map LV.bool x3.Approved),.lst 3 (List.map GUse.lv x3.Uses),.bool x3.Withdrawn]) (cs':=[.I x3.ID,.lst 5 (List.map GItem.lv x3.Versions),.lst 1 (List.map LV.bool x3.Approved),.lst 3 (List.map GUse.lv x3.Uses),.bool c0]) R R (by simp) (focAt hx3) R R R R R tk4 ts4 R).ok) ?_
   exact s0 (Wk.to eN (mC ((show _=some (LE.box [.arr 812 (List.length p0.Records)]) from R).trans (by simp)) (mC (unfN R R) mN)) R (prK R))
  refine LH.seqT [(5,.I 0)] [(811,.box [.arr 812 (List.length (p0.Records.set (j2).toNat (Gq2.mk x3.ID x3.Versions x3.Approved x3.Uses c0)))]),(812,.nest 49 5 [(1,54,5),(2,4,1),(3,88,3)] (List.map Gq2.lv (p0.Records.set (j2).toNat (Gq2.mk x3.ID x3.Versions x3.Approved x3.Uses c0))))] R ?_ ?_
  ·refine sAi R ?_
   exact zS
  refine LH.ret ?_
  obtain rfl:=oI h
  exact retE (aT Tryz.results81) (lrT R (lr0 ⟨memN (mC R (mC R mN)),R,prK R,Sub.rfl⟩))

theorem q176q {F:Nat} {p0:Bool} {r:Bool} (h:q187q F p0=some r):LCall Tryz.prog 61 [.bool p0] (Mem.of []) (.fn 81 [.sptr [.bool r]]) (Mem.of []):=by
  unfold q187q at h
  refine bodyT Tryz.func61 R (nT Tryz.ntmps61 R) (LH.wk (Wk.eq (el:=[(0,.bool p0)]) (ml:=[]) R R R R) (LH.seqT [(1,.sptr [.bool p0])] [] R (sB (oBxR R R R R (sN (oA (v:=.nilf) R zS)))) (LH.seqT [(2,.fn 81 [.sptr [.bool p0]])] [] R (sN (oMF (vs:=[.sptr [.bool p0]]) R (sN (oA (v:=(.fn _ _)) R zS)))) (LH.ret ?_))))
  obtain rfl:=oI h
  exact retE (aT Tryz.results61) (lrT R (lr0 ⟨memN mN,R,prK R,Sub.rfl⟩))

def bankH:Nat→LV
  | 1=>.fn 57 []
  | 2=>.fn 58 []
  | 3=>.fn 59 []
  | 4=>.fn 60 []
  | 5=>.fn 81 [.sptr [.bool true]]
  | 6=>.fn 81 [.sptr [.bool false]]
  | _=>.nilf
theorem bankH_pure (n:Nat):(bankH n).pure=true:=by unfold bankH; split <;> rfl
theorem q222q {F:Nat} {r:(List (Int × Nat))} (h:q202q F=some r):LCall Tryz.prog 33 [] (Mem.of []) (.mp 10301) (Mem.of [(10301,.map 3 78 (mlv LV.I bankH r))]):=by
  unfold q202q at h
  refine bodyT Tryz.func33 R (nT Tryz.ntmps33 R) (LH.wk (Wk.eq (el:=[]) (ml:=[]) R R R R) (LH.seqT [] [] R (sN (oA (v:=.und) R zS)) (LH.seqT [(0,.mp 10301)] [(10301,.map 3 78 (mlv LV.I bankH (mput (mput (mput (mput (mput (mput ([]:List (Int × Nat)) 1 1) 2 2) 3 3) 4 4) 5 5) 6 6)))] R (sX ((ok_makeMap (kt:=3) (vt:=78) (id:=10301) R).ok) (sX_ ((ok_update (f:=LV.I) (g:=bankH) (xs:=([]:List (Int × Nat))) (key:=1) (val:=1) (.inr R) tm76 kok3 kf3 bankH_pure R R R R).ok) (sX_ ((ok_update (f:=LV.I) (g:=bankH) (xs:=(mput ([]:List (Int × Nat)) 1 1)) (key:=2) (val:=2) (.inr R) tm76 kok3 kf3 bankH_pure R R R R).ok) (sX_ ((ok_update (f:=LV.I) (g:=bankH) (xs:=(mput (mput ([]:List (Int × Nat)) 1 1) 2 2)) (key:=3) (val:=3) (.inr R) tm76 kok3 kf3 bankH_pure R R R R).ok) (sX_ ((ok_update (f:=LV.I) (g:=bankH) (xs:=(mput (mput (mput ([]:List (Int × Nat)) 1 1) 2 2) 3 3)) (key:=4) (val:=4) (.inr R) tm76 kok3 kf3 bankH_pure R R R R).ok) (sN (oCP (args:=[.bool true]) R isF61 R (sbR sbN) (q176q (F:=F) (r:=true) R) R (sX_ ((ok_update (f:=LV.I) (g:=bankH) (xs:=(mput (mput (mput (mput ([]:List (Int × Nat)) 1 1) 2 2) 3 3) 4 4)) (key:=5) (val:=5) (.inr R) tm76 kok3 kf3 bankH_pure R R R R).ok) (sN (oCP (args:=[.bool false]) R isF61 R (sbR sbN) (q176q (F:=F) (r:=false) R) R (sX_ ((ok_update (f:=LV.I) (g:=bankH) (xs:=(mput (mput (mput (mput (mput ([]:List (Int × Nat)) 1 1) 2 2) 3 3) 4 4) 5 5)) (key:=6) (val:=6) (.inr R) tm76 kok3 kf3 bankH_pure R R R R).ok) (sN (oM (v:=(.mp _)) R (sN (oA (v:=(.mp _)) R zS))))))))))))))) (LH.ret ?_))))
  obtain rfl:=oI h
  exact retE (aT Tryz.results33) (lrT R (lr0 ⟨memN (mC R mN),R,prK R,Sub.rfl⟩))

end Go.Proofs.YtmollikhdbaikaaGreat
