import Derived.Test.YtiinmaihgmfniaaGreatZLc
import Derived.Test.YtiinmaihgmfniaaGreatZLb
import Derived.Test.YtiinmaihgmfniaaGreatZRep
import Derived.Test.YtiinmaihgmfniaaGreatZRow
import Derived.Test.YtiinmaihgmfniaaGreatZFacts
import Derived.Test.YtiinmaihgmfniaaGreatZEqs
import Derived.Test.YtiinmaihgmfniaaGreatZSort
import Derived.Test.YtiinmaihgmfniaaGreatZSh
set_option linter.unusedVariables false
set_option linter.unusedSimpArgs false
set_option maxRecDepth 100000
set_option maxHeartbeats 1000000
namespace Go.Proofs.YtiinmaihgmfniaaGreat
open Go.L Go.Sh
theorem Zb {p0:List Int} {r:ax} (h:ni p0=some r):aF Tryz.prog 6 [.L p0] (Mem.of []) (.ptr 110 0) (Mem.of [(110,.box [.L r.L,.I r.At])]):=by
  unfold ni at h
  refine aW Tryz.func6 R (nT Tryz.ntmps6 R)<|LH.ae R (sN<|oA (v:=.nilp) R zQ)<|LH.seq<|LH.ae R (dC R<|sN<|bx (f:=LV.I) bd R<|sN<|hJ R R zQ) (LH.cd h R (fun hc1 h=>?_) fun hc1 h=>?_)
  ·obtain ⟨v2,hv2,h⟩:=aa h
   refine LH.aJ R (dC R<|sN<|oSl (f:=LV.I) bd aw aL R R R hv2<|qV R zQ)<|ag<|LH.ae R (dC R<|sN<|hD (vs:=[(0,.L v2)]) RL RN R (lf uZ cC bj R R R gZ)<|sN<|oBx (id:=110) R R R R R R<|sAp R zQ)<|LH.ret ?_
   obtain rfl:=oI h
   exact ba<|aT Tryz.results6
  refine LH.skip<|ag<|LH.ae R (dC R<|sN<|hD (vs:=[(0,.L p0)]) RL RN R (lf uZ cC bj R R R gZ)<|sN<|oBx (id:=110) R R R R R R<|sAp R zQ)<|LH.ret ?_
  obtain rfl:=oI h
  exact ba<|aT Tryz.results6
theorem Ze {p0:List Int} {r:ax} (h:ni p0=some r):aF Tryz.prog 6 [.L p0] (Mem.of []) (.ptr 7 0) (Mem.of [(7,.box [.L r.L,.I r.At])]):=aF.JK 7 rfl (Zb h)
theorem aau {p0:ax} {r:Int × ax} (h:KD p0=some r):aF Tryz.prog 65 [.ptr 7 0] (Mem.of [(7,.box [.L p0.L,.I p0.At])]) (.I r.1) (Mem.of [(7,.box [.L r.2.L,.I r.2.At])]):=by
  unfold KD at h
  refine aW Tryz.func65 R (nT Tryz.ntmps65 R)<|LH.ae R (aX R zQ)<|LH.seq<|LH.lN mixed [] [0,0,0,1007,0,0,0,1007,0,0] R R (by kernel_rfl) (uy R<|aI<|Jq R ⟨R,aI<|eF u0 aw aL R R ⟨R,mD R R R (fun _ b _ d=>de R b R R aw br d)<|uy R<|aI<|Jq R ⟨R,aI<|eF uZ bj cC R R ⟨R,mD R R R (fun _ b _ d=>de R b R R bj dr d)<|aI<|bx (f:=LV.I) bd R ⟨R,aI<|ot R R ⟨R,zV⟩⟩⟩⟩⟩⟩) (LH.cd h R (fun hc1 h=>?_) fun hc1 h=>?_)
  ·refine LH.ae R (aX R zQ)<|LH.ret<|aA ?_
   obtain rfl:=oI h
   exact ba<|aT Tryz.results65
  refine LH.skip<|ag<|LH.ae R (fW R<|sN<|Jq R<|sN<|eF u0 aw aL R R<|sN<|de R R R R aw br<|sN<|bw R R<|sN<|Jq R<|sN<|eF u0 aw aL R R<|s_<|cN R R R aw aL R R R zQ) ?_
  obtain ⟨x2,Bl,h⟩:=aa h
  refine LH.lN mixed [] [0,0,0,1007,0,0,0,1007,0,0,0,0] R R (by kernel_rfl) (uy R<|aI<|Jq R ⟨R,aI<|eF uZ bj cC R R ⟨R,mD R R R (fun _ b _ d=>de R b R R bj dr d)<|uy R<|aI<|Jq R ⟨R,aI<|eF u0 aw aL R R ⟨R,mD R R R (fun _ b _ d=>de R b R R aw br d)<|aI<|j7 R R ⟨R,aI<|dJ (f:=LV.I) bd aw aL R R gB Bl R ⟨R,aI<|aS R aw br ⟨R,Kf R zV⟩⟩⟩⟩⟩⟩⟩)<|LH.ret ?_
  obtain rfl:=oI h
  exact ba<|aT Tryz.results65
theorem Zd {p0:Int} {p1:Int} {r:Int} (h:pq p0 p1=some r):aF Tryz.prog 12 [.I p0,.I p1] (Mem.of []) (.I r) (Mem.of []):=by
  unfold pq at h
  refine aW Tryz.func12 R (nT Tryz.ntmps12 R)<|LH.ae R (aX R zQ)<|LH.seq<|LH.ae R (aN R<|sN<|dK R R zQ) (LH.cd h R (fun hc1 h=>?_) fun hc1 h=>?_)
  ·refine LH.ae R (aX R zQ)<|LH.ret<|aA ?_
   obtain rfl:=oI h
   exact ba<|aT Tryz.results12
  refine LH.skip<|ag ?_
  obtain ⟨v2,hv2,h⟩:=aa h
  refine LH.ae R (aN R<|aN R<|sN<|XX R R hv2<|aX R zQ)<|LH.seq<|LH.ae R (aN R<|sN<|dK R R zQ) (LH.cd h R (fun mn h=>?_) fun mn h=>?_)
  ·refine LH.aJ R (aN R<|aN R<|sN<|bw R R<|aX R zQ)<|ag<|LH.ae R (aN R<|aX R zQ)<|LH.ret ?_
   obtain rfl:=oI h
   exact ba<|aT Tryz.results12
  refine LH.skip<|ag<|LH.ae R (aN R<|aX R zQ)<|LH.ret ?_
  obtain rfl:=oI h
  exact ba<|aT Tryz.results12
theorem iP {p0:ax} {p1:Int} {r:Int × ax} (h:gw p0 p1=some r):aF Tryz.prog 23 [.ptr 7 0,.I p1] (Mem.of [(7,.box [.L p0.L,.I p0.At])]) (.I r.1) (Mem.of [(7,.box [.L r.2.L,.I r.2.At])]):=by
  unfold gw at h
  refine aW Tryz.func23 R (nT Tryz.ntmps23 R)<|LH.ae R (aX R zQ) ?_
  obtain ⟨r1,dI,h⟩:=aa h
  obtain ⟨r2,hr2,h⟩:=aa h
  refine LH.ae R (fW R<|sN<|gq Xx (aau dI)<|aN R<|sN<|dh Xj (Zd hr2)<|aX R zQ)<|LH.ret ?_
  obtain rfl:=oI h
  exact ba<|aT Tryz.results23
theorem me {p0:ax} {p1:Int} {p2:Int} {r:Int × ax} (h:jI p0 p1 p2=some r):aF Tryz.prog 34 [.ptr 7 0,.I p1,.I p2] (Mem.of [(7,.box [.L p0.L,.I p0.At])]) (.I r.1) (Mem.of [(7,.box [.L r.2.L,.I r.2.At])]):=by
  unfold jI at h
  refine aW Tryz.func34 R (nT Tryz.ntmps34 R)<|LH.ae R (aX R zQ) ?_
  obtain ⟨r1,dI,h⟩:=aa h
  refine LH.ae R (aN R<|fW R<|aN R<|aN R<|sN<|j7 R R<|sN<|bw R R<|sN<|gq fb (iP dI)<|sN<|bw R R<|aX R zQ)<|LH.ret ?_
  obtain rfl:=oI h
  exact ba<|aT Tryz.results34
theorem Ad {p0:ax} {p1:List Int} {r:Int × ax} (h:rl p0 p1=some r):aF Tryz.prog 42 [.ptr 7 0,.L p1] (Mem.of [(7,.box [.L p0.L,.I p0.At])]) (.I r.1) (Mem.of [(7,.box [.L r.2.L,.I r.2.At])]):=by
  unfold rl at h
  refine aW Tryz.func42 R (nT Tryz.ntmps42 R)<|LH.ae R (aX R zQ) ?_
  obtain ⟨r1,dI,h⟩:=aa h
  obtain ⟨x2,Bl,h⟩:=aa h
  refine LH.ae R (dC R<|fW R<|dC R<|sN<|bx (f:=LV.I) bd R<|sN<|gq fb (iP dI)<|sN<|dJ (f:=LV.I) bd aw aL R R gB Bl R<|sN<|aS R aw br<|aX R zQ)<|LH.ret ?_
  obtain rfl:=oI h
  exact ba<|aT Tryz.results42
theorem aaw {F:Nat} {p0:ax} {p1:Int} {r:ByteArray × ax} (h:KF F p0 p1=some r):aF Tryz.prog 110 [.ptr 7 0,.I p1] (Mem.of [(7,.box [.L p0.L,.I p0.At])]) (.str r.1) (Mem.of [(7,.box [.L r.2.L,.I r.2.At])]):=by
  unfold KF at h
  refine aW Tryz.func110 R (nT Tryz.ntmps110 R)<|LH.ae R (sN<|oA (v:=(.str _)) R zQ)<|LH.ae R (sN<|oA (v:=(.str _)) R zQ)<|LH.seq ?_
  obtain ⟨r1,dI,h⟩:=aa h
  refine LH.ae R (fW R<|aN R<|sN<|gq ij (me dI)<|aX R zQ)<|LH.block<|LH.bW (fun n e m=>∃ (t2:ByteArray) (n3:Int) (l4:List Int) (n5:Int),KG n t2 n3 l4 n5=some r∧e=Env.of [(0,.ptr 7 0),(5,.str t2),(6,.I n3)]∧m=Mem.of [(7,.box [.L l4,.I n5])]) F ⟨(ByteArray.mk #[]),r1.1,r1.2.L,r1.2.At,h,R,R⟩ ?_
  clear h
  rintro n e m ⟨t2,n3,l4,n5,h,rfl,rfl⟩
  rcases n with _ | n
  · exact nX h
  obtain ⟨aE,aC⟩:∃ f,f=KG n:=⟨_,rfl⟩
  replace h:KH aE t2 n3 l4 n5=some r:=aC ▸ h
  unfold KH at h
  refine LH.seq<|LH.ae R (aN R<|sN<|hJ R R zQ) (LH.cd h R (fun lz h=>?_) fun lz h=>?_)
  ·refine LH.skip<|ag<|LH.seq<|LH.block ?_
   obtain ⟨r7,yf,h⟩:=aa h
   obtain ⟨t8,ht8,h⟩:=aa h
   refine LH.aJ R (sN<|oM (v:=(.str _)) R<|fW R<|sN<|gq fb (iP yf)<|sN<|bw R R<|sN<|oCv aw ti5 R<|sN<|ic (f:=(LV.int .u8)) (ys:=[(IntKind.u8.wrap<|i64 (97+r7.1))]) RF tr5 ts5 R R R gB<|sX ((Ug (ns:=[(IntKind.u8.wrap<|i64 (97+r7.1))]) RF ti5 Zo R).ok)<|sX ((HO R R ht8).ok)<|sN<|oA (v:=(.str _)) R zQ)<|aB<|ag<|LH.aJ R (aN R<|sN<|j7 R R<|aX R zQ) ?_
   exact aM ⟨t8,(i64 (n3 - 1)),r7.2.L,r7.2.At,aC ▸ h,R,R⟩<|Wk.eq R R R R
  refine LH.exit<|bB<|bc<|aZ<|ag<|LH.ae R (sN<|oM (v:=(.str _)) R<|sN<|oA (v:=(.str _)) R zQ)<|LH.ret ?_
  obtain rfl:=oI h
  exact ba<|aT Tryz.results110
theorem u7 {p0:ax} {p1:Int} {r:Bool × ax} (h:nC p0 p1=some r):aF Tryz.prog 32 [.ptr 7 0,.I p1] (Mem.of [(7,.box [.L p0.L,.I p0.At])]) (.bool r.1) (Mem.of [(7,.box [.L r.2.L,.I r.2.At])]):=by
  unfold nC at h
  refine aW Tryz.func32 R (nT Tryz.ntmps32 R)<|LH.ae R (bK R zQ) ?_
  obtain ⟨r1,dI,h⟩:=aa h
  refine LH.ae R (fW R<|aN R<|sN<|gq fb (iP dI)<|aN R<|sN<|j7 R R<|sN<|gv R R<|bK R zQ)<|LH.ret ?_
  obtain rfl:=oI h
  exact ba<|aT Tryz.results32
theorem xY {p0:ax} {r:Int × ax} (h:uh p0=some r):aF Tryz.prog 41 [.ptr 7 0] (Mem.of [(7,.box [.L p0.L,.I p0.At])]) (.I r.1) (Mem.of [(7,.box [.L r.2.L,.I r.2.At])]):=by
  unfold uh at h
  refine aW Tryz.func41 R (nT Tryz.ntmps41 R)<|LH.ae R (aX R zQ) ?_
  obtain ⟨r1,dI,h⟩:=aa h
  refine LH.ae R (fW R<|sN<|ic (f:=LV.I) (ys:=[(-1),0,1,2,31,32,99,100,200,201,9999,10000,1000000,1000001,1152921504606846976,1152921504606846977,(-1152921504606846976),9223372036854775807,(-9223372036854775808)]) bd nB aL R R R gB<|sN<|gq rO (Ad dI)<|aX R zQ)<|LH.ret ?_
  obtain rfl:=oI h
  exact ba<|aT Tryz.results41
theorem VE {p0:ax} {p1:Int} {r:aq × ax} (h:IA p0 p1=some r):aF Tryz.prog 111 [.ptr 7 0,.I p1] (Mem.of [(7,.box [.L p0.L,.I p0.At])]) (aq.lv r.1) (Mem.of [(7,.box [.L r.2.L,.I r.2.At])]):=by
  unfold IA at h
  refine aW Tryz.func111 R (nT Tryz.ntmps111 R)<|LH.ae R (sN<|ib (id:=104) R ud R R zQ) ?_
  obtain ⟨r1,dI,h⟩:=aa h
  obtain ⟨r2,hr2,h⟩:=aa h
  obtain ⟨r3,hr3,h⟩:=aa h
  refine LH.cK [(0,.ptr 7 0),(1,.I p1),(4,.ptr 104 0),(5,.ptr 105 0)] [(7,.box [.L r3.2.L,.I r3.2.At]),(104,.box [.I 0,.I 0,.I 0,.I 0,.I 0,.I 0]),(105,.box [.I 1,.I r1.1,.I r2.1,.I r3.1,.I 0,.I 0])] R (fW R<|sN<|gq ij (me dI)<|fW R<|sN<|gq fb (iP hr2)<|fW R<|sN<|gq fb (iP hr3)<|sN<|hD (vs:=[(0,.I 1),(1,.I r1.1),(2,.I r2.1),(3,.I r3.1)]) RM ud R (lf su aL aw R R R<|lf kI aL aw R R R<|lf p5 aL aw R R R<|lf oa aL aw R R R gZ)<|sN<|ib (id:=105) R ud R R<|s_<|cN R R R cR cm R R R zS)<|LH.mid (fun e m=>∃ (l4:List Int) (n5:Int) (n6:Int) (n7:Int) (n8:Int) (n9:Int),IB p1 r2 r3 l4 n5 n6 n7 n8 n9=some r∧Wk (fun id=>Mem.of [(7,.box [.L p0.L,.I p0.At])] id ≠ .none) e m (Env.of [(0,.ptr 7 0),(1,.I p1),(4,.ptr 104 0),(5,.ptr 105 0)]) (Mem.of [(7,.box [.L l4,.I n5]),(104,.box [.I 0,.I 0,.I 0,.I 0,.I 0,.I 0]),(105,.box [.I n6,.I n7,.I r2.1,.I r3.1,.I n8,.I n9])])) ?_ ?_
  ·obtain ⟨tT,FN,h⟩:=aa h
   refine LH.ae R (fW R<|sN<|gq fb (iP FN)<|sN<|gv R R zQ) (LH.cd h R (fun rE h=>?_) fun rE h=>?_)
   ·obtain ⟨jV,AE,h⟩:=aa h
    refine LH.ae R (fW R<|sN<|gq ij (me AE)<|sN<|eF su aw aL R R<|s_<|cN R R R aw aL R R R<|sN<|eF oc aw aL R R<|s_<|cN R R R aw aL R R R zQ) ?_
    obtain ⟨r32,abT,h⟩:=aa h
    obtain ⟨yw,LQ,h⟩:=aa h
    exact LH.aJ R (fW R<|sN<|eF oc aw aL R R<|sN<|de R R R R aw br<|sN<|gq fb (iP abT)<|fW R<|sN<|gq ij (me LQ)<|sN<|eF sv aw aL R R<|s_<|cN R R R aw aL R R R<|sN<|eF kI aw aL R R<|s_<|cN R R R aw aL R R R zQ)<|ag ⟨yw.2.L,yw.2.At,2,yw.1,jV.1,r32.1,h,Wk.eq R R R R⟩
   exact LH.skip<|ag ⟨tT.2.L,tT.2.At,1,r1.1,0,0,h,Wk.eq R R R R⟩
  clear h
  rintro e m ⟨l4,n5,n6,n7,n8,n9,h,hw⟩
  refine LH.wk hw ?_
  clear hw
  unfold IB at h
  refine LH.seq ?_
  obtain ⟨N2,hv,h⟩:=aa h
  refine LH.tr [0,4,5] 34 N2.1 [(7,.box [.L N2.2.1,.I N2.2.2]),(104,.box [.I 0,.I 0,.I 0,.I 0,.I 0,.I 0]),(105,.box [.I n6,.I n7,.I r2.1,.I r3.1,.I n8,.I n9])] R ?_ ?_
  ·refine aN R<|sN<|hJ R R<|bS R ?_
   by_cases cI:(decide (p1 > 0))=true
   ·replace hv:=bO hv cI
    refine aK cI<|oM (v:=(.ptr _ _)) R<|aK cI<|oM (v:=(.int _ _)) R ?_
    obtain ⟨ri,Az,hv⟩:=aa hv
    refine aK cI<|gq pk (u7 Az)<|sN<|df cI R ?_
    obtain rfl:=oI hv
    exact zS
   ·replace cI:=bF cI
    replace hv:=bN hv cI
    refine bl cI<|bl cI<|bl cI<|sN<|bY cI R ?_
    obtain rfl:=oI hv
    exact zS
  clear hv
  refine LH.cd h R (fun o8 h=>?_) fun o8 h=>?_
  ·obtain ⟨jk,AA,h⟩:=aa h
   refine LH.ae R (fW R<|sN<|gq fb (iP AA) zQ)<|LH.block<|LH.ae R (sN<|gv R R<|bK R zQ) (LH.cd h R (fun sW h=>?_) fun sW h=>?_)
   ·obtain ⟨Bt,LM,h⟩:=aa h
    refine LH.gU [(4,.ptr 104 0),(5,.sptr [.I Bt.1,.I n7,.I r2.1,.I r3.1,.I n8,.I n9])] [(7,.box [.L Bt.2.L,.I Bt.2.At]),(104,.box [.I 0,.I 0,.I 0,.I 0,.I 0,.I 0])] R (fW R<|sN<|gq ij (me LM)<|sN<|eF su aw aL R R<|s_<|cN R R R aw aL R R R<|s0<|(Wk.trans (zB [4,5] [7,104,105] 105 R)<|Wk.eq R R R R))<|aB<|ag<|LH.cK [(4,.sptr [.I Bt.1,.I n7,.I r2.1,.I r3.1,.I n8,.I n9])] [(7,.box [.L Bt.2.L,.I Bt.2.At])] R (sN<|a7 R cR fi cm R R<|s_<|cN R R R cR cm R R R<|s0<|(Wk.trans (zB [4] [7,104] 104 R)<|Wk.eq R R R R))<|LH.ret ?_
    obtain rfl:=oI h
    exact bL (aT Tryz.results111)<|eE R cR fi cm R R<|dN lY
   refine LH.ae R (sN<|gv R R<|bK R zQ) (LH.cd h R (fun qe h=>?_) fun qe h=>?_)
   ·obtain ⟨nA,FM,h⟩:=aa h
    refine LH.gU [(4,.ptr 104 0),(5,.sptr [.I n6,.I nA.1,.I r2.1,.I r3.1,.I n8,.I n9])] [(7,.box [.L nA.2.L,.I nA.2.At]),(104,.box [.I 0,.I 0,.I 0,.I 0,.I 0,.I 0])] R (fW R<|sN<|ic (f:=LV.I) (ys:=[0,40,41,(-1)]) bd nB aL R R R gB<|sN<|gq rO (Ad FM)<|sN<|eF kI aw aL R R<|s_<|cN R R R aw aL R R R<|s0<|(Wk.trans (zB [4,5] [7,104,105] 105 R)<|Wk.eq R R R R))<|aB<|ag<|LH.cK [(4,.sptr [.I n6,.I nA.1,.I r2.1,.I r3.1,.I n8,.I n9])] [(7,.box [.L nA.2.L,.I nA.2.At])] R (sN<|a7 R cR fi cm R R<|s_<|cN R R R cR cm R R R<|s0<|(Wk.trans (zB [4] [7,104] 104 R)<|Wk.eq R R R R))<|LH.ret ?_
    obtain rfl:=oI h
    exact bL (aT Tryz.results111)<|eE R cR fi cm R R<|dN lY
   refine LH.ae R (sN<|gv R R<|bK R zQ) (LH.cd h R (fun As h=>?_) fun As h=>?_)
   ·obtain ⟨uB,LN,h⟩:=aa h
    refine LH.gU [(4,.ptr 104 0),(5,.sptr [.I n6,.I n7,.I uB.1,.I r3.1,.I n8,.I n9])] [(7,.box [.L uB.2.L,.I uB.2.At]),(104,.box [.I 0,.I 0,.I 0,.I 0,.I 0,.I 0])] R (fW R<|sN<|gq qp (xY LN)<|sN<|eF p5 aw aL R R<|s_<|cN R R R aw aL R R R<|s0<|(Wk.trans (zB [4,5] [7,104,105] 105 R)<|Wk.eq R R R R))<|aB<|ag<|LH.cK [(4,.sptr [.I n6,.I n7,.I uB.1,.I r3.1,.I n8,.I n9])] [(7,.box [.L uB.2.L,.I uB.2.At])] R (sN<|a7 R cR fi cm R R<|s_<|cN R R R cR cm R R R<|s0<|(Wk.trans (zB [4] [7,104] 104 R)<|Wk.eq R R R R))<|LH.ret ?_
    obtain rfl:=oI h
    exact bL (aT Tryz.results111)<|eE R cR fi cm R R<|dN lY
   refine LH.ae R (sN<|gv R R<|bK R zQ) (LH.cd h R (fun Sl h=>?_) fun Sl h=>?_)
   ·obtain ⟨PE,abR,h⟩:=aa h
    refine LH.gU [(4,.ptr 104 0),(5,.sptr [.I n6,.I n7,.I r2.1,.I PE.1,.I n8,.I n9])] [(7,.box [.L PE.2.L,.I PE.2.At]),(104,.box [.I 0,.I 0,.I 0,.I 0,.I 0,.I 0])] R (fW R<|sN<|gq qp (xY abR)<|sN<|eF oa aw aL R R<|s_<|cN R R R aw aL R R R<|s0<|(Wk.trans (zB [4,5] [7,104,105] 105 R)<|Wk.eq R R R R))<|aB<|ag<|LH.cK [(4,.sptr [.I n6,.I n7,.I r2.1,.I PE.1,.I n8,.I n9])] [(7,.box [.L PE.2.L,.I PE.2.At])] R (sN<|a7 R cR fi cm R R<|s_<|cN R R R cR cm R R R<|s0<|(Wk.trans (zB [4] [7,104] 104 R)<|Wk.eq R R R R))<|LH.ret ?_
    obtain rfl:=oI h
    exact bL (aT Tryz.results111)<|eE R cR fi cm R R<|dN lY
   refine LH.ae R (sN<|gv R R<|bK R zQ) (LH.cd h R (fun Lj h=>?_) fun Lj h=>?_)
   ·obtain ⟨AZ,SL,h⟩:=aa h
    refine LH.gU [(4,.ptr 104 0),(5,.sptr [.I n6,.I n7,.I r2.1,.I r3.1,.I AZ.1,.I n9])] [(7,.box [.L AZ.2.L,.I AZ.2.At]),(104,.box [.I 0,.I 0,.I 0,.I 0,.I 0,.I 0])] R (fW R<|sN<|gq ij (me SL)<|sN<|eF oc aw aL R R<|s_<|cN R R R aw aL R R R<|s0<|(Wk.trans (zB [4,5] [7,104,105] 105 R)<|Wk.eq R R R R))<|aB<|ag<|LH.cK [(4,.sptr [.I n6,.I n7,.I r2.1,.I r3.1,.I AZ.1,.I n9])] [(7,.box [.L AZ.2.L,.I AZ.2.At])] R (sN<|a7 R cR fi cm R R<|s_<|cN R R R cR cm R R R<|s0<|(Wk.trans (zB [4] [7,104] 104 R)<|Wk.eq R R R R))<|LH.ret ?_
    obtain rfl:=oI h
    exact bL (aT Tryz.results111)<|eE R cR fi cm R R<|dN lY
   obtain ⟨Bu,LP,h⟩:=aa h
   refine LH.gU [(4,.ptr 104 0),(5,.sptr [.I n6,.I n7,.I r2.1,.I r3.1,.I n8,.I Bu.1])] [(7,.box [.L Bu.2.L,.I Bu.2.At]),(104,.box [.I 0,.I 0,.I 0,.I 0,.I 0,.I 0])] R (fW R<|sN<|gq ij (me LP)<|sN<|eF sv aw aL R R<|s_<|cN R R R aw aL R R R<|s0<|(Wk.trans (zB [4,5] [7,104,105] 105 R)<|Wk.eq R R R R))<|aB<|ag<|LH.cK [(4,.sptr [.I n6,.I n7,.I r2.1,.I r3.1,.I n8,.I Bu.1])] [(7,.box [.L Bu.2.L,.I Bu.2.At])] R (sN<|a7 R cR fi cm R R<|s_<|cN R R R cR cm R R R<|s0<|(Wk.trans (zB [4] [7,104] 104 R)<|Wk.eq R R R R))<|LH.ret ?_
   obtain rfl:=oI h
   exact bL (aT Tryz.results111)<|eE R cR fi cm R R<|dN lY
  refine LH.skip<|ag<|LH.wk ((Wk.trans (zB [4,5] [7,104,105] 105 R)<|bQ [4,5] [7,104]))<|LH.cK [(4,.sptr [.I n6,.I n7,.I r2.1,.I r3.1,.I n8,.I n9])] [(7,.box [.L N2.2.1,.I N2.2.2])] R (sN<|a7 R cR fi cm R R<|s_<|cN R R R cR cm R R R<|s0<|(Wk.trans (zB [4] [7,104] 104 R)<|Wk.eq R R R R))<|LH.ret ?_
  obtain rfl:=oI h
  exact bL (aT Tryz.results111)<|eE R cR fi cm R R<|dN lY
set_option maxHeartbeats 4000000 in
theorem aat {F:Nat} {p0:ax} {p1:Int} {p2:Int} {p3:Int} {r:ah × ax} (h:Kz F p0 p1 p2 p3=some r):aF Tryz.prog 62 [.ptr 7 0,.I p1,.I p2,.I p3] (Mem.of [(7,.box [.L p0.L,.I p0.At])]) (ah.lv r.1) (Mem.of [(7,.box [.L r.2.L,.I r.2.At])]):=by
  unfold Kz at h
  refine aW Tryz.func62 R (nT Tryz.ntmps62 R)<|LH.ae R (sN<|ib (id:=108) R lX R R zQ) ?_
  obtain ⟨r1,dI,h⟩:=aa h
  obtain ⟨t2,ht2,h⟩:=aa h
  refine LH.ae R (aN R<|aN R<|fW R<|sN<|gq Tl (aaw dI)<|sX ((HO R R ht2).ok)<|sN<|hD (vs:=[(0,.I p1),(1,.I p2),(2,.str t2)]) It lX R (lf ei aL aw R R R<|lf gR aL aw R R R<|lf lR NS E6 R R R gZ)<|sN<|ib (id:=109) R lX R R<|s_<|cN R R R bm bk R R R zQ)<|LH.seq ?_
  obtain ⟨r3,hr3,h⟩:=aa h
  refine LH.ae R (fW R<|sN<|gq ij (me hr3)<|aX R zQ)<|LH.block<|LH.wk ((Wk.trans (bQ [0,1,3,8,9,10] [7,108,109])<|Wk.trans (Wk.kp 129 185 6 109 3 R R R R R<|cv R)<|bQ [0,1,3,8,9,10] [7,108,109,129]))<|LH.bW (fun n e m=>∃ (n4:Int) (l5:List Int) (n6:Int) (l7:List aq),KA F p1 p2 p3 t2 n n4 l5 n6 l7=some r∧e=Env.of [(0,.ptr 7 0),(1,.I p1),(3,.I p3),(8,.ptr 108 0),(9,.ptr 109 0),(10,.I n4)]∧m=Mem.of [(7,.box [.L l5,.I n6]),(108,.box VB),(109,.box [.I p1,.I p2,.str t2,.arr 129 l7.length,.nil]),(129,.arr 185 6 (l7.map aq.lv))]) F ⟨r3.1,r3.2.L,r3.2.At,([]:List aq),h,R,R⟩ ?_
  clear h
  rintro n e m ⟨n4,l5,n6,l7,h,rfl,rfl⟩
  rcases n with _ | n
  · exact nX h
  obtain ⟨aE,aC⟩:∃ f,f=KA F p1 p2 p3 t2 n:=⟨_,rfl⟩
  replace h:KB F p1 p2 p3 t2 aE n4 l5 n6 l7=some r:=aC ▸ h
  unfold KB at h
  refine LH.seq<|LH.ae R (aN R<|sN<|hJ R R zQ) (LH.cd h R (fun oF h=>?_) fun oF h=>?_)
  ·refine LH.skip<|ag<|LH.seq<|LH.block ?_
   obtain ⟨r9,FQ,h⟩:=aa h
   obtain ⟨v10,LX,h⟩:=aa h
   refine LH.mu mixed [] [0,1109,0,100007,0,2,0,100109] R R (by kernel_rfl) (aI<|eF dP b8 dG R R ⟨R,mD R R R (fun _ b _ d=>de R b R R b8 fh d)<|uy R<|mW R R R (fun _ b _ d=>mw (args:=[.ptr 7 0,.I 0]) (ml:=[(7,.box [.L l5,.I n6])]) (eD:=[(7,.box [.L r9.2.L,.I r9.2.At])]) R L7 R (bZ<|bZ fF) (VE FQ) (mC b mN) (bT R dO) R d)<|aI<|ic (f:=aq.lv) (ys:=[r9.1]) ey tZ cm R R R aq.ok ⟨R,E2<|oN (f:=aq.lv) ey tZ cm R R (cv R) R LX<|aI<|eF dP b8 dG R R ⟨R,mS R R R (fun _ b _ d=>cN R R R b8 dG b R R d) zV⟩⟩⟩)<|aB<|ag<|LH.aJ R (aN R<|sN<|j7 R R<|aX R zQ) ?_
   exact aM ⟨(i64 (n4 - 1)),r9.2.L,r9.2.At,v10,aC ▸ h,R,R⟩<|Wk.eq R R R R
  refine LH.exit<|bB<|bc<|aZ<|ag<|LH.seq<|LH.ae R (aX R zQ)<|LH.block<|LH.wk ((Wk.trans (bQ [0,1,3,8,9,11] [7,108,109,129])<|Wk.trans (Wk.kp 146 3 1 109 4 R R R R R<|cv R)<|bQ [0,1,3,8,9,11] [7,108,109,129,146]))<|LH.bW (fun n e m=>∃ (n11:Int) (qO:List Int) (n13:Int) (lJ:List Int),Iz p1 p2 p3 t2 l7 n n11 qO n13 lJ=some r∧e=Env.of [(0,.ptr 7 0),(1,.I p1),(3,.I p3),(8,.ptr 108 0),(9,.ptr 109 0),(11,.I n11)]∧m=Mem.of [(7,.box [.L qO,.I n13]),(108,.box VB),(109,.box [.I p1,.I p2,.str t2,.arr 129 l7.length,.arr 146 lJ.length]),(129,.arr 185 6 (l7.map aq.lv)),(146,.arr 3 1 (lJ.map LV.I))]) F ⟨0,l5,n6,([]:List Int),h,R,R⟩ ?_
  clear h
  rintro n e m ⟨n11,qO,n13,lJ,h,rfl,rfl⟩
  rcases n with _ | n
  · exact nX h
  obtain ⟨dU,dR⟩:∃ f,f=Iz p1 p2 p3 t2 l7 n:=⟨_,rfl⟩
  replace h:KC p1 p2 p3 t2 l7 dU n11 qO n13 lJ=some r:=dR ▸ h
  unfold KC at h
  refine LH.seq<|LH.ae R (aN R<|sN<|dK R R zQ) (LH.cd h R (fun qd h=>?_) fun qd h=>?_)
  ·refine LH.skip<|ag<|LH.seq<|LH.block ?_
   obtain ⟨EX,hv,h⟩:=aa h
   refine LH.tr [0,1,3,8,9,11] 41 EX.1 [(7,.box [.L EX.2.1,.I EX.2.2]),(108,.box VB),(109,.box [.I p1,.I p2,.str t2,.arr 129 l7.length,.arr 146 lJ.length]),(129,.arr 185 6 (l7.map aq.lv)),(146,.arr 3 1 (lJ.map LV.I))] R ?_ ?_
   ·refine aN R<|aN R<|sN<|iR R R<|bS R ?_
    by_cases qc:(n11 != p1)=true
    ·replace hv:=bO hv qc
     refine aK qc<|oM (v:=(.ptr _ _)) R ?_
     obtain ⟨nA,FM,hv⟩:=aa hv
     refine aK qc<|gq pk (u7 FM)<|sN<|df qc R ?_
     obtain rfl:=oI hv
     exact zS
    ·replace qc:=bF qc
     replace hv:=bN hv qc
     refine bl qc<|bl qc<|sN<|bY qc R ?_
     obtain rfl:=oI hv
     exact zS
   clear hv
   refine LH.cd h R (fun As h=>?_) fun As h=>?_
   ·obtain ⟨v23,L2,h⟩:=aa h
    refine LH.aJ R (sN<|eF iv bj cC R R<|sN<|de R R R R bj dr<|aN R<|sN<|ic (f:=LV.I) (ys:=[n11]) bd nB aL R R R gB<|sN<|oN (f:=LV.I) bd nB aL R R (cv R) R L2<|sN<|eF iv bj cC R R<|s_<|cN R R R bj cC R R R zQ)<|aB<|ag<|LH.aJ R (aN R<|sN<|bw R R<|aX R zQ) ?_
    exact aM ⟨(i64 (n11+1)),EX.2.1,EX.2.2,v23,dR ▸ h,R,R⟩<|Wk.eq R R R R
   refine LH.skip<|aB<|ag<|LH.aJ R (aN R<|sN<|bw R R<|aX R zQ) ?_
   exact aM ⟨(i64 (n11+1)),EX.2.1,EX.2.2,lJ,dR ▸ h,R,R⟩<|Wk.eq R R R R
  refine LH.exit<|bB<|bc<|aZ<|ag<|LH.seq ?_
  obtain ⟨Qb,hv,h⟩:=aa h
  refine LH.tr [0,1,8,9] 54 Qb.1 [(7,.box [.L Qb.2.1,.I Qb.2.2]),(108,.box VB),(109,.box [.I p1,.I p2,.str t2,.arr 129 l7.length,.arr 146 lJ.length]),(129,.arr 185 6 (l7.map aq.lv)),(146,.arr 3 1 (lJ.map LV.I))] R ?_ ?_
  ·refine aN R<|sN<|hJ R R<|bS R ?_
   by_cases j0:(decide (p3 > 0))=true
   ·replace hv:=bO hv j0
    refine aK j0<|oM (v:=(.ptr _ _)) R<|aK j0<|oM (v:=(.int _ _)) R ?_
    obtain ⟨tT,FN,hv⟩:=aa hv
    refine aK j0<|gq pk (u7 FN)<|sN<|df j0 R ?_
    obtain rfl:=oI hv
    exact zS
   ·replace j0:=bF j0
    replace hv:=bN hv j0
    refine bl j0<|bl j0<|bl j0<|sN<|bY j0 R ?_
    obtain rfl:=oI hv
    exact zS
  clear hv
  refine LH.cd h R (fun rE h=>?_) fun rE h=>?_
  ·obtain ⟨jV,AE,h⟩:=aa h
   refine LH.ae R (fW R<|sN<|gq fb (iP AE) zQ)<|LH.block<|LH.ae R (sN<|gv R R<|bK R zQ) (LH.cd h R (fun Au h=>?_) fun Au h=>?_)
   ·obtain ⟨yw,LQ,h⟩:=aa h
    refine LH.oq R (fW R<|sN<|gq qp (xY LQ)<|sN<|eF ei aw aL R R<|s_<|cN R R R aw aL R R R<|s0<|Wk.trans (bQ [8,9] [7,108,109,129,146])<|Wk.trans (Wk.trans (Wk.cL (f:=aq.lv) 129 185 6 l7 109 R R R (ay R<|ay R<|ay R<|dW<|ay R dV) R R<|cv R)<|bQ [8,9] [7,108,109,146])<|Wk.trans (bQ [8,9] [7,108,109,146])<|Wk.trans (Wk.trans (Wk.cL (f:=LV.I) 146 3 1 lJ 109 R R R (ay R<|ay R<|ay R<|ay R<|dW dV) R R<|cv R)<|bQ [8,9] [7,108,109])<|Wk.dz 109 [.I yw.1,.I p2,.str t2,.lst 6 (l7.map aq.lv),.L lJ] R R R<|cv R)<|aB<|ag<|LH.cM R (sN<|a7 R bm dn bk R R<|s_<|cN R R R bm bk R R R<|s0<|zB [8] [7,108] 108 R)<|LH.ret ?_
    obtain rfl:=oI h
    exact bL (aT Tryz.results62)<|eE R bm dn bk R R<|dN lY
   refine LH.ae R (sN<|gv R R<|bK R zQ) (LH.cd h R (fun aa6 h=>?_) fun aa6 h=>?_)
   ·obtain ⟨PF,SM,h⟩:=aa h
    refine LH.oq R (fW R<|sN<|ic (f:=LV.I) (ys:=[0,8,9,(-1)]) bd nB aL R R R gB<|sN<|gq rO (Ad SM)<|sN<|eF gR aw aL R R<|s_<|cN R R R aw aL R R R<|s0<|Wk.trans (bQ [8,9] [7,108,109,129,146])<|Wk.trans (Wk.trans (Wk.cL (f:=aq.lv) 129 185 6 l7 109 R R R (ay R<|ay R<|ay R<|dW<|ay R dV) R R<|cv R)<|bQ [8,9] [7,108,109,146])<|Wk.trans (bQ [8,9] [7,108,109,146])<|Wk.trans (Wk.trans (Wk.cL (f:=LV.I) 146 3 1 lJ 109 R R R (ay R<|ay R<|ay R<|ay R<|dW dV) R R<|cv R)<|bQ [8,9] [7,108,109])<|Wk.dz 109 [.I p1,.I PF.1,.str t2,.lst 6 (l7.map aq.lv),.L lJ] R R R<|cv R)<|aB<|ag<|LH.cM R (sN<|a7 R bm dn bk R R<|s_<|cN R R R bm bk R R R<|s0<|zB [8] [7,108] 108 R)<|LH.ret ?_
    obtain rfl:=oI h
    exact bL (aT Tryz.results62)<|eE R bm dn bk R R<|dN lY
   refine LH.ae R (sN<|gv R R<|bK R zQ) (LH.cd h R (fun aa7 h=>?_) fun aa7 h=>?_)
   ·obtain ⟨GO,LR,h⟩:=aa h
    obtain ⟨U0,Te,h⟩:=aa h
    refine LH.oq R (sN<|ic (f:=LV.str) (ys:=[(ByteArray.mk #[]),(ByteArray.mk #[116,97,98,9]),(ByteArray.mk #[48,49,50,51,52,53,54,55,56,57,48,49,50,51,52,53,54,55,56,57,48,49,50,51,52,53,54,55,56,57,48,49,50,51,52,53,54,55,56,57,120])]) RE tr9 NS R R R okS<|fW R<|sN<|gq fb (iP LR)<|sN<|dJ (f:=LV.str) RE E6 NS R R okS Te R<|sN<|aS R E6 Vu<|sN<|eF lR E6 NS R R<|s_<|cN R R R E6 NS R R R<|s0<|Wk.trans (bQ [8,9] [7,108,109,129,146])<|Wk.trans (Wk.trans (Wk.cL (f:=aq.lv) 129 185 6 l7 109 R R R (ay R<|ay R<|ay R<|dW<|ay R dV) R R<|cv R)<|bQ [8,9] [7,108,109,146])<|Wk.trans (bQ [8,9] [7,108,109,146])<|Wk.trans (Wk.trans (Wk.cL (f:=LV.I) 146 3 1 lJ 109 R R R (ay R<|ay R<|ay R<|ay R<|dW dV) R R<|cv R)<|bQ [8,9] [7,108,109])<|Wk.dz 109 [.I p1,.I p2,.str U0,.lst 6 (l7.map aq.lv),.L lJ] R R R<|cv R)<|aB<|ag<|LH.cM R (sN<|a7 R bm dn bk R R<|s_<|cN R R R bm bk R R R<|s0<|zB [8] [7,108] 108 R)<|LH.ret ?_
    obtain rfl:=oI h
    exact bL (aT Tryz.results62)<|eE R bm dn bk R R<|dN lY
   refine LH.ae R (sN<|gv R R<|bK R zQ) (LH.cd h R (fun I1 h=>?_) fun I1 h=>?_)
   ·refine LH.oq R (sN<|eF dP b8 dG R R<|s_<|cN R R R b8 dG R R R<|s0<|Wk.trans (bQ [8,9] [7,108,109,146])<|Wk.trans (Wk.trans (Wk.cL (f:=LV.I) 146 3 1 lJ 109 R R R (ay R<|ay R<|ay R<|ay R<|dW dV) R R<|cv R)<|bQ [8,9] [7,108,109])<|Wk.dz 109 [.I p1,.I p2,.str t2,.nil,.L lJ] R R R<|cv R)<|aB<|ag<|LH.cM R (sN<|a7 R bm dn bk R R<|s_<|cN R R R bm bk R R R<|s0<|zB [8] [7,108] 108 R)<|LH.ret ?_
    obtain rfl:=oI h
    exact bL (aT Tryz.results62)<|eE R bm dn bk R R<|dN ⟨gP<|mC R mN,R,cF R,(fc.head<|UE (Sub.agg<|bZ<|bZ<|bZ<|Oo<|bZ fF) fF)⟩
   refine LH.ae R (sN<|gv R R<|bK R zQ) (LH.cd h R (fun Lk h=>?_) fun Lk h=>?_)
   ·obtain ⟨Vr,abV,h⟩:=aa h
    obtain ⟨v42,acF,h⟩:=aa h
    refine LH.mu mixed [] [0,1109,0,100007,0,2,0,100109] R R (by kernel_rfl) (aI<|eF dP b8 dG R R ⟨R,mD R R R (fun _ b _ d=>de R b R R b8 fh d)<|uy R<|mW R R R (fun _ b _ d=>mw (args:=[.ptr 7 0,.I 1]) (ml:=[(7,.box [.L jV.2.L,.I jV.2.At])]) (eD:=[(7,.box [.L Vr.2.L,.I Vr.2.At])]) R L7 R (bZ<|bZ fF) (VE abV) (mC b mN) (bT R dO) R d)<|aI<|ic (f:=aq.lv) (ys:=[Vr.1]) ey tZ cm R R R aq.ok ⟨R,E2<|oN (f:=aq.lv) ey tZ cm R R (cv R) R acF<|aI<|eF dP b8 dG R R ⟨R,mS R R R (fun _ b _ d=>cN R R R b8 dG b R R d)<|m0<|Wk.trans (bQ [8,9] [7,108,109,129,146])<|Wk.trans (Wk.trans (Wk.cL (f:=aq.lv) 129 185 6 v42 109 R R R (ay R<|ay R<|ay R<|dW<|ay R dV) R R<|cv R)<|bQ [8,9] [7,108,109,146])<|Wk.trans (bQ [8,9] [7,108,109,146])<|Wk.trans (Wk.trans (Wk.cL (f:=LV.I) 146 3 1 lJ 109 R R R (ay R<|ay R<|ay R<|ay R<|dW dV) R R<|cv R)<|bQ [8,9] [7,108,109])<|Wk.dz 109 [.I p1,.I p2,.str t2,.lst 6 (v42.map aq.lv),.L lJ] R R R<|cv R⟩⟩⟩)<|aB<|ag<|LH.cM R (sN<|a7 R bm dn bk R R<|s_<|cN R R R bm bk R R R<|s0<|zB [8] [7,108] 108 R)<|LH.ret ?_
    obtain rfl:=oI h
    exact bL (aT Tryz.results62)<|eE R bm dn bk R R<|dN lY
   refine LH.ae R (sN<|gv R R<|bK R zQ) (LH.cd h R (fun aa8 h=>?_) fun aa8 h=>?_)
   ·obtain ⟨E5,LS,h⟩:=aa h
    obtain ⟨v45,acG,h⟩:=aa h
    refine LH.mu mixed [] [0,1109,0,0,0,100007,0,2,0,100109] R R (by kernel_rfl) (aI<|eF iv bj cC R R ⟨R,mD R R R (fun _ b _ d=>de R b R R bj dr d)<|uy R<|gu R<|aI<|ic (f:=LV.I) (ys:=[0,p1,(-1),10000,3]) bd nB aL R R R gB ⟨R,mW R R R (fun _ b _ d=>mw (args:=[.ptr 7 0,.L [0,p1,(-1),10000,3]]) (ml:=[(7,.box [.L jV.2.L,.I jV.2.At])]) (eD:=[(7,.box [.L E5.2.L,.I E5.2.At])]) R rO R (bZ<|bZ fF) (Ad LS) (mC b mN) (bT R dO) R d)<|aI<|ic (f:=LV.I) (ys:=[E5.1]) bd nB aL R R R gB ⟨R,E2<|oN (f:=LV.I) bd nB aL R R (cv R) R acG<|aI<|eF iv bj cC R R ⟨R,mS R R R (fun _ b _ d=>cN R R R bj cC b R R d)<|m0<|Wk.trans (bQ [8,9] [7,108,109,129,146])<|Wk.trans (Wk.trans (Wk.cL (f:=aq.lv) 129 185 6 l7 109 R R R (ay R<|ay R<|ay R<|dW<|ay R dV) R R<|cv R)<|bQ [8,9] [7,108,109,146])<|Wk.trans (bQ [8,9] [7,108,109,146])<|Wk.trans (Wk.trans (Wk.cL (f:=LV.I) 146 3 1 v45 109 R R R (ay R<|ay R<|ay R<|ay R<|dW dV) R R<|cv R)<|bQ [8,9] [7,108,109])<|Wk.dz 109 [.I p1,.I p2,.str t2,.lst 6 (l7.map aq.lv),.L v45] R R R<|cv R⟩⟩⟩⟩)<|aB<|ag<|LH.cM R (sN<|a7 R bm dn bk R R<|s_<|cN R R R bm bk R R R<|s0<|zB [8] [7,108] 108 R)<|LH.ret ?_
    obtain rfl:=oI h
    exact bL (aT Tryz.results62)<|eE R bm dn bk R R<|dN lY
   obtain ⟨Ot,FW,h⟩:=aa h
   obtain ⟨x47,W3,h⟩:=aa h
   obtain ⟨x48,W4,h⟩:=aa h
   obtain ⟨x49,W5,h⟩:=aa h
   obtain ⟨x50,W6,h⟩:=aa h
   obtain ⟨x51,W7,h⟩:=aa h
   obtain ⟨ZK,acJ,h⟩:=aa h
   refine LH.qP mixed [] [0,1109,0,1109,1129,1129,0,1109,1129,1129,0,1109,1129,1129,0,1109,1129,1129,0,1109,1129,1129,0,1109,1129,1129,0,2,0,100109] [(8,.ptr 108 0),(9,.sptr [.I p1,.I p2,.str t2,.lst 6 (ZK.map aq.lv),.L lJ])] [(7,.box [.L jV.2.L,.I jV.2.At]),(108,.box VB)] R R (by kernel_rfl) ?_ ?_
   ·exact aI<|eF dP b8 dG R R ⟨R,mD R R R (fun _ b _ d=>de R b R R b8 fh d)<|aI<|eF dP b8 dG R R ⟨R,mD R R R (fun _ b _ d=>de R b R R b8 fh d)<|mD R R R (fun _ b _ d=>eI (f:=aq.lv) ey cR cm R b R FW d)<|mD R R R (fun _ b _ d=>rU (f:=aq.lv) R b (cU FW).2 R R cR fi cm R R d)<|aI<|eF dP b8 dG R R ⟨R,mD R R R (fun _ b _ d=>de R b R R b8 fh d)<|mD R R R (fun _ b _ d=>eI (f:=aq.lv) ey cR cm R b R W3 d)<|mD R R R (fun _ b _ d=>rU (f:=aq.lv) R b (cU W3).2 R R cR fi cm R R d)<|aI<|eF dP b8 dG R R ⟨R,mD R R R (fun _ b _ d=>de R b R R b8 fh d)<|mD R R R (fun _ b _ d=>eI (f:=aq.lv) ey cR cm R b R W4 d)<|mD R R R (fun _ b _ d=>rU (f:=aq.lv) R b (cU W4).2 R R cR fi cm R R d)<|aI<|eF dP b8 dG R R ⟨R,mD R R R (fun _ b _ d=>de R b R R b8 fh d)<|mD R R R (fun _ b _ d=>eI (f:=aq.lv) ey cR cm R b R W5 d)<|mD R R R (fun _ b _ d=>rU (f:=aq.lv) R b (cU W5).2 R R cR fi cm R R d)<|aI<|eF dP b8 dG R R ⟨R,mD R R R (fun _ b _ d=>de R b R R b8 fh d)<|mD R R R (fun _ b _ d=>eI (f:=aq.lv) ey cR cm R b R W6 d)<|mD R R R (fun _ b _ d=>rU (f:=aq.lv) R b (cU W6).2 R R cR fi cm R R d)<|aI<|eF dP b8 dG R R ⟨R,mD R R R (fun _ b _ d=>de R b R R b8 fh d)<|mD R R R (fun _ b _ d=>eI (f:=aq.lv) ey cR cm R b R W7 d)<|mD R R R (fun _ b _ d=>rU (f:=aq.lv) R b (cU W7).2 R R cR fi cm R R d)<|aI<|ic (f:=aq.lv) (ys:=[Ot,x47,x48,x49,x50,x51]) ey tZ cm R R R aq.ok ⟨R,E2<|oN (f:=aq.lv) ey tZ cm R R (cv R) R acJ<|aI<|eF dP b8 dG R R ⟨R,mS R R R (fun _ b _ d=>cN R R R b8 dG b R R d)<|m0<|(Wk.trans (bQ [8,9] [7,108,109,129,146])<|Wk.trans (Wk.trans (Wk.cL (f:=aq.lv) 129 185 6 ZK 109 R R R (ay R<|ay R<|ay R<|dW<|ay R dV) R R<|cv R)<|bQ [8,9] [7,108,109,146])<|Wk.trans (bQ [8,9] [7,108,109,146])<|Wk.trans (Wk.trans (Wk.cL (f:=LV.I) 146 3 1 lJ 109 R R R (ay R<|ay R<|ay R<|ay R<|dW dV) R R<|cv R)<|bQ [8,9] [7,108,109])<|Wk.trans (Wk.dz 109 [.I p1,.I p2,.str t2,.lst 6 (ZK.map aq.lv),.L lJ] R R R<|cv R)<|Wk.eq R R R R)⟩⟩⟩⟩⟩⟩⟩⟩⟩
   refine aB<|ag<|LH.cM R (sN<|a7 R bm dn bk R R<|s_<|cN R R R bm bk R R R<|s0<|zB [8] [7,108] 108 R)<|LH.ret ?_
   obtain rfl:=oI h
   exact bL (aT Tryz.results62)<|eE R bm dn bk R R<|dN lY
  refine LH.skip<|ag<|LH.wk ((Wk.trans (bQ [8,9] [7,108,109,129,146])<|Wk.trans (Wk.trans (Wk.cL (f:=aq.lv) 129 185 6 l7 109 R R R (ay R<|ay R<|ay R<|dW<|ay R dV) R R<|cv R)<|bQ [8,9] [7,108,109,146])<|Wk.trans (bQ [8,9] [7,108,109,146])<|Wk.trans (Wk.trans (Wk.cL (f:=LV.I) 146 3 1 lJ 109 R R R (ay R<|ay R<|ay R<|ay R<|dW dV) R R<|cv R)<|bQ [8,9] [7,108,109])<|Wk.trans (Wk.dz 109 [.I p1,.I p2,.str t2,.lst 6 (l7.map aq.lv),.L lJ] R R R<|cv R)<|bQ [8,9] [7,108]))<|LH.cM R (sN<|a7 R bm dn bk R R<|s_<|cN R R R bm bk R R R<|s0<|zB [8] [7,108] 108 R)<|LH.ret ?_
  obtain rfl:=oI h
  exact bL (aT Tryz.results62)<|eE R bm dn bk R R<|dN lY
theorem aav {p0:ax} {p1:Int} {r:bJ × ax} (h:RW p0 p1=some r):aF Tryz.prog 43 [.ptr 7 0,.I p1] (Mem.of [(7,.box [.L p0.L,.I p0.At])]) (.agg [.I r.1.Time,.I r.1.Source,.I r.1.Seq]) (Mem.of [(7,.box [.L r.2.L,.I r.2.At])]):=by
  unfold RW at h
  refine aW Tryz.func43 R (nT Tryz.ntmps43 R)<|LH.ae R (sN<|ib (id:=104) R EU R R zQ) ?_
  obtain ⟨r1,dI,h⟩:=aa h
  obtain ⟨r2,hr2,h⟩:=aa h
  obtain ⟨r3,hr3,h⟩:=aa h
  refine LH.ae R (fW R<|sN<|gq ij (me dI)<|fW R<|sN<|gq ij (me hr2)<|fW R<|sN<|gq ij (me hr3)<|sN<|hD (vs:=[(0,.I r1.1),(1,.I r2.1),(2,.I r3.1)]) UO EU R (lf mz aL aw R R R<|lf ia aL aw R R R<|lf gH aL aw R R R gZ)<|sN<|ib (id:=105) R EU R R<|s_<|cN R R R dw du R R R zQ)<|LH.seq ?_
  obtain ⟨w7,hv,h⟩:=aa h
  refine LH.tr [0,4,5] 19 w7.1 [(7,.box [.L w7.2.1,.I w7.2.2]),(104,.box [.I 0,.I 0,.I 0]),(105,.box [.I r1.1,.I r2.1,.I r3.1])] R ?_ ?_
  ·refine aN R<|sN<|hJ R R<|bS R ?_
   by_cases cu:(decide (p1 > 0))=true
   ·replace hv:=bO hv cu
    refine aK cu<|oM (v:=(.ptr _ _)) R<|aK cu<|oM (v:=(.int _ _)) R ?_
    obtain ⟨r9,FQ,hv⟩:=aa hv
    refine aK cu<|gq pk (u7 FQ)<|sN<|df cu R ?_
    obtain rfl:=oI hv
    exact zS
   ·replace cu:=bF cu
    replace hv:=bN hv cu
    refine bl cu<|bl cu<|bl cu<|sN<|bY cu R ?_
    obtain rfl:=oI hv
    exact zS
  clear hv
  refine LH.cd h R (fun jf h=>?_) fun jf h=>?_
  ·obtain ⟨dS,j5,h⟩:=aa h
   refine LH.ae R (fW R<|sN<|gq fb (iP j5) zQ)<|LH.block<|LH.ae R (sN<|gv R R<|bK R zQ) (LH.cd h R (fun jt h=>?_) fun jt h=>?_)
   ·obtain ⟨sD,vT,h⟩:=aa h
    refine LH.oq R (fW R<|sN<|gq qp (xY vT)<|sN<|eF mz aw aL R R<|s_<|cN R R R aw aL R R R<|s0<|zB [4,5] [7,104,105] 105 R)<|aB<|ag<|LH.cM R (sN<|a7 R dw kG du R R<|s_<|cN R R R dw du R R R<|s0<|zB [4] [7,104] 104 R)<|LH.ret ?_
    obtain rfl:=oI h
    exact bL (aT Tryz.results43)<|eE R dw kG du R R<|dN lY
   refine LH.ae R (sN<|gv R R<|bK R zQ) (LH.cd h R (fun sV h=>?_) fun sV h=>?_)
   ·obtain ⟨ri,Az,h⟩:=aa h
    refine LH.oq R (fW R<|sN<|gq qp (xY Az)<|sN<|eF ia aw aL R R<|s_<|cN R R R aw aL R R R<|s0<|zB [4,5] [7,104,105] 105 R)<|aB<|ag<|LH.cM R (sN<|a7 R dw kG du R R<|s_<|cN R R R dw du R R R<|s0<|zB [4] [7,104] 104 R)<|LH.ret ?_
    obtain rfl:=oI h
    exact bL (aT Tryz.results43)<|eE R dw kG du R R<|dN lY
   obtain ⟨gV,vU,h⟩:=aa h
   refine LH.oq R (fW R<|sN<|gq qp (xY vU)<|sN<|eF gH aw aL R R<|s_<|cN R R R aw aL R R R<|s0<|zB [4,5] [7,104,105] 105 R)<|aB<|ag<|LH.cM R (sN<|a7 R dw kG du R R<|s_<|cN R R R dw du R R R<|s0<|zB [4] [7,104] 104 R)<|LH.ret ?_
   obtain rfl:=oI h
   exact bL (aT Tryz.results43)<|eE R dw kG du R R<|dN lY
  refine LH.skip<|ag<|LH.wk ((Wk.trans (zB [4,5] [7,104,105] 105 R)<|bQ [4,5] [7,104]))<|LH.cM R (sN<|a7 R dw kG du R R<|s_<|cN R R R dw du R R R<|s0<|zB [4] [7,104] 104 R)<|LH.ret ?_
  obtain rfl:=oI h
  exact bL (aT Tryz.results43)<|eE R dw kG du R R<|dN lY
set_option maxHeartbeats 4000000 in
theorem aar {F:Nat} {p0:ax} {p1:Int} {p2:Int} {r:List bu × ax} (h:RX F p0 p1 p2=some r):aF Tryz.prog 21 [.ptr 7 0,.I p1,.I p2] (Mem.of [(7,.box [.L p0.L,.I p0.At])]) (.lst 12 (r.1.map bu.lv)) (Mem.of [(7,.box [.L r.2.L,.I r.2.At])]):=by
  unfold RX at h
  refine aW Tryz.func21 R (nT Tryz.ntmps21 R)<|LH.ae R (kE R zQ)<|LH.ae R (kE R zQ) ?_
  obtain ⟨v1,jj,h⟩:=aa h
  refine LH.ae R (sN<|QX (f:=LV.I) (z:=0) (id:=112) R bd Oq nB aL R R R jj R<|sE R zQ)<|LH.seq ?_
  obtain ⟨r2,hr2,h⟩:=aa h
  refine LH.ae R (fW R<|aN R<|sN<|gq ij (me hr2)<|aX R zQ)<|LH.block<|LH.wk ((Wk.trans (bQ [0,2,7,8,9] [7,112])<|Wk.trans (Wk.wA (ig:=[(0,.ptr 7 0),(2,.I p2),(7,.arr 221 (List.length ([]:List bu))),(8,.arr 112 v1.length),(9,.I r2.1)]) 221 110 12 R R<|wK<|wK<|wO<|wK<|wK wN)<|bQ [0,2,7,8,9] [7,112,221]))<|LH.bW (fun n e m=>∃ (n3:Int) (l4:List Int) (n5:Int) (l6:List Int) (l7:List bu),Kr F p2 n n3 l4 n5 l6 l7=some r∧e=Env.of [(0,.ptr 7 0),(2,.I p2),(7,.arr 221 l7.length),(8,.arr 112 l6.length),(9,.I n3)]∧m=Mem.of [(7,.box [.L l4,.I n5]),(112,.arr 3 1 (l6.map LV.I)),(221,.arr 110 12 (l7.map bu.lv))]) F ⟨r2.1,r2.2.L,r2.2.At,v1,([]:List bu),h,R,R⟩ ?_
  clear h
  rintro n e m ⟨n3,l4,n5,l6,l7,h,rfl,rfl⟩
  rcases n with _ | n
  · exact nX h
  obtain ⟨aE,aC⟩:∃ f,f=Kr F p2 n:=⟨_,rfl⟩
  replace h:Ks F p2 aE n3 l4 n5 l6 l7=some r:=aC ▸ h
  unfold Ks at h
  refine LH.seq<|LH.ae R (aN R<|sN<|hJ R R zQ) (LH.cd h R (fun oF h=>?_) fun oF h=>?_)
  ·refine LH.skip<|ag<|LH.seq<|LH.block ?_
   obtain ⟨r9,FQ,h⟩:=aa h
   refine LH.ae R (fW R<|sN<|gq fb (iP FQ)<|aX R zQ) ?_
   obtain ⟨fR,s7,h⟩:=aa h
   obtain ⟨dS,j5,h⟩:=aa h
   obtain ⟨jU,vS,h⟩:=aa h
   obtain ⟨jc,qf,h⟩:=aa h
   obtain ⟨fJ,s8,h⟩:=aa h
   refine LH.eY mixed [] [0,1221,0,100007,0,0,100007,0,1221,0,0,0,100007,0,0,0,1112,1112,4,0,0,100007,0,2,100111] [(0,.ptr 7 0),(2,.I p2),(7,.arr 221 l7.length),(8,.arr 112 l6.length),(9,.I n3),(10,.I r9.1),(11,.ptr 111 0)] [(7,.box [.L fJ.2.L,.I fJ.2.At]),(111,.box [.I (i64 ((l7.length:Int)+fR.1)),.I dS.1,.I (l7.length:Int),.I jU.1,.I 0,.I 0,.str (ByteArray.mk #[]),.nil,.nil,.I r9.1,.I (max 1 jc),.I fJ.1]),(112,.arr 3 1 (l6.map LV.I)),(221,.arr 110 12 (l7.map bu.lv))] R R (by kernel_rfl) ?_ ?_
   ·exact Oh R<|mD R R R (fun _ b _ d=>yp (f:=bu.lv) my R b d)<|uy R<|mW R R R (fun _ b _ d=>mw (args:=[.ptr 7 0,.I 2]) (ml:=[(7,.box [.L r9.2.L,.I r9.2.At])]) (eD:=[(7,.box [.L fR.2.L,.I fR.2.At])]) R fb R (bZ<|bZ fF) (iP s7) (mC b mN) (bT R dO) R d)<|aI<|bw R R ⟨R,uy R<|mW R R R (fun _ b _ d=>mw (args:=[.ptr 7 0,.I 2]) (ml:=[(7,.box [.L fR.2.L,.I fR.2.At])]) (eD:=[(7,.box [.L dS.2.L,.I dS.2.At])]) R fb R (bZ<|bZ fF) (iP j5) (mC b mN) (bT R dO) R d)<|Oh R<|mD R R R (fun _ b _ d=>yp (f:=bu.lv) my R b d)<|aI<|hD (vs:=[(0,.I (i64 ((l7.length:Int)+fR.1))),(1,.I dS.1),(2,.I (l7.length:Int))]) UO EU R (lf mz aL aw R R R<|lf ia aL aw R R R<|lf gH aL aw R R R gZ) ⟨R,uy R<|aI<|ic (f:=LV.I) (ys:=[3,4,4,2,5,6]) bd nB aL R R R gB ⟨R,mW R R R (fun _ b _ d=>mw (args:=[.ptr 7 0,.L [3,4,4,2,5,6]]) (ml:=[(7,.box [.L dS.2.L,.I dS.2.At])]) (eD:=[(7,.box [.L jU.2.L,.I jU.2.At])]) R rO R (bZ<|bZ fF) (Ad vS) (mC b mN) (bT R dO) R d)<|gu R<|Oh R<|gu R<|mD R R R (fun _ b _ d=>eI (f:=LV.I) bd aw aL R b R qf d)<|mD R R R (fun _ b _ d=>oO (f:=LV.I) R b (cU qf).2 R R R aw br d)<|mM (fun _=>MU R R)<|aI<|hD (vs:=[(0,.I r9.1),(1,.I (max 1 jc))]) z6 z7 R (lf jE aL aw R R R<|lf fq aL aw R R R gZ) ⟨R,uy R<|mW R R R (fun _ b _ d=>mw (args:=[.ptr 7 0,.I 4]) (ml:=[(7,.box [.L jU.2.L,.I jU.2.At])]) (eD:=[(7,.box [.L fJ.2.L,.I fJ.2.At])]) R fb R (bZ<|bZ fF) (iP s8) (mC b mN) (bT R dO) R d)<|aI<|hD (vs:=[(0,.agg [.I (i64 ((l7.length:Int)+fR.1)),.I dS.1,.I (l7.length:Int)]),(1,.I jU.1),(3,.agg [.I r9.1,.I (max 1 jc)]),(4,.I fJ.1)]) NT xF R (lf ej du dw R R R<|lf fv aL aw R R R<|lf gm eM fj R R R<|lf pZ aL aw R R R gZ) ⟨R,E2<|ib (id:=111) R xF R R<|mS R R R (fun _ b _ d=>cN R R R fL eT b R R d) zM⟩⟩⟩⟩⟩
   refine LH.mid (fun e m=>∃ (Vm:List Int) (n16:Int) (n17:Int) (n18:Int) (n19:Int) (t20:ByteArray) (yj:List aq) (yl:List Int) (n23:Int) (n24:Int) (n25:Int) (rh:List Int),Ix aE p2 n3 l7 fR dS Vm n16 n17 n18 n19 t20 yj yl n23 n24 n25 rh=some r∧Wk (fun id=>Mem.of [(7,.box [.L p0.L,.I p0.At])] id ≠ .none) e m (Env.of [(0,.ptr 7 0),(2,.I p2),(7,.arr 221 l7.length),(8,.arr 112 rh.length),(9,.I n3),(11,.ptr 111 0)]) (Mem.of [(7,.box [.L Vm,.I n16]),(111,.box [.I (i64 ((l7.length:Int)+fR.1)),.I dS.1,.I (l7.length:Int),.I n17,.I n18,.I n19,.str t20,.lst 6 (yj.map aq.lv),.L yl,.I n23,.I n24,.I n25]),(112,.arr 3 1 (rh.map LV.I)),(221,.arr 110 12 (l7.map bu.lv))])) ?_ ?_
   ·obtain ⟨w60,hv,h⟩:=aa h
    refine LH.dF [0,2,7,8,9,10,11] 54 w60 [7,111,112,221] R ?_ ?_
    ·refine lh R<|aN R ?_
     obtain ⟨ZP,W8,hv⟩:=aa hv
     refine sN<|eI (f:=LV.I) bd aw aL R R R W8<|sN<|oO (f:=LV.I) R R (cU W8).2 R R R aw br<|sN<|gv R R<|bS R ?_
     by_cases Ar:(ZP == 0)=true
     ·obtain rfl:=oI (bO hv Ar)
      rw [Ar]; exact zA
     ·replace Ar:=bF Ar
      replace hv:=bN hv Ar
      refine aK Ar<|eF fv aw aL R R<|aK Ar<|de R R R R aw br<|aK Ar<|gv R R<|sN<|bY Ar R ?_
      obtain rfl:=oI hv
      exact zS
    clear hv
    refine LH.cd h R (fun V6 h=>?_) fun V6 h=>?_
    ·refine LH.cK [(0,.ptr 7 0),(2,.I p2),(7,.arr 221 l7.length),(8,.arr 112 l6.length),(9,.I n3),(10,.I r9.1),(11,.ptr 111 0)] [(7,.box [.L fJ.2.L,.I fJ.2.At]),(111,.box [.I (i64 ((l7.length:Int)+fR.1)),.I dS.1,.I (l7.length:Int),.I 2,.I 0,.I 0,.str (ByteArray.mk #[]),.nil,.nil,.I r9.1,.I (max 1 jc),.I fJ.1]),(112,.arr 3 1 (l6.map LV.I)),(221,.arr 110 12 (l7.map bu.lv))] R (sN<|eF fv aw aL R R<|s_<|cN R R R aw aL R R R zS)<|LH.mid (fun e m=>∃ (QW:Int),Iy aE F p2 n3 l6 l7 r9 fR dS fJ QW=some r∧Wk (fun id=>Mem.of [(7,.box [.L p0.L,.I p0.At])] id ≠ .none) e m (Env.of [(0,.ptr 7 0),(2,.I p2),(7,.arr 221 l7.length),(8,.arr 112 l6.length),(9,.I n3),(10,.I r9.1),(11,.ptr 111 0)]) (Mem.of [(7,.box [.L fJ.2.L,.I fJ.2.At]),(111,.box [.I (i64 ((l7.length:Int)+fR.1)),.I dS.1,.I (l7.length:Int),.I QW,.I 0,.I 0,.str (ByteArray.mk #[]),.nil,.nil,.I r9.1,.I (max 1 jc),.I fJ.1]),(112,.arr 3 1 (l6.map LV.I)),(221,.arr 110 12 (l7.map bu.lv))])) ?_ ?_
     ·obtain ⟨x69,Xc,h⟩:=aa h
      refine LH.ae R (lh R<|aN R<|sN<|eI (f:=LV.I) bd aw aL R R R Xc<|sN<|oO (f:=LV.I) R R (cU Xc).2 R R R aw br<|sN<|gv R R zQ) (LH.cd h R (fun abi h=>?_) fun abi h=>?_)
      ·exact LH.aJ R (sN<|eF fv aw aL R R<|s_<|cN R R R aw aL R R R zQ)<|ag ⟨1,h,Wk.eq R R R R⟩
      exact LH.skip<|ag ⟨2,h,Wk.eq R R R R⟩
     clear h
     rintro e m ⟨QW,h,hw⟩
     refine LH.wk hw ?_
     clear hw
     unfold Iy at h
     obtain ⟨Ou,W9,h⟩:=aa h
     obtain ⟨x66,Xa,h⟩:=aa h
     refine LH.cK [(0,.ptr 7 0),(2,.I p2),(7,.arr 221 l7.length),(8,.arr 112 (List.length<|l6.set r9.1.toNat<|min (i64 (Ou+1)) 9)),(9,.I n3),(10,.I r9.1),(11,.ptr 111 0)] [(7,.box [.L fJ.2.L,.I fJ.2.At]),(111,.box [.I (i64 ((l7.length:Int)+fR.1)),.I dS.1,.I (l7.length:Int),.I QW,.I 0,.I 0,.str (ByteArray.mk #[]),.nil,.nil,.I r9.1,.I (max 1 jc),.I fJ.1]),(112,.arr 3 1 (List.map LV.I<|l6.set r9.1.toNat<|min (i64 (Ou+1)) 9)),(221,.arr 110 12 (l7.map bu.lv))] R (lh R<|aN R<|lh R<|aN R<|sN<|eI (f:=LV.I) bd aw aL R R R W9<|sN<|oO (f:=LV.I) R R (cU W9).2 R R R aw br<|sN<|bw R R<|sX ((Gb R R).ok)<|sN<|eI (f:=LV.I) bd aw aL R R R Xa<|s_<|kC (f:=LV.I) (z':=(min (i64 (Ou+1)) 9)) R R R R aw aL R (cU Xa).2 R<|s0<|Wk.to (eC R<|eC R<|eC R<|eC (congrArg (LV.arr 112) (by simp))<|eC R<|eC R<|eC R eN) ⟨R,R,R,R,trivial⟩ R<|cF R) ?_
     obtain ⟨x67,Xb,h⟩:=aa h
     obtain ⟨xh,acd,h⟩:=aa h
     refine LH.gU [(0,.ptr 7 0),(2,.I p2),(7,.arr 221 l7.length),(8,.arr 112 (List.length<|l6.set r9.1.toNat<|min (i64 (Ou+1)) 9)),(9,.I n3),(11,.ptr 111 0)] [(7,.box [.L xh.2.L,.I xh.2.At]),(111,.box [.I (i64 ((l7.length:Int)+fR.1)),.I dS.1,.I (l7.length:Int),.I QW,.I xh.1.ID,.I xh.1.Version,.str xh.1.cO,.lst 6 (xh.1.aH.map aq.lv),.L xh.1.aO,.I 0,.I 0,.I 0]),(112,.arr 3 1 (List.map LV.I<|l6.set r9.1.toNat<|min (i64 (Ou+1)) 9)),(221,.arr 110 12 (l7.map bu.lv))] R ?_ ?_
     ·exact fW R<|aN R<|lh R<|aN R<|sN<|eI (f:=LV.I) bd aw aL R R R Xb<|sN<|oO (f:=LV.I) R R (cU Xb).2 R R R aw br<|aN R<|sN<|gq Xw (aat acd)<|sN<|hD (vs:=[]) z6 z7 R gZ<|sN<|eF fw bm bk R R<|s_<|cN R R R bm bk R R R<|sN<|eF gm fj eM R R<|s_<|cN R R R fj eM R R R<|sN<|eF pZ aw aL R R<|s_<|cN R R R aw aL R R R zS
     exact ag ⟨xh.2.L,xh.2.At,QW,xh.1.ID,xh.1.Version,xh.1.cO,xh.1.aH,xh.1.aO,0,0,0,(l6.set r9.1.toNat<|min (i64 (Ou+1)) 9),h,Wk.eq R R R R⟩
    exact LH.skip<|ag ⟨fJ.2.L,fJ.2.At,jU.1,0,0,(ByteArray.mk #[]),([]:List aq),([]:List Int),r9.1,(max 1 jc),fJ.1,l6,h,(Wk.trans (bQ [0,2,7,8,9,11] [7,111,112,221])<|Wk.trans (Wk.kp 10117 185 6 111 7 R R R R R<|cv R)<|Wk.trans (bQ [0,2,7,8,9,11] [7,111,112,221,10117])<|Wk.trans (Wk.trans (Wk.cL (f:=aq.lv) 10117 185 6 ([]:List aq) 111 R R R (ay R<|ay R<|ay R<|ay R<|ay R<|ay R<|ay R<|dW<|ay R<|ay R<|ay R<|ay R dV) R R<|cv R)<|bQ [0,2,7,8,9,11] [7,111,112,221])<|Wk.trans (bQ [0,2,7,8,9,11] [7,111,112,221])<|Wk.trans (Wk.kp 10118 3 1 111 8 R R R R R<|cv R)<|Wk.trans (bQ [0,2,7,8,9,11] [7,111,112,221,10118])<|Wk.trans (Wk.trans (Wk.cL (f:=LV.I) 10118 3 1 ([]:List Int) 111 R R R (ay R<|ay R<|ay R<|ay R<|ay R<|ay R<|ay R<|ay R<|dW<|ay R<|ay R<|ay R dV) R R<|cv R)<|bQ [0,2,7,8,9,11] [7,111,112,221])<|Wk.eq R R R R)⟩
   clear h
   rintro e m ⟨Vm,n16,n17,n18,n19,t20,yj,yl,n23,n24,n25,rh,h,hw⟩
   refine LH.wk hw ?_
   clear hw
   unfold Ix at h
   refine LH.mid (fun e m=>∃ (n27:Int) (n28:Int) (n29:Int) (n30:Int) (n31:Int) (n32:Int) (n33:Int) (XM:List Int) (n35:Int),xW aE n3 l7 n18 t20 yj yl n25 rh n27 n28 n29 n30 n31 n32 n33 XM n35=some r∧Wk (fun id=>Mem.of [(7,.box [.L p0.L,.I p0.At])] id ≠ .none) e m (Env.of [(0,.ptr 7 0),(2,.I p2),(7,.arr 221 l7.length),(8,.arr 112 rh.length),(9,.I n3),(11,.sptr [.I n27,.I n28,.I n29,.I n30,.I n18,.I n31,.str t20,.lst 6 (yj.map aq.lv),.L yl,.I n32,.I n33,.I n25])]) (Mem.of [(7,.box [.L XM,.I n35]),(112,.arr 3 1 (rh.map LV.I)),(221,.arr 110 12 (l7.map bu.lv))])) ?_ ?_
   ·obtain ⟨N4,hv,h⟩:=aa h
    refine LH.tr [0,2,7,8,9,11] 89 N4.1 [(7,.box [.L N4.2.1,.I N4.2.2]),(111,.box [.I (i64 ((l7.length:Int)+fR.1)),.I dS.1,.I (l7.length:Int),.I n17,.I n18,.I n19,.str t20,.lst 6 (yj.map aq.lv),.L yl,.I n23,.I n24,.I n25]),(112,.arr 3 1 (rh.map LV.I)),(221,.arr 110 12 (l7.map bu.lv))] R ?_ ?_
    ·refine aN R<|sN<|hJ R R<|bS R ?_
     by_cases uo:(decide (p2 > 0))=true
     ·replace hv:=bO hv uo
      refine aK uo<|oM (v:=(.ptr _ _)) R<|aK uo<|oM (v:=(.int _ _)) R ?_
      obtain ⟨zJ,LU,hv⟩:=aa hv
      refine aK uo<|gq pk (u7 LU)<|sN<|df uo R ?_
      obtain rfl:=oI hv
      exact zS
     ·replace uo:=bF uo
      replace hv:=bN hv uo
      refine bl uo<|bl uo<|bl uo<|sN<|bY uo R ?_
      obtain rfl:=oI hv
      exact zS
    clear hv
    refine LH.cd h R (fun Sr h=>?_) fun Sr h=>?_
    ·obtain ⟨Oj,abX,h⟩:=aa h
     refine LH.ae R (fW R<|sN<|gq fb (iP abX) zQ)<|LH.block<|LH.ae R (sN<|gv R R<|bK R zQ) (LH.cd h R (fun aa9 h=>?_) fun aa9 h=>?_)
     ·obtain ⟨Ol,abY,h⟩:=aa h
      exact LH.gU [(0,.ptr 7 0),(2,.I p2),(7,.arr 221 l7.length),(8,.arr 112 rh.length),(9,.I n3),(11,.sptr [.I (i64 ((l7.length:Int)+fR.1)),.I dS.1,.I (l7.length:Int),.I Ol.1,.I n18,.I n19,.str t20,.lst 6 (yj.map aq.lv),.L yl,.I n23,.I n24,.I n25])] [(7,.box [.L Ol.2.L,.I Ol.2.At]),(112,.arr 3 1 (rh.map LV.I)),(221,.arr 110 12 (l7.map bu.lv))] R (fW R<|sN<|gq ij (me abY)<|sN<|eF fv aw aL R R<|s_<|cN R R R aw aL R R R<|s0<|(Wk.trans (zB [0,2,7,8,9,11] [7,111,112,221] 111 R)<|Wk.eq R R R R))<|aB<|ag ⟨(i64 ((l7.length:Int)+fR.1)),dS.1,(l7.length:Int),Ol.1,n19,n23,n24,Ol.2.L,Ol.2.At,h,Wk.eq R R R R⟩
     refine LH.ae R (sN<|gv R R<|bK R zQ) (LH.cd h R (fun aba h=>?_) fun aba h=>?_)
     ·obtain ⟨Om,ab1,h⟩:=aa h
      exact LH.gU [(0,.ptr 7 0),(2,.I p2),(7,.arr 221 l7.length),(8,.arr 112 rh.length),(9,.I n3),(11,.sptr [.I (i64 ((l7.length:Int)+fR.1)),.I dS.1,.I (l7.length:Int),.I n17,.I n18,.I n19,.str t20,.lst 6 (yj.map aq.lv),.L yl,.I n23,.I Om.1,.I n25])] [(7,.box [.L Om.2.L,.I Om.2.At]),(112,.arr 3 1 (rh.map LV.I)),(221,.arr 110 12 (l7.map bu.lv))] R (fW R<|sN<|gq ij (me ab1)<|sN<|eF gm fj eM R R<|sN<|eF fq aw aL R R<|s_<|cN R R R aw aL R R R<|s0<|(Wk.trans (zB [0,2,7,8,9,11] [7,111,112,221] 111 R)<|Wk.eq R R R R))<|aB<|ag ⟨(i64 ((l7.length:Int)+fR.1)),dS.1,(l7.length:Int),n17,n19,n23,Om.1,Om.2.L,Om.2.At,h,Wk.eq R R R R⟩
     refine LH.ae R (sN<|gv R R<|bK R zQ) (LH.cd h R (fun abb h=>?_) fun abb h=>?_)
     ·obtain ⟨GP,SQ,h⟩:=aa h
      exact LH.gU [(0,.ptr 7 0),(2,.I p2),(7,.arr 221 l7.length),(8,.arr 112 rh.length),(9,.I n3),(11,.sptr [.I (i64 ((l7.length:Int)+fR.1)),.I dS.1,.I (l7.length:Int),.I n17,.I n18,.I n19,.str t20,.lst 6 (yj.map aq.lv),.L yl,.I GP.1,.I n24,.I n25])] [(7,.box [.L GP.2.L,.I GP.2.At]),(112,.arr 3 1 (rh.map LV.I)),(221,.arr 110 12 (l7.map bu.lv))] R (fW R<|sN<|gq fb (iP SQ)<|sN<|eF gm fj eM R R<|sN<|eF jE aw aL R R<|s_<|cN R R R aw aL R R R<|s0<|(Wk.trans (zB [0,2,7,8,9,11] [7,111,112,221] 111 R)<|Wk.eq R R R R))<|aB<|ag ⟨(i64 ((l7.length:Int)+fR.1)),dS.1,(l7.length:Int),n17,n19,GP.1,n24,GP.2.L,GP.2.At,h,Wk.eq R R R R⟩
     refine LH.ae R (sN<|gv R R<|bK R zQ) (LH.cd h R (fun Ss h=>?_) fun Ss h=>?_)
     ·obtain ⟨oQ,SR,h⟩:=aa h
      exact LH.gU [(0,.ptr 7 0),(2,.I p2),(7,.arr 221 l7.length),(8,.arr 112 rh.length),(9,.I n3),(11,.sptr [.I oQ.1.Time,.I oQ.1.Source,.I oQ.1.Seq,.I n17,.I n18,.I n19,.str t20,.lst 6 (yj.map aq.lv),.L yl,.I n23,.I n24,.I n25])] [(7,.box [.L oQ.2.L,.I oQ.2.At]),(112,.arr 3 1 (rh.map LV.I)),(221,.arr 110 12 (l7.map bu.lv))] R (fW R<|sN<|gq Xu (aav SR)<|sN<|eF ej dw du R R<|s_<|cN R R R dw du R R R<|s0<|(Wk.trans (zB [0,2,7,8,9,11] [7,111,112,221] 111 R)<|Wk.eq R R R R))<|aB<|ag ⟨oQ.1.Time,oQ.1.Source,oQ.1.Seq,n17,n19,n23,n24,oQ.2.L,oQ.2.At,h,Wk.eq R R R R⟩
     obtain ⟨On,ab3,h⟩:=aa h
     exact LH.gU [(0,.ptr 7 0),(2,.I p2),(7,.arr 221 l7.length),(8,.arr 112 rh.length),(9,.I n3),(11,.sptr [.I (i64 ((l7.length:Int)+fR.1)),.I dS.1,.I (l7.length:Int),.I n17,.I n18,.I On.1,.str t20,.lst 6 (yj.map aq.lv),.L yl,.I n23,.I n24,.I n25])] [(7,.box [.L On.2.L,.I On.2.At]),(112,.arr 3 1 (rh.map LV.I)),(221,.arr 110 12 (l7.map bu.lv))] R (fW R<|sN<|gq ij (me ab3)<|sN<|eF fw bm bk R R<|sN<|eF gR aw aL R R<|s_<|cN R R R aw aL R R R<|s0<|(Wk.trans (zB [0,2,7,8,9,11] [7,111,112,221] 111 R)<|Wk.eq R R R R))<|aB<|ag ⟨(i64 ((l7.length:Int)+fR.1)),dS.1,(l7.length:Int),n17,On.1,n23,n24,On.2.L,On.2.At,h,Wk.eq R R R R⟩
    exact LH.skip<|ag ⟨(i64 ((l7.length:Int)+fR.1)),dS.1,(l7.length:Int),n17,n19,n23,n24,N4.2.1,N4.2.2,h,(Wk.trans (zB [0,2,7,8,9,11] [7,111,112,221] 111 R)<|Wk.eq R R R R)⟩
   clear h
   rintro e m ⟨n27,n28,n29,n30,n31,n32,n33,XM,n35,h,hw⟩
   refine LH.wk hw ?_
   clear hw
   unfold xW at h
   obtain ⟨Vv,acD,h⟩:=aa h
   refine LH.ae R (lh R<|sN<|a7 R fL lO eT R R<|sN<|ic (f:=bu.lv) (ys:=[(bu.mk (bJ.mk n27 n28 n29) n30 (ah.mk n18 n31 t20 yj yl) (bD.mk n32 n33) n25)]) my zY eT R R R bu.ok<|sN<|oN (f:=bu.lv) my zY eT R R (cv R) R acD<|sE R zQ) ?_
   obtain ⟨GO,LR,h⟩:=aa h
   refine LH.ae R (fW R<|sN<|gq pk (u7 LR) zQ) (LH.cd h R (fun Sp h=>?_) fun Sp h=>?_)
   ·obtain ⟨PG,SO,h⟩:=aa h
    obtain ⟨VA,O6,h⟩:=aa h
    obtain ⟨v41,L3,h⟩:=aa h
    refine LH.aJ R (lh R<|lh R<|fW R<|lh R<|sN<|yp (f:=bu.lv) my R R<|sN<|gq fb (iP SO)<|sN<|eI (f:=bu.lv) my fL eT R R R O6<|sN<|rU (f:=bu.lv) R R (cU O6).2 R R fL lO eT R R<|sN<|ic (f:=bu.lv) (ys:=[VA]) my zY eT R R R bu.ok<|sN<|oN (f:=bu.lv) my zY eT R R (cv R) R L3<|sE R zQ)<|aB<|ag<|LH.aJ R (aN R<|sN<|j7 R R<|aX R zQ) ?_
    exact aM ⟨(i64 (n3 - 1)),PG.2.L,PG.2.At,rh,v41,aC ▸ h,R,R⟩<|Wk.eq R R R R
   refine LH.skip<|aB<|ag<|LH.aJ R (aN R<|sN<|j7 R R<|aX R zQ) ?_
   exact aM ⟨(i64 (n3 - 1)),GO.2.L,GO.2.At,rh,Vv,aC ▸ h,R,R⟩<|Wk.eq R R R R
  refine LH.exit<|bB<|bc<|aZ<|ag<|LH.wk ((Wk.trans (bQ [7] [7,221])<|Wk.trans (Wk.mZ (f:=bu.lv) (ig:=[(7,.lst 12 (l7.map bu.lv))]) 221 110 12 l7 R R (cv R)<|fZ fN)<|bQ [7] [7]))<|LH.ae R (dC R<|qV R zQ)<|LH.ret ?_
  obtain rfl:=oI h
  exact ba<|aT Tryz.results21
theorem Yf {F:Nat} {p0:List bu} {p1:(bu→Option bJ)} {p2:(bu→bu→Option Bool)} {r:List bJ × List Int} {dQ:Nat} {cW:List LV} (td:di Tryz.prog dQ) (jQ:LV.bf cW=true) (te:∀ (x0:bu) (q:bJ),p1 x0=some q→aF Tryz.prog dQ ([.agg [.I x0.ai.Time,.I x0.ai.Source,.I x0.ai.Seq,.I x0.Kind,.I x0.Item.ID,.I x0.Item.Version,.str x0.Item.cO,.lst 6 (x0.Item.aH.map aq.lv),.L x0.Item.aO,.I x0.Ref.ID,.I x0.Ref.Version,.I x0.Form]]++cW) (Mem.of []) (.agg [.I q.Time,.I q.Source,.I q.Seq]) (Mem.of [])) {jv:Nat} {fO:List LV} (Ju:di Tryz.prog jv) (yr:LV.bf fO=true) (Jv:∀ (x0:bu) (x1:bu) (q:Bool),p2 x0 x1=some q→aF Tryz.prog jv ([.agg [.I x0.ai.Time,.I x0.ai.Source,.I x0.ai.Seq,.I x0.Kind,.I x0.Item.ID,.I x0.Item.Version,.str x0.Item.cO,.lst 6 (x0.Item.aH.map aq.lv),.L x0.Item.aO,.I x0.Ref.ID,.I x0.Ref.Version,.I x0.Form],.agg [.I x1.ai.Time,.I x1.ai.Source,.I x1.ai.Seq,.I x1.Kind,.I x1.Item.ID,.I x1.Item.Version,.str x1.Item.cO,.lst 6 (x1.Item.aH.map aq.lv),.L x1.Item.aO,.I x1.Ref.ID,.I x1.Ref.Version,.I x1.Form]]++fO) (Mem.of []) (.bool q) (Mem.of [])) (h:CR F p0 p1 p2=some r):aF Tryz.prog 210 [.lst 12 (p0.map bu.lv),.fn dQ cW,.fn jv fO] (Mem.of []) (.tup [.lst 3 (r.1.map bJ.lv),.L r.2]) (Mem.of []):=by
  have M4:∀ {l:List LV},LV.bf l=true→LV.bf (l++fO)=true:=M5 yr
  have lB:LV.b6 fO=[]:=eK yr
  have yq:∀ {l:List LV},LV.bf l=true→LV.bf (l++cW)=true:=M5 jQ
  have gr:LV.b6 cW=[]:=eK jQ
  unfold CR at h
  refine aW Tryz.func210 R (nT Tryz.ntmps210 R)<|LH.wk (Wk.to (el:=[(0,.lst 12 (p0.map bu.lv)),(1,.fn dQ cW),(2,.fn jv fO)]) (ml:=[]) (eQ ⟨R,R,R,trivial⟩) mN (by simp [aQ,LV.refs,LV.b6,LV.cells,dZ,Env.args,Env.of,Env.put,Env.drop,gr,lB])<|cF R)<|LH.ae R (kE R<|kE R zQ) ?_
  obtain ⟨v1,jj,h⟩:=aa h
  refine LH.ae R (dC R<|sN<|bx (f:=bu.lv) my R<|sN<|QX (f:=bJ.lv) (z:=(bJ.mk 0 0 0)) (id:=117) R ln EU adC du R R R jj R<|sE R zQ) ?_
  obtain ⟨v2,hv2,h⟩:=aa h
  refine LH.ae R (dC R<|sN<|bx (f:=bu.lv) my R<|sN<|QX (f:=LV.I) (z:=0) (id:=120) R bd Oq nB aL R R R hv2 R<|sE R zQ)<|LH.ae R (sX ((k9 (kt:=40) (vt:=3) (id:=121) R).ok)<|sN<|oA (v:=(.mp _)) R zQ)<|LH.seq<|LH.cK [(0,.lst 12 (p0.map bu.lv)),(1,.fn dQ cW),(2,.fn jv fO),(8,.arr 117 v1.length),(9,.arr 120 v2.length),(10,.mp 121),(22,.lst 12 (p0.map bu.lv)),(23,.I (p0.length:Int)),(24,.I 0)] [(117,.arr 40 3 (v1.map bJ.lv)),(120,.arr 3 1 (v2.map LV.I)),(121,.map 40 3 (mv bJ.lv LV.I ([]:List (bJ × Int))))] R (dC R<|sN<|bx (f:=bu.lv) my R<|aN R<|s0<|Wk.to (eQ ⟨R,R,R,R,R,R,R,R,R,trivial⟩) ⟨R,R,R,trivial⟩ (by simp [aQ,LV.refs,LV.b6,LV.cells,dZ,Env.args,Env.of,Env.put,Env.drop,gr,lB])<|cF R)<|LH.block<|LH.loop (fun n e m=>∃ (n3:Int) (l4:List bJ) (l5:List Int) (m6:List (bJ × Int)),Gj p0 p1 p2 n n3 l4 l5 m6=some r∧e=Env.of [(0,.lst 12 (p0.map bu.lv)),(1,.fn dQ cW),(2,.fn jv fO),(8,.arr 117 l4.length),(9,.arr 120 l5.length),(10,.mp 121),(22,.lst 12 (p0.map bu.lv)),(23,.I (p0.length:Int)),(24,.I n3)]∧m=Mem.of [(117,.arr 40 3 (l4.map bJ.lv)),(120,.arr 3 1 (l5.map LV.I)),(121,.map 40 3 (mv bJ.lv LV.I m6))]) F ⟨0,v1,v2,([]:List (bJ × Int)),h,R,R⟩ ?_
  clear h
  rintro n e m ⟨n3,l4,l5,m6,h,rfl,rfl⟩
  rcases n with _ | n
  · exact nX h
  obtain ⟨aE,aC⟩:∃ f,f=Gj p0 p1 p2 n:=⟨_,rfl⟩
  replace h:Ni p0 p1 p2 aE n3 l4 l5 m6=some r:=aC ▸ h
  unfold Ni at h
  refine LH.ae R (sN<|dK R R zQ)<|LH.seq (LH.cd h R (fun xS h=>?_) fun xS h=>?_)
  ·refine LH.skip<|ag<|LH.wk (Wk.to (el:=[(0,.lst 12 (p0.map bu.lv)),(1,.fn dQ cW),(2,.fn jv fO),(8,.arr 117 l4.length),(9,.arr 120 l5.length),(10,.mp 121),(22,.lst 12 (p0.map bu.lv)),(23,.I (p0.length:Int)),(24,.I n3)]) (ml:=[(117,.arr 40 3 (l4.map bJ.lv)),(120,.arr 3 1 (l5.map LV.I)),(121,.map 40 3 (mv bJ.lv LV.I m6))]) (eQ ⟨R,R,R,R,R,R,R,R,R,trivial⟩) ⟨R,R,R,trivial⟩ (by simp [aQ,LV.refs,LV.b6,LV.cells,dZ,Env.args,Env.of,Env.put,Env.drop,gr,lB])<|cF R)<|LH.seq<|LH.block ?_
   obtain ⟨x8,Ck,h⟩:=aa h
   refine LH.ae R (aN R<|sN<|dJ (f:=bu.lv) my fL eT R R bu.ok Ck R<|sN<|a7 R fL lO eT R R<|sN<|ib (id:=112) R xF R R<|aX R<|s_<|cN R R R fL eT R R R zQ) ?_
   obtain ⟨r9,FQ,h⟩:=aa h
   obtain ⟨mI,oJ,h⟩:=aa h
   refine LH.cK [(0,.lst 12 (p0.map bu.lv)),(1,.fn dQ cW),(2,.fn jv fO),(8,.arr 117 (List.length<|l4.set n3.toNat r9)),(9,.arr 120 l5.length),(10,.mp 121),(11,.I n3),(12,.ptr 112 0),(22,.lst 12 (p0.map bu.lv)),(23,.I (p0.length:Int)),(24,.I n3)] [(112,.box [.I x8.ai.Time,.I x8.ai.Source,.I x8.ai.Seq,.I x8.Kind,.I x8.Item.ID,.I x8.Item.Version,.str x8.Item.cO,.lst 6 (x8.Item.aH.map aq.lv),.L x8.Item.aO,.I x8.Ref.ID,.I x8.Ref.Version,.I x8.Form]),(117,.arr 40 3 (List.map bJ.lv<|l4.set n3.toNat r9)),(120,.arr 3 1 (l5.map LV.I)),(121,.map 40 3 (mv bJ.lv LV.I m6))] R ?_ ?_
   ·refine lh R<|aN R<|sN<|oM (v:=(.fn _ _)) R<|sN<|wq R R R fL lO eT R R<|sN<|F5 (args:=[.agg [.I x8.ai.Time,.I x8.ai.Source,.I x8.ai.Seq,.I x8.Kind,.I x8.Item.ID,.I x8.Item.Version,.str x8.Item.cO,.lst 6 (x8.Item.aH.map aq.lv),.L x8.Item.aO,.I x8.Ref.ID,.I x8.Ref.Version,.I x8.Form]]++cW) (ew:=[.agg [.I x8.ai.Time,.I x8.ai.Source,.I x8.ai.Seq,.I x8.Kind,.I x8.Item.ID,.I x8.Item.Version,.str x8.Item.cO,.lst 6 (x8.Item.aH.map aq.lv),.L x8.Item.aO,.I x8.Ref.ID,.I x8.Ref.Version,.I x8.Form]]++cW) R td R fc.rfl (te _ _ FQ) (yq R) ?_
    exact sN<|eI (f:=bJ.lv) ln dw du R R R oJ<|s_<|kC (f:=bJ.lv) (z':=r9) R R R R dw du R (cU oJ).2 R<|s0<|Wk.to (eC R<|eC R<|eC R<|eC (congrArg (LV.arr 117) (by simp))<|eC R<|eC R<|eC R<|eC R<|eC R<|eC R<|eC R eN) ⟨R,R,R,R,trivial⟩ (by simp [aQ,LV.refs,LV.b6,LV.cells,dZ,Env.args,Env.of,Env.put,Env.drop,gr,lB])<|cF R
   obtain ⟨qa,ph,h⟩:=aa h
   refine LH.ae R (sN<|oM (v:=(.mp _)) R<|lh R<|aN R<|sN<|eI (f:=bJ.lv) ln dw du R R R ph<|sN<|rU (f:=bJ.lv) R R (cU ph).2 R R dw kG du R R<|sX ((qT (f:=bJ.lv) (g:=LV.I) (xs:=m6) (key:=qa) (z:=0) RH QU XL R R R Oq).ok)<|sG R<|sN<|gj R R<|sN<|gj R R<|aX R<|bK R zQ)<|LH.ae R (bS R<|sN<|dB R zQ) (LH.cd h R (fun jt h=>?_) fun jt h=>?_)
   ·obtain ⟨jc,qf,h⟩:=aa h
    refine LH.aJ R (sN<|oM (v:=(.mp _)) R<|lh R<|aN R<|sN<|eI (f:=bJ.lv) ln dw du R R R qf<|sN<|rU (f:=bJ.lv) R R (cU qf).2 R R dw kG du R R<|aN R<|Kl ((fY (f:=bJ.lv) (g:=LV.I) (xs:=m6) (key:=jc) (val:=n3) (.inl R) RH QU XL (fun _=>R) R R R R).ok) zQ)<|aB<|ag<|LH.aJ R (sN<|bw R R<|aN R zQ) ?_
    exact aM ⟨(i64 (n3+1)),(l4.set n3.toNat r9),l5,(et m6 jc n3),aC ▸ h,R,R⟩<|Wk.to (eQ ⟨R,R,R,R,R,R,R,R,R,trivial⟩) ⟨R,R,R,trivial⟩ (by simp [aQ,LV.refs,LV.b6,LV.cells,dZ,Env.args,Env.of,Env.put,Env.drop,gr,lB])<|cF R
   obtain ⟨e7,FU,h⟩:=aa h
   obtain ⟨ri,Az,h⟩:=aa h
   refine LH.eY mixed [] [0,0,0,0,0,1112,0,0] [(0,.lst 12 (p0.map bu.lv)),(1,.fn dQ cW),(2,.fn jv fO),(8,.arr 117 (List.length<|l4.set n3.toNat r9)),(9,.arr 120 l5.length),(10,.mp 121),(11,.I n3),(22,.lst 12 (p0.map bu.lv)),(23,.I (p0.length:Int)),(24,.I n3),(59,.bool (!ri))] [(117,.arr 40 3 (List.map bJ.lv<|l4.set n3.toNat r9)),(120,.arr 3 1 (l5.map LV.I)),(121,.map 40 3 (mv bJ.lv LV.I m6))] R R (by kernel_rfl) ?_ ?_
   ·refine mMf R<|nM R<|gu R<|aI<|dJ (f:=bu.lv) my fL eT R R bu.ok FU R ⟨R,aI<|a7 R fL lO eT R R ⟨R,mD R R R (fun _ b _ d=>wq R b R fL lO eT R R d)<|aI<|F5 (args:=[.agg [.I e7.ai.Time,.I e7.ai.Source,.I e7.ai.Seq,.I e7.Kind,.I e7.Item.ID,.I e7.Item.Version,.str e7.Item.cO,.lst 6 (e7.Item.aH.map aq.lv),.L e7.Item.aO,.I e7.Ref.ID,.I e7.Ref.Version,.I e7.Form],.agg [.I x8.ai.Time,.I x8.ai.Source,.I x8.ai.Seq,.I x8.Kind,.I x8.Item.ID,.I x8.Item.Version,.str x8.Item.cO,.lst 6 (x8.Item.aH.map aq.lv),.L x8.Item.aO,.I x8.Ref.ID,.I x8.Ref.Version,.I x8.Form]]++fO) (ew:=[.agg [.I e7.ai.Time,.I e7.ai.Source,.I e7.ai.Seq,.I e7.Kind,.I e7.Item.ID,.I e7.Item.Version,.str e7.Item.cO,.lst 6 (e7.Item.aH.map aq.lv),.L e7.Item.aO,.I e7.Ref.ID,.I e7.Ref.Version,.I e7.Form],.agg [.I x8.ai.Time,.I x8.ai.Source,.I x8.ai.Seq,.I x8.Kind,.I x8.Item.ID,.I x8.Item.Version,.str x8.Item.cO,.lst 6 (x8.Item.aH.map aq.lv),.L x8.Item.aO,.I x8.Ref.ID,.I x8.Ref.Version,.I x8.Form]]++fO) R Ju R fc.rfl (Jv _ _ _ Az) (M4 R) ⟨R,?_⟩⟩⟩
    exact aI<|dB R ⟨R,m0<|Wk.to (eQ ⟨R,R,R,R,R,R,R,R,R,R,R,trivial⟩) ⟨R,R,R,trivial⟩ (by simp [aQ,LV.refs,LV.b6,LV.cells,dZ,Env.args,Env.of,Env.put,Env.drop,gr,lB])<|cF R⟩
   refine LH.cd h R (fun o8 h=>?_) fun o8 h=>?_
   ·obtain ⟨jn,oK,h⟩:=aa h
    refine LH.gU [(0,.lst 12 (p0.map bu.lv)),(1,.fn dQ cW),(2,.fn jv fO),(8,.arr 117 (List.length<|l4.set n3.toNat r9)),(9,.arr 120 (List.length<|l5.set n3.toNat 1)),(10,.mp 121),(22,.lst 12 (p0.map bu.lv)),(23,.I (p0.length:Int)),(24,.I n3)] [(117,.arr 40 3 (List.map bJ.lv<|l4.set n3.toNat r9)),(120,.arr 3 1 (List.map LV.I<|l5.set n3.toNat 1)),(121,.map 40 3 (mv bJ.lv LV.I m6))] R (lh R<|aN R<|sN<|eI (f:=LV.I) bd aw aL R R R oK<|s_<|kC (f:=LV.I) (z':=1) R R R R aw aL R (cU oK).2 R<|s0<|Wk.to (eC R<|eC R<|eC R<|eC R<|eC (congrArg (LV.arr 120) (by simp))<|eC R<|eC R<|eC R<|eC R eN) ⟨R,R,R,trivial⟩ (by simp [aQ,LV.refs,LV.b6,LV.cells,dZ,Env.args,Env.of,Env.put,Env.drop,gr,lB])<|cF R)<|aB<|ag<|LH.aJ R (sN<|bw R R<|aN R zQ) ?_
    exact aM ⟨(i64 (n3+1)),(l4.set n3.toNat r9),(l5.set n3.toNat 1),m6,aC ▸ h,R,R⟩<|Wk.to (eQ ⟨R,R,R,R,R,R,R,R,R,trivial⟩) ⟨R,R,R,trivial⟩ (by simp [aQ,LV.refs,LV.b6,LV.cells,dZ,Env.args,Env.of,Env.put,Env.drop,gr,lB])<|cF R
   refine LH.skip<|aB<|ag<|LH.aJ R (sN<|bw R R<|aN R zQ) ?_
   exact aM ⟨(i64 (n3+1)),(l4.set n3.toNat r9),l5,m6,aC ▸ h,R,R⟩<|Wk.to (eQ ⟨R,R,R,R,R,R,R,R,R,trivial⟩) ⟨R,R,R,trivial⟩ (by simp [aQ,LV.refs,LV.b6,LV.cells,dZ,Env.args,Env.of,Env.put,Env.drop,gr,lB])<|cF R
  refine LH.exit<|bB<|bc<|aZ<|ag<|LH.wk ((Wk.trans (Wk.to (el:=[(8,.arr 117 l4.length),(9,.arr 120 l5.length)]) (ml:=[(117,.arr 40 3 (l4.map bJ.lv)),(120,.arr 3 1 (l5.map LV.I))]) (eQ ⟨R,R,trivial⟩) ⟨R,R,trivial⟩ (by simp [aQ,LV.refs,LV.b6,LV.cells,dZ,Env.args,Env.of,Env.put,Env.drop,gr,lB])<|cF R)<|Wk.trans (Wk.mZ (f:=bJ.lv) (ig:=[(8,.lst 3 (l4.map bJ.lv)),(9,.arr 120 l5.length)]) 117 40 3 l4 R R (cv R)<|fZ<|fK R fN)<|Wk.trans (Wk.mZ (f:=LV.I) (ig:=[(8,.lst 3 (l4.map bJ.lv)),(9,.L l5)]) 120 3 1 l5 R R (cv R)<|fK R<|fZ fN)<|Wk.to (el:=[(8,.lst 3 (l4.map bJ.lv)),(9,.L l5)]) (ml:=[]) (eQ ⟨R,R,trivial⟩) mN (by simp [aQ,LV.refs,LV.b6,LV.cells,dZ,Env.args,Env.of,Env.put,Env.drop,gr,lB])<|cF R))<|LH.ae R (dC R<|dC R<|qV R<|qV R zQ)<|LH.ret ?_
  obtain rfl:=oI h
  exact bL (aT Tryz.results210)<|dx R<|dx R<|dN ⟨gP mN,R,cF R,(Sub.tup<|bZ<|bZ fF)⟩
theorem Y5 {p0:bJ} {r:Bool} (h:Ig p0=some r):aF Tryz.prog 218 [.agg [.I p0.Time,.I p0.Source,.I p0.Seq]] (Mem.of []) (.bool r) (Mem.of []):=by
  unfold Ig at h
  refine aW Tryz.func218 R (nT Tryz.ntmps218 R)<|LH.ae R (sB<|da R R R R<|bK R zQ)<|LH.dF [] 2 ((decide (p0.Time ≥ 0)) && ((decide (p0.Time≤1000000)) && ((decide (p0.Source ≥ 0)) && ((decide (p0.Source≤99)) && ((decide (p0.Seq ≥ 0)) && (decide (p0.Seq≤9999))))))) [] R ?_ ?_
  ·refine sN<|av mz aw aL R R R<|sN<|aS R aw br<|sN<|ot R R<|bS R ?_
   by_cases hb2:(decide (p0.Time ≥ 0))=true
   ·refine aK hb2<|av mz aw aL R R R<|aK hb2<|aS R aw br<|aK hb2<|Kh R R<|sN<|df hb2 R<|bS R ?_
    by_cases hb3:(decide (p0.Time≤1000000))=true
    ·refine aK hb3<|av ia aw aL R R R<|aK hb3<|aS R aw br<|aK hb3<|ot R R<|sN<|df hb3 R<|bS R ?_
     by_cases bP:(decide (p0.Source ≥ 0))=true
     ·refine aK bP<|av ia aw aL R R R<|aK bP<|aS R aw br<|aK bP<|Kh R R<|sN<|df bP R<|bS R ?_
      by_cases fz:(decide (p0.Source≤99))=true
      ·refine aK fz<|av gH aw aL R R R<|aK fz<|aS R aw br<|aK fz<|ot R R<|sN<|df fz R<|bS R ?_
       by_cases bn:(decide (p0.Seq ≥ 0))=true
       ·exact aK bn<|av gH aw aL R R R<|aK bn<|aS R aw br<|aK bn<|Kh R R<|sN<|df bn R<|bK R<|s0<|Wk.to (eC (cB<|Eq.trans (Eq.trans (Eq.trans (Eq.trans (eU bn)<|eU fz)<|eU bP)<|eU hb3)<|eU hb2) eN) mN R<|cF R
       ·replace bn:=bF bn
        exact bl bn<|bl bn<|bl bn<|sN<|bY bn R<|bK R<|s0<|Wk.to (eC (cB<|Eq.trans (Eq.trans (Eq.trans (Eq.trans (mf bn)<|eU fz)<|eU bP)<|eU hb3)<|eU hb2) eN) mN R<|cF R
      ·replace fz:=bF fz
       exact bl fz<|bl fz<|bl fz<|sN<|bY fz R<|bS R<|sK<|sN<|bY R R<|bK R<|s0<|Wk.to (eC (cB<|Eq.trans (Eq.trans (Eq.trans (mf fz)<|eU bP)<|eU hb3)<|eU hb2) eN) mN R<|cF R
     ·replace bP:=bF bP
      exact bl bP<|bl bP<|bl bP<|sN<|bY bP R<|bS R<|sK<|sN<|bY R R<|bS R<|sK<|sN<|bY R R<|bK R<|s0<|Wk.to (eC (cB<|Eq.trans (Eq.trans (mf bP)<|eU hb3)<|eU hb2) eN) mN R<|cF R
    ·replace hb3:=bF hb3
     exact bl hb3<|bl hb3<|bl hb3<|sN<|bY hb3 R<|bS R<|sK<|sN<|bY R R<|bS R<|sK<|sN<|bY R R<|bS R<|sK<|sN<|bY R R<|bK R<|s0<|Wk.to (eC (cB<|Eq.trans (mf hb3)<|eU hb2) eN) mN R<|cF R
   ·replace hb2:=bF hb2
    exact bl hb2<|bl hb2<|bl hb2<|sN<|bY hb2 R<|bS R<|sK<|sN<|bY R R<|bS R<|sK<|sN<|bY R R<|bS R<|sK<|sN<|bY R R<|bS R<|sK<|sN<|bY R R<|bK R<|s0<|Wk.to (eC (cB<|mf hb2) eN) mN R<|cF R
  refine LH.ret ?_
  obtain rfl:=oI h
  exact ba<|aT Tryz.results218
theorem mQ {p0:Int} {r:Bool} (h:cmp_isNaN_int p0=some r):aF Tryz.prog 203 [.I p0] (Mem.of []) (.bool r) (Mem.of []):=by
  unfold cmp_isNaN_int at h
  refine aW Tryz.func203 R (nT Tryz.ntmps203 R)<|LH.ae R (bK R zQ)<|LH.ae R (aN R<|aN R<|sN<|iR R R<|bK R zQ)<|LH.ret ?_
  obtain rfl:=oI h
  exact ba<|aT Tryz.results203
theorem dH {p0:Int} {p1:Int} {r:Int} (h:db p0 p1=some r):aF Tryz.prog 160 [.I p0,.I p1] (Mem.of []) (.I r) (Mem.of []):=by
  unfold db at h
  refine aW Tryz.func160 R (nT Tryz.ntmps160 R)<|LH.ae R (aX R zQ) ?_
  obtain ⟨r1,dI,h⟩:=aa h
  refine LH.ae R (aN R<|sN<|dh Mv (mQ dI)<|bK R zQ) ?_
  obtain ⟨r2,hr2,h⟩:=aa h
  refine LH.ae R (aN R<|sN<|dh Mv (mQ hr2)<|bK R zQ)<|LH.seq<|LH.ae R (bS R zQ) (LH.cd h R (fun mn h=>?_) fun mn h=>?_)
  ·refine LH.seq<|LH.ae R (bS R zQ) (LH.cd h R (fun qE h=>?_) fun qE h=>?_)
   ·refine LH.ae R (aX R zQ)<|LH.ret<|aA<|aA ?_
    obtain rfl:=oI h
    exact ba<|aT Tryz.results160
   refine LH.skip<|ag<|LH.ae R (aX R zQ)<|LH.ret<|aA ?_
   obtain rfl:=oI h
   exact ba<|aT Tryz.results160
  refine LH.skip<|ag<|LH.seq<|LH.ae R (bS R zQ) (LH.cd h R (fun oV h=>?_) fun oV h=>?_)
  ·refine LH.ae R (aX R zQ)<|LH.ret<|aA ?_
   obtain rfl:=oI h
   exact ba<|aT Tryz.results160
  refine LH.skip<|ag<|LH.seq<|LH.ae R (aN R<|aN R<|sN<|dK R R zQ) (LH.cd h R (fun lz h=>?_) fun lz h=>?_)
  ·refine LH.ae R (aX R zQ)<|LH.ret<|aA ?_
   obtain rfl:=oI h
   exact ba<|aT Tryz.results160
  refine LH.skip<|ag<|LH.seq<|LH.ae R (aN R<|aN R<|sN<|hJ R R zQ) (LH.cd h R (fun xS h=>?_) fun xS h=>?_)
  ·refine LH.ae R (aX R zQ)<|LH.ret<|aA ?_
   obtain rfl:=oI h
   exact ba<|aT Tryz.results160
  refine LH.skip<|ag<|LH.ae R (aX R zQ)<|LH.ret ?_
  obtain rfl:=oI h
  exact ba<|aT Tryz.results160
theorem mh {F:Nat} {p0:List Int} {r:Int} (h:iC F p0=some r):aF Tryz.prog 159 [.L p0] (Mem.of []) (.I r) (Mem.of []):=by
  unfold iC at h
  refine aW Tryz.func159 R (nT Tryz.ntmps159 R)<|LH.ae R (aX R zQ)<|LH.ae R (aX R zQ)<|LH.seq<|LH.ae R (dC R<|sN<|bx (f:=LV.I) bd R<|aN R zQ)<|LH.block<|LH.bW (fun n e m=>∃ (n1:Int),fl p0 n n1=some r∧e=Env.of [(3,.I 0),(6,.L p0),(7,.I (p0.length:Int)),(8,.I n1)]∧m=Mem.of []) F ⟨0,h,R,R⟩ ?_
  clear h
  rintro n e m ⟨n1,h,rfl,rfl⟩
  rcases n with _ | n
  · exact nX h
  obtain ⟨aE,aC⟩:∃ f,f=fl p0 n:=⟨_,rfl⟩
  replace h:fU p0 aE n1=some r:=aC ▸ h
  unfold fU at h
  refine LH.ae R (sN<|dK R R zQ)<|LH.seq (LH.cd h R (fun gK h=>?_) fun gK h=>?_)
  ·refine LH.skip<|ag<|LH.seq<|LH.block ?_
   obtain ⟨x3,fo,h⟩:=aa h
   refine LH.ae R (sN<|dJ (f:=LV.I) bd aw aL R R gB fo R<|sN<|aS R aw br<|aX R zQ)<|LH.ae R (aN R<|aN R<|sN<|iR R R zQ) (LH.cd h R (fun qE h=>?_) fun qE h=>?_)
   ·refine LH.ae R (aN R<|aX R zQ)<|LH.ret<|aU<|aA<|cc<|aU<|aA ?_
    obtain rfl:=oI h
    exact ba<|aT Tryz.results159
   refine LH.skip<|aB<|ag<|LH.aJ R (sN<|bw R R<|aN R zQ) ?_
   exact aM ⟨(i64 (n1+1)),aC ▸ h,R,R⟩<|Wk.eq R R R R
  refine LH.exit<|bB<|bc<|aZ<|ag<|LH.ae R (aN R<|aX R zQ)<|LH.ret ?_
  obtain rfl:=oI h
  exact ba<|aT Tryz.results159
theorem Q2 {F:Nat} {p0:bJ} {p1:bJ} {r:Int} (h:JE F p0 p1=some r):aF Tryz.prog 220 [.agg [.I p0.Time,.I p0.Source,.I p0.Seq],.agg [.I p1.Time,.I p1.Source,.I p1.Seq]] (Mem.of []) (.I r) (Mem.of []):=by
  unfold JE at h
  refine aW Tryz.func220 R (nT Tryz.ntmps220 R)<|LH.ae R (sB<|da R R R R<|sB<|da R R R R<|aX R zQ) ?_
  obtain ⟨r1,dI,h⟩:=aa h
  obtain ⟨r2,hr2,h⟩:=aa h
  obtain ⟨r3,hr3,h⟩:=aa h
  refine LH.lN mixed [] [0,0,0,0,0,0,0,0,0,0,0,0,0] R R (by kernel_rfl) (aI<|av ia aw aL R R R ⟨R,aI<|aS R aw br ⟨R,aI<|av ia aw aL R R R ⟨R,aI<|aS R aw br ⟨R,aI<|dh qN (dH dI) ⟨R,aI<|av gH aw aL R R R ⟨R,aI<|aS R aw br ⟨R,aI<|av gH aw aL R R R ⟨R,aI<|aS R aw br ⟨R,aI<|dh qN (dH hr2) ⟨R,aI<|ic (f:=LV.I) (ys:=[r1,r2]) bd nB aL R R R gB ⟨R,aI<|dh F2 (mh hr3) ⟨R,Kf R zV⟩⟩⟩⟩⟩⟩⟩⟩⟩⟩⟩⟩)<|LH.ret ?_
  obtain rfl:=oI h
  exact ba<|aT Tryz.results220
theorem YU {F:Nat} {p0:Int} {p1:Int} {c0:List bJ} {r:Int} (h:zw F p0 p1 c0=some r):aF Tryz.prog 219 [.I p0,.I p1,.sptr [.lst 3 (c0.map bJ.lv)]] (Mem.of []) (.I r) (Mem.of []):=by
  unfold zw at h
  refine aW Tryz.func219 R (nT Tryz.ntmps219 R)<|LH.ae R (aX R zQ) ?_
  obtain ⟨x1,Z4,h⟩:=aa h
  obtain ⟨x2,Bl,h⟩:=aa h
  obtain ⟨r3,hr3,h⟩:=aa h
  obtain ⟨r4,FO,h⟩:=aa h
  obtain ⟨r5,qK,h⟩:=aa h
  refine LH.eY mixed [] [0,0,0,0,0,0,0,0,0,0,0,0,0,0,0] [(5,.I r5)] [] R R (by kernel_rfl) ?_ ?_
  ·exact aI<|aS R pC pA ⟨R,gu R<|aI<|dJ (f:=bJ.lv) ln dw du R R bJ.ok Z4 R ⟨R,aI<|a7 R dw kG du R R ⟨R,aI<|aS R pC pA ⟨R,gu R<|aI<|dJ (f:=bJ.lv) ln dw du R R bJ.ok Bl R ⟨R,aI<|a7 R dw kG du R R ⟨R,aI<|dh Mw (Q2 hr3) ⟨R,gu R<|gu R<|aI<|dh qN (dH FO) ⟨R,aI<|ic (f:=LV.I) (ys:=[r3,r4]) bd nB aL R R R gB ⟨R,aI<|dh F2 (mh qK) ⟨R,Kf R zM⟩⟩⟩⟩⟩⟩⟩⟩⟩⟩
  refine LH.ret ?_
  obtain rfl:=oI h
  exact ba<|aT Tryz.results219
theorem Y3 {F:Nat} {p0:List bJ} {p1:List Int} {r:List gQ} (h:Ie F p0 p1=some r):aF Tryz.prog 199 [.lst 3 (p0.map bJ.lv),.L p1] (Mem.of []) (.lst 2 (r.map gQ.lv)) (Mem.of []):=by
  unfold Ie at h
  refine aW Tryz.func199 R (nT Tryz.ntmps199 R)<|LH.ae R (sB<|da R R R R<|kE R zQ)<|LH.ae R (kE R zQ)<|LH.seq<|LH.ae R (sN<|aS R pC pA<|sN<|bx (f:=bJ.lv) ln R<|aN R zQ)<|LH.block<|LH.wk ((Wk.trans (bQ [1,2,5,13,14,15] [])<|Wk.trans (Wk.wA (ig:=[(1,.L p1),(2,.sptr [.lst 3 (p0.map bJ.lv)]),(5,.arr 125 (List.length ([]:List Int))),(13,.lst 3 (p0.map bJ.lv)),(14,.I (p0.length:Int)),(15,.I 0)]) 125 3 1 R R<|wK<|wK<|wO<|wK<|wK<|wK wN)<|bQ [1,2,5,13,14,15] [125]))<|LH.bW (fun n e m=>∃ (n1:Int) (l2:List Int),zr F p0 p1 n n1 l2=some r∧e=Env.of [(1,.L p1),(2,.sptr [.lst 3 (p0.map bJ.lv)]),(5,.arr 125 l2.length),(13,.lst 3 (p0.map bJ.lv)),(14,.I (p0.length:Int)),(15,.I n1)]∧m=Mem.of [(125,.arr 3 1 (l2.map LV.I))]) F ⟨0,([]:List Int),h,R,R⟩ ?_
  clear h
  rintro n e m ⟨n1,l2,h,rfl,rfl⟩
  rcases n with _ | n
  · exact nX h
  obtain ⟨aE,aC⟩:∃ f,f=zr F p0 p1 n:=⟨_,rfl⟩
  replace h:DO F p0 p1 aE n1 l2=some r:=aC ▸ h
  unfold DO at h
  refine LH.ae R (sN<|dK R R zQ)<|LH.seq (LH.cd h R (fun mn h=>?_) fun mn h=>?_)
  ·refine LH.skip<|ag<|LH.seq<|LH.block ?_
   obtain ⟨x4,AG,h⟩:=aa h
   refine LH.cM R (aN R<|sN<|dJ (f:=bJ.lv) ln dw du R R bJ.ok AG R<|sN<|a7 R dw kG du R R<|sN<|ib (id:=107) R EU R R<|aX R<|s_<|cN R R R dw du R R R<|s0<|zB [1,2,5,6,7,13,14,15] [107,125] 107 R) ?_
   obtain ⟨r5,qK,h⟩:=aa h
   refine LH.ae R (sN<|a7 R dw kG du R R<|sN<|dh T5 (Y5 qK) zQ) (LH.cd h R (fun lz h=>?_) fun lz h=>?_)
   ·obtain ⟨v7,hv7,h⟩:=aa h
    refine LH.aJ R (lh R<|aN R<|sN<|ic (f:=LV.I) (ys:=[n1]) bd nB aL R R R gB<|sN<|oN (f:=LV.I) bd nB aL R R (cv R) R hv7<|sE R zQ)<|aB<|ag<|LH.aJ R (sN<|bw R R<|aN R zQ) ?_
    exact aM ⟨(i64 (n1+1)),v7,aC ▸ h,R,R⟩<|Wk.eq R R R R
   refine LH.skip<|aB<|ag<|LH.aJ R (sN<|bw R R<|aN R zQ) ?_
   exact aM ⟨(i64 (n1+1)),l2,aC ▸ h,R,R⟩<|Wk.eq R R R R
  refine LH.exit<|bB<|bc<|aZ<|ag ?_
  obtain ⟨l8,hl8,h⟩:=aa h
  refine LH.cM R (lh R<|sN<|Br (vs:=[.sptr [.lst 3 (p0.map bJ.lv)]]) R<|sN<|gq Mu (EC Tryz.RA R T6 R (fun _ _ _ h=>YU h) 125 3 hl8)<|s0<|Wk.trans (Wk.to (el:=[(1,.L p1),(2,.sptr [.lst 3 (p0.map bJ.lv)]),(5,.arr 125 l8.length)]) (ml:=[(125,.arr 3 1 (l8.map LV.I))]) (eC R<|eC R<|eC (congrArg (LV.arr 125)<|zN hl8) eN) ⟨R,trivial⟩ R<|cF R)<|Wk.mZ (f:=LV.I) (ig:=[(1,.L p1),(2,.sptr [.lst 3 (p0.map bJ.lv)]),(5,.L l8)]) 125 3 1 l8 R R (cv R)<|fK R<|fK R<|fZ fN)<|LH.ae R (kE R zQ)<|LH.seq<|LH.ae R (dC R<|sN<|bx (f:=LV.I) bd R<|aN R zQ)<|LH.block<|LH.wk ((Wk.trans (bQ [1,2,8,30,31,32] [])<|Wk.trans (Wk.wA (ig:=[(1,.L p1),(2,.sptr [.lst 3 (p0.map bJ.lv)]),(8,.arr 161 (List.length ([]:List gQ))),(30,.L l8),(31,.I (l8.length:Int)),(32,.I 0)]) 161 299 2 R R<|wK<|wK<|wO<|wK<|wK<|wK wN)<|bQ [1,2,8,30,31,32] [161]))<|LH.bW (fun n e m=>∃ (n9:Int) (iN:List gQ),zt F p0 p1 l8 n n9 iN=some r∧e=Env.of [(1,.L p1),(2,.sptr [.lst 3 (p0.map bJ.lv)]),(8,.arr 161 iN.length),(30,.L l8),(31,.I (l8.length:Int)),(32,.I n9)]∧m=Mem.of [(161,.arr 299 2 (iN.map gQ.lv))]) F ⟨0,([]:List gQ),h,R,R⟩ ?_
  clear h
  rintro n e m ⟨n9,iN,h,rfl,rfl⟩
  rcases n with _ | n
  · exact nX h
  obtain ⟨dU,dR⟩:∃ f,f=zt F p0 p1 l8 n:=⟨_,rfl⟩
  replace h:DP F p0 p1 l8 dU n9 iN=some r:=dR ▸ h
  unfold DP at h
  refine LH.ae R (sN<|dK R R zQ)<|LH.seq (LH.cd h R (fun vI h=>?_) fun vI h=>?_)
  ·refine LH.skip<|ag<|LH.seq<|LH.block ?_
   obtain ⟨kb,ux,h⟩:=aa h
   refine LH.ae R (sN<|dJ (f:=LV.I) bd aw aL R R gB ux R<|sN<|aS R aw br<|aX R zQ)<|LH.ae R (lh R<|sN<|yp (f:=gQ.lv) tX R R<|sN<|j7 R R<|aX R zQ)<|LH.seq ?_
   obtain ⟨N3,hv,h⟩:=aa h
   refine LH.eY mixed [] [0,0,0,0,0,0,1,1,1,0,0,0,0,0,0,0,0,0] [(1,.L p1),(2,.sptr [.lst 3 (p0.map bJ.lv)]),(8,.arr 161 iN.length),(10,.I kb),(11,.I (i64 ((iN.length:Int) - 1))),(30,.L l8),(31,.I (l8.length:Int)),(32,.I n9),(56,.bool N3)] [(161,.arr 299 2 (iN.map gQ.lv))] R R (by kernel_rfl) ?_ ?_
   ·refine gu R<|aI<|dK R R ⟨R,qg R ?_⟩
    by_cases cw:(decide ((i64 ((iN.length:Int) - 1))<0))=true
    ·replace hv:=bO hv cw
     refine cJ cw<|cJ cw<|cJ cw<|cJ cw<|cJ cw<|cJ cw<|cJ cw<|cJ cw<|cJ cw<|cJ cw<|cJ cw<|cJ cw<|cJ cw<|cJ cw<|aI<|df cw R ⟨R,?_⟩
     obtain rfl:=oI hv
     exact zM
    ·replace cw:=bF cw
     replace hv:=bN hv cw
     refine mT R (cB cw)<|aI<|aS R pC pA ⟨R,mT R (cB cw)<|Oh R<|mT R (cB cw)<|gu R ?_⟩
     obtain ⟨oe,FV,hv⟩:=aa hv
     refine mT R (cB cw)<|Kg<|eI (f:=gQ.lv) tX zW ub R R R FV ⟨R,mT R (cB cw)<|Kg<|Jp (f:=gQ.lv) u1 aw aL R R R ⟨R,mT R (cB cw)<|Kg<|oO (f:=gQ.lv) R R (cU FV).2 R R R aw br ⟨R,?_⟩⟩⟩
     obtain ⟨jn,oK,hv⟩:=aa hv
     refine mT R (cB cw)<|aI<|dJ (f:=bJ.lv) ln dw du R R bJ.ok oK R ⟨R,mT R (cB cw)<|aI<|a7 R dw kG du R R ⟨R,mT R (cB cw)<|aI<|aS R pC pA ⟨R,mT R (cB cw)<|gu R ?_⟩⟩⟩
     obtain ⟨x18,O4,hv⟩:=aa hv
     refine mT R (cB cw)<|aI<|dJ (f:=bJ.lv) ln dw du R R bJ.ok O4 R ⟨R,mT R (cB cw)<|aI<|a7 R dw kG du R R ⟨R,?_⟩⟩
     obtain ⟨Bt,LM,hv⟩:=aa hv
     refine mT R (cB cw)<|aI<|dh Mw (Q2 LM) ⟨R,mT R (cB cw)<|aI<|iR R R ⟨R,aI<|bY cw R ⟨R,?_⟩⟩⟩
     obtain rfl:=oI hv
     exact zM
   clear hv
   refine LH.cd h R (fun qe h=>?_) fun qe h=>?_
   ·obtain ⟨v21,L1,h⟩:=aa h
    refine LH.ae R (lh R<|aN R<|sN<|hD (vs:=[(0,.I kb),(1,.bool false)]) ZD RQ R (lf u1 aL aw R R R<|lf Ba oU jG R R R gZ)<|sN<|ic (f:=gQ.lv) (ys:=[(gQ.mk kb false)]) tX RJ ub R R R gQ.ok<|sN<|oN (f:=gQ.lv) tX RJ ub R R (cv R) R L1<|sE R zQ)<|LH.exit<|bB<|aZ<|ag<|LH.aJ R (sN<|bw R R<|aN R zQ) ?_
    exact aM ⟨(i64 (n9+1)),v21,dR ▸ h,R,R⟩<|Wk.eq R R R R
   refine LH.skip<|ag ?_
   obtain ⟨x22,WW,h⟩:=aa h
   refine LH.ae R (lh R<|aN R<|sN<|eI (f:=gQ.lv) tX zW ub R R R WW<|sN<|Jp (f:=gQ.lv) u1 aw aL R R R<|sN<|oO (f:=gQ.lv) R R (cU WW).2 R R R aw br<|aX R zQ) ?_
   obtain ⟨UW,hv,h⟩:=aa h
   refine LH.eY mixed [] [0,0,0,0,0,0,0,0,0,0,0,0,0,0,0,0,0,0,0,0] [(1,.L p1),(2,.sptr [.lst 3 (p0.map bJ.lv)]),(8,.arr 161 iN.length),(11,.I (i64 ((iN.length:Int) - 1))),(30,.L l8),(31,.I (l8.length:Int)),(32,.I n9),(86,.bool UW)] [(161,.arr 299 2 (iN.map gQ.lv))] R R (by kernel_rfl) ?_ ?_
   ·refine aI<|aS R pC pA ⟨R,gu R ?_⟩
    obtain ⟨Hc,Cj,hv⟩:=aa hv
    refine aI<|dJ (f:=bJ.lv) ln dw du R R bJ.ok Cj R ⟨R,aI<|a7 R dw kG du R R ⟨R,aI<|aS R pC pA ⟨R,gu R ?_⟩⟩⟩
    obtain ⟨x26,acT,hv⟩:=aa hv
    refine aI<|dJ (f:=bJ.lv) ln dw du R R bJ.ok acT R ⟨R,aI<|a7 R dw kG du R R ⟨R,aI<|XW R R (RZ Hc x26) ⟨R,qg R ?_⟩⟩⟩
    by_cases ky:(!(decide (Hc=x26)))=true
    ·replace hv:=bO hv ky
     refine cJ ky<|cJ ky<|cJ ky<|cJ ky<|cJ ky<|cJ ky<|cJ ky<|cJ ky<|cJ ky<|aI<|df ky R ⟨R,?_⟩
     obtain rfl:=oI hv
     exact zM
    ·replace ky:=bF ky
     replace hv:=bN hv ky
     refine mT R (cB ky)<|nM R<|mT R (cB ky)<|gu R ?_
     obtain ⟨x28,acU,hv⟩:=aa hv
     refine mT R (cB ky)<|aI<|dJ (f:=LV.I) bd aw aL R R gB acU R ⟨R,mT R (cB ky)<|aI<|aS R aw br ⟨R,mT R (cB ky)<|nM R<|mT R (cB ky)<|gu R ?_⟩⟩
     obtain ⟨x29,acV,hv⟩:=aa hv
     refine mT R (cB ky)<|aI<|dJ (f:=LV.I) bd aw aL R R gB acV R ⟨R,mT R (cB ky)<|aI<|aS R aw br ⟨R,mT R (cB ky)<|aI<|iR R R ⟨R,aI<|bY ky R ⟨R,?_⟩⟩⟩⟩
     obtain rfl:=oI hv
     exact zM
   clear hv
   refine LH.cd h R (fun rE h=>?_) fun rE h=>?_
   ·obtain ⟨Vx,WX,h⟩:=aa h
    refine LH.gU [(1,.L p1),(2,.sptr [.lst 3 (p0.map bJ.lv)]),(8,.arr 161 (List.length<|iN.set ((i64 ((iN.length:Int) - 1)).toNat)<|gQ.mk Vx.first true)),(30,.L l8),(31,.I (l8.length:Int)),(32,.I n9)] [(161,.arr 299 2 (List.map gQ.lv<|iN.set ((i64 ((iN.length:Int) - 1)).toNat)<|gQ.mk Vx.first true))] R (lh R<|aN R<|sN<|eI (f:=gQ.lv) tX zW ub R R R WX<|sN<|Jp (f:=gQ.lv) Ba jG oU R R R<|s_<|kC (f:=gQ.lv) (z':=(gQ.mk Vx.first true)) R R R R jG oU R (cU WX).2 R<|s0<|Wk.to (eC R<|eC R<|eC (congrArg (LV.arr 161) (by simp))<|eC R<|eC R<|eC R eN) ⟨R,trivial⟩ R<|cF R)<|aB<|ag<|LH.aJ R (sN<|bw R R<|aN R zQ) ?_
    exact aM ⟨(i64 (n9+1)),(iN.set ((i64 ((iN.length:Int) - 1)).toNat)<|gQ.mk Vx.first true),dR ▸ h,R,R⟩<|Wk.eq R R R R
   refine LH.skip<|aB<|ag<|LH.aJ R (sN<|bw R R<|aN R zQ) ?_
   exact aM ⟨(i64 (n9+1)),iN,dR ▸ h,R,R⟩<|Wk.eq R R R R
  refine LH.exit<|bB<|bc<|aZ<|ag<|LH.wk ((Wk.trans (bQ [8] [161])<|Wk.trans (Wk.mZ (f:=gQ.lv) (ig:=[(8,.lst 2 (iN.map gQ.lv))]) 161 299 2 iN R R (cv R)<|fZ fN)<|bQ [8] []))<|LH.ae R (dC R<|qV R zQ)<|LH.ret ?_
  obtain rfl:=oI h
  exact ba<|aT Tryz.results199
theorem YZ {F:Nat} {p0:bJ} {p1:bJ} {r:Int} (h:Eb F p0 p1=some r):aF Tryz.prog 202 [.agg [.I p0.Time,.I p0.Source,.I p0.Seq],.agg [.I p1.Time,.I p1.Source,.I p1.Seq]] (Mem.of []) (.I r) (Mem.of []):=by
  unfold Eb at h
  refine aW Tryz.func202 R (nT Tryz.ntmps202 R)<|LH.ae R (sB<|da R R R R<|sB<|da R R R R<|aX R zQ) ?_
  obtain ⟨r1,dI,h⟩:=aa h
  obtain ⟨r2,hr2,h⟩:=aa h
  obtain ⟨r3,hr3,h⟩:=aa h
  obtain ⟨r4,FO,h⟩:=aa h
  refine LH.eY mixed [] [0,0,0,0,0,0,0,0,0,0,0,0,0,0,0,0,0,0] [(4,.I r4)] [] R R (by kernel_rfl) ?_ ?_
  ·exact aI<|av mz aw aL R R R ⟨R,aI<|aS R aw br ⟨R,aI<|av mz aw aL R R R ⟨R,aI<|aS R aw br ⟨R,aI<|dh qN (dH dI) ⟨R,aI<|av ia aw aL R R R ⟨R,aI<|aS R aw br ⟨R,aI<|av ia aw aL R R R ⟨R,aI<|aS R aw br ⟨R,aI<|dh qN (dH hr2) ⟨R,aI<|av gH aw aL R R R ⟨R,aI<|aS R aw br ⟨R,aI<|av gH aw aL R R R ⟨R,aI<|aS R aw br ⟨R,aI<|dh qN (dH hr3) ⟨R,aI<|ic (f:=LV.I) (ys:=[r1,r2,r3]) bd nB aL R R R gB ⟨R,aI<|dh F2 (mh FO) ⟨R,Kf R zM⟩⟩⟩⟩⟩⟩⟩⟩⟩⟩⟩⟩⟩⟩⟩⟩⟩
  refine LH.ret ?_
  obtain rfl:=oI h
  exact ba<|aT Tryz.results202
theorem Yu {F:Nat} {p0:Int} {p1:Int} {c0:List bJ} {r:Int} (h:zi F p0 p1 c0=some r):aF Tryz.prog 201 [.I p0,.I p1,.sptr [.lst 3 (c0.map bJ.lv)]] (Mem.of []) (.I r) (Mem.of []):=by
  unfold zi at h
  refine aW Tryz.func201 R (nT Tryz.ntmps201 R)<|LH.ae R (aX R zQ) ?_
  obtain ⟨x1,Z4,h⟩:=aa h
  obtain ⟨x2,Bl,h⟩:=aa h
  obtain ⟨r3,hr3,h⟩:=aa h
  refine LH.lN mixed [] [0,0,0,0,0,0,0,0,0,0] R R (by kernel_rfl) (aI<|aS R pC pA ⟨R,gu R<|aI<|dJ (f:=bJ.lv) ln dw du R R bJ.ok Z4 R ⟨R,aI<|a7 R dw kG du R R ⟨R,aI<|aS R pC pA ⟨R,gu R<|aI<|dJ (f:=bJ.lv) ln dw du R R bJ.ok Bl R ⟨R,aI<|a7 R dw kG du R R ⟨R,aI<|dh TY (YZ hr3) ⟨R,Kf R zV⟩⟩⟩⟩⟩⟩⟩)<|LH.ret ?_
  obtain rfl:=oI h
  exact ba<|aT Tryz.results201
theorem YM {F:Nat} {p0:List bJ} {p1:List Int} {r:List Int × Int} (h:zq F p0 p1=some r):aF Tryz.prog 156 [.lst 3 (p0.map bJ.lv),.L p1] (Mem.of []) (.tup [.L r.1,.I r.2]) (Mem.of []):=by
  unfold zq at h
  refine aW Tryz.func156 R (nT Tryz.ntmps156 R)<|LH.ae R (sB<|da R R R R<|kE R<|aX R zQ)<|LH.seq<|LH.ae R (sN<|aS R pC pA<|sN<|bx (f:=bJ.lv) ln R<|dC R<|sN<|bx (f:=LV.I) bd R<|sN<|iR R R zQ) (LH.cd h R (fun hc1 h=>?_) fun hc1 h=>?_)
  ·refine LH.ae R (kE R<|aX R zQ)<|LH.ret<|aA ?_
   obtain rfl:=oI h
   exact bL (aT Tryz.results156)<|dx R<|dx R<|dN lY
  refine LH.skip<|ag<|LH.ae R (kE R zQ)<|LH.seq ?_
  obtain ⟨r2,hr2,h⟩:=aa h
  refine LH.ae R (sN<|aS R pC pA<|dC R<|sN<|dh TW (Y3 hr2)<|sN<|bx (f:=gQ.lv) tX R<|aN R zQ)<|LH.block<|LH.wk ((Wk.trans (bQ [2,6,16,17,18] [])<|Wk.trans (Wk.wA (ig:=[(2,.sptr [.lst 3 (p0.map bJ.lv)]),(6,.arr 129 (List.length ([]:List Int))),(16,.lst 2 (r2.map gQ.lv)),(17,.I (r2.length:Int)),(18,.I 0)]) 129 3 1 R R<|wK<|wO<|wK<|wK<|wK wN)<|bQ [2,6,16,17,18] [129]))<|LH.bW (fun n e m=>∃ (n3:Int) (l4:List Int),zf F p0 r2 n n3 l4=some r∧e=Env.of [(2,.sptr [.lst 3 (p0.map bJ.lv)]),(6,.arr 129 l4.length),(16,.lst 2 (r2.map gQ.lv)),(17,.I (r2.length:Int)),(18,.I n3)]∧m=Mem.of [(129,.arr 3 1 (l4.map LV.I))]) F ⟨0,([]:List Int),h,R,R⟩ ?_
  clear h
  rintro n e m ⟨n3,l4,h,rfl,rfl⟩
  rcases n with _ | n
  · exact nX h
  obtain ⟨aE,aC⟩:∃ f,f=zf F p0 r2 n:=⟨_,rfl⟩
  replace h:De F p0 r2 aE n3 l4=some r:=aC ▸ h
  unfold De at h
  refine LH.ae R (sN<|dK R R zQ)<|LH.seq (LH.cd h R (fun oV h=>?_) fun oV h=>?_)
  ·refine LH.skip<|ag<|LH.seq<|LH.block ?_
   obtain ⟨x6,yO,h⟩:=aa h
   refine LH.cM R (sN<|dJ (f:=gQ.lv) tX zW ub R R gQ.ok yO R<|sN<|a7 R zW Zq ub R R<|sN<|ib (id:=108) R RQ R R<|s_<|cN R R R zW ub R R R<|s0<|zB [2,6,8,16,17,18] [108,129] 108 R)<|LH.ae R (sN<|av Ba jG oU R R R<|sN<|aS R jG yA<|sN<|dB R zQ) (LH.cd h R (fun xS h=>?_) fun xS h=>?_)
   ·obtain ⟨v8,hv8,h⟩:=aa h
    refine LH.aJ R (lh R<|sN<|av u1 aw aL R R R<|sN<|aS R aw br<|sN<|ic (f:=LV.I) (ys:=[x6.first]) bd nB aL R R R gB<|sN<|oN (f:=LV.I) bd nB aL R R (cv R) R hv8<|sE R zQ)<|aB<|ag<|LH.aJ R (sN<|bw R R<|aN R zQ) ?_
    exact aM ⟨(i64 (n3+1)),v8,aC ▸ h,R,R⟩<|Wk.eq R R R R
   refine LH.skip<|aB<|ag<|LH.aJ R (sN<|bw R R<|aN R zQ) ?_
   exact aM ⟨(i64 (n3+1)),l4,aC ▸ h,R,R⟩<|Wk.eq R R R R
  refine LH.exit<|bB<|bc<|aZ<|ag<|LH.seq<|LH.ae R (lh R<|sN<|yp (f:=LV.I) bd R R<|sN<|hJ R R zQ) (LH.cd h R (fun I2 h=>?_) fun I2 h=>?_)
  ·refine LH.ae R (kE R<|aX R zQ)<|LH.ret<|aA ?_
   obtain rfl:=oI h
   exact bL (aT Tryz.results156)<|dx R<|dx R<|dN lY
  refine LH.skip<|ag ?_
  obtain ⟨iN,Wr,h⟩:=aa h
  refine LH.cM R (lh R<|sN<|Br (vs:=[.sptr [.lst 3 (p0.map bJ.lv)]]) R<|sN<|gq Mu (EC Tryz.RA R TX R (fun _ _ _ h=>Yu h) 129 3 Wr)<|s0<|Wk.trans (Wk.to (el:=[(6,.arr 129 iN.length)]) (ml:=[(129,.arr 3 1 (iN.map LV.I))]) (eC (congrArg (LV.arr 129)<|zN Wr) eN) ⟨R,trivial⟩ R<|cF R)<|Wk.mZ (f:=LV.I) (ig:=[(6,.L iN)]) 129 3 1 iN R R (cv R)<|fZ fN)<|LH.ae R (dC R<|qV R<|aX R zQ)<|LH.ret ?_
  obtain rfl:=oI h
  exact bL (aT Tryz.results156)<|dx R<|dx R<|dN lY
theorem X8 {F:Nat} {p0:List bu} {p1:(bu→Option bJ)} {p2:(bu→bu→Option Bool)} {r:List Int × Int} {dQ:Nat} {cW:List LV} (td:di Tryz.prog dQ) (jQ:LV.bf cW=true) (te:∀ (x0:bu) (q:bJ),p1 x0=some q→aF Tryz.prog dQ ([.agg [.I x0.ai.Time,.I x0.ai.Source,.I x0.ai.Seq,.I x0.Kind,.I x0.Item.ID,.I x0.Item.Version,.str x0.Item.cO,.lst 6 (x0.Item.aH.map aq.lv),.L x0.Item.aO,.I x0.Ref.ID,.I x0.Ref.Version,.I x0.Form]]++cW) (Mem.of []) (.agg [.I q.Time,.I q.Source,.I q.Seq]) (Mem.of [])) {jv:Nat} {fO:List LV} (Ju:di Tryz.prog jv) (yr:LV.bf fO=true) (Jv:∀ (x0:bu) (x1:bu) (q:Bool),p2 x0 x1=some q→aF Tryz.prog jv ([.agg [.I x0.ai.Time,.I x0.ai.Source,.I x0.ai.Seq,.I x0.Kind,.I x0.Item.ID,.I x0.Item.Version,.str x0.Item.cO,.lst 6 (x0.Item.aH.map aq.lv),.L x0.Item.aO,.I x0.Ref.ID,.I x0.Ref.Version,.I x0.Form],.agg [.I x1.ai.Time,.I x1.ai.Source,.I x1.ai.Seq,.I x1.Kind,.I x1.Item.ID,.I x1.Item.Version,.str x1.Item.cO,.lst 6 (x1.Item.aH.map aq.lv),.L x1.Item.aO,.I x1.Ref.ID,.I x1.Ref.Version,.I x1.Form]]++fO) (Mem.of []) (.bool q) (Mem.of [])) (h:Nl F p0 p1 p2=some r):aF Tryz.prog 176 [.lst 12 (p0.map bu.lv),.fn dQ cW,.fn jv fO] (Mem.of []) (.tup [.L r.1,.I r.2]) (Mem.of []):=by
  have M4:∀ {l:List LV},LV.bf l=true→LV.bf (l++fO)=true:=M5 yr
  have lB:LV.b6 fO=[]:=eK yr
  have yq:∀ {l:List LV},LV.bf l=true→LV.bf (l++cW)=true:=M5 jQ
  have gr:LV.b6 cW=[]:=eK jQ
  unfold Nl at h
  refine aW Tryz.func176 R (nT Tryz.ntmps176 R)<|LH.wk (Wk.to (el:=[(0,.lst 12 (p0.map bu.lv)),(1,.fn dQ cW),(2,.fn jv fO)]) (ml:=[]) (eQ ⟨R,R,R,trivial⟩) mN (by simp [aQ,LV.refs,LV.b6,LV.cells,dZ,Env.args,Env.of,Env.put,Env.drop,gr,lB])<|cF R)<|LH.ae R (kE R<|aX R zQ) ?_
  obtain ⟨r1,dI,h⟩:=aa h
  refine LH.ae R (dC R<|sN<|oM (v:=(.fn _ _)) R<|sN<|oM (v:=(.fn _ _)) R<|sN<|F5 (args:=[.lst 12 (p0.map bu.lv),.fn dQ cW,.fn jv fO]) R TZ R (bZ<|bZ<|bZ fF) (Yf td jQ te Ju yr Jv dI) (by simp [LV.pure,LV.bf,jQ,yr])<|sG R<|sN<|gj R R<|sN<|gj R R<|qV R<|qV R zQ) ?_
  obtain ⟨r2,hr2,h⟩:=aa h
  refine LH.ae R (dC R<|dC R<|sN<|F5 (args:=[.lst 3 (r1.1.map bJ.lv),.L r1.2]) R TK R (bZ<|bZ fF) (YM hr2) R<|sN<|gj R R<|sN<|gj R R<|qV R<|aX R zQ)<|LH.ret ?_
  obtain rfl:=oI h
  exact bL (aT Tryz.results176)<|dx R<|dx R<|dN ⟨gP mN,R,cF R,(Sub.tup<|bZ<|bZ fF)⟩
theorem Yx {p0:bu} {r:bJ} (h:H6 p0=some r):aF Tryz.prog 177 [bu.lv p0] (Mem.of []) (.agg [.I r.Time,.I r.Source,.I r.Seq]) (Mem.of []):=by
  unfold H6 at h
  refine aW Tryz.func177 R (nT Tryz.ntmps177 R)<|LH.ae R (sB<|da R R R R<|sN<|ib (id:=102) R EU R R zQ)<|LH.cM R (sN<|av ej dw du R R R<|sN<|a7 R dw kG du R R<|s_<|cN R R R dw du R R R<|s0<|zB [2] [102] 102 R)<|LH.ret ?_
  obtain rfl:=oI h
  exact bL (aT Tryz.results177)<|eE R dw kG du R R<|dN lY
theorem Yg {F:Nat} {p0:List aq} {p1:List aq} {r:Bool} (h:CZ F p0 p1=some r):aF Tryz.prog 224 [.lst 6 (p0.map aq.lv),.lst 6 (p1.map aq.lv)] (Mem.of []) (.bool r) (Mem.of []):=by
  unfold CZ at h
  refine aW Tryz.func224 R (nT Tryz.ntmps224 R)<|LH.ae R (bK R zQ)<|LH.seq<|LH.ae R (dC R<|sN<|bx (f:=aq.lv) ey R<|dC R<|sN<|bx (f:=aq.lv) ey R<|sN<|iR R R zQ) (LH.cd h R (fun hc1 h=>?_) fun hc1 h=>?_)
  ·refine LH.ae R (bK R zQ)<|LH.ret<|aA ?_
   obtain rfl:=oI h
   exact ba<|aT Tryz.results224
  refine LH.skip<|ag<|LH.seq<|LH.ae R (dC R<|sN<|bx (f:=aq.lv) ey R<|aN R zQ)<|LH.block<|LH.bW (fun n e m=>∃ (n2:Int),JA p0 p1 n n2=some r∧e=Env.of [(0,.lst 6 (p0.map aq.lv)),(1,.lst 6 (p1.map aq.lv)),(12,.I (p0.length:Int)),(13,.I n2)]∧m=Mem.of []) F ⟨0,h,R,R⟩ ?_
  clear h
  rintro n e m ⟨n2,h,rfl,rfl⟩
  rcases n with _ | n
  · exact nX h
  obtain ⟨aE,aC⟩:∃ f,f=JA p0 p1 n:=⟨_,rfl⟩
  replace h:Nj p0 p1 aE n2=some r:=aC ▸ h
  unfold Nj at h
  refine LH.ae R (sN<|dK R R zQ)<|LH.seq (LH.cd h R (fun mn h=>?_) fun mn h=>?_)
  ·refine LH.skip<|ag<|LH.seq<|LH.block<|LH.ae R (aN R<|aX R zQ) ?_
   obtain ⟨x4,AG,h⟩:=aa h
   obtain ⟨x5,nb,h⟩:=aa h
   refine LH.lN mixed [] [0,0,0,0,0,0,0,0,0] R R (by kernel_rfl) (nM R<|gu R<|aI<|dJ (f:=aq.lv) ey cR cm R R aq.ok AG R ⟨R,aI<|a7 R cR fi cm R R ⟨R,nM R<|gu R<|aI<|dJ (f:=aq.lv) ey cR cm R R aq.ok nb R ⟨R,aI<|a7 R cR fi cm R R ⟨R,aI<|XW R R (VI x4 x5) ⟨R,zV⟩⟩⟩⟩⟩) (LH.cd h R (fun lz h=>?_) fun lz h=>?_)
   ·refine LH.ae R (bK R zQ)<|LH.ret<|aU<|aA<|cc<|aU<|aA ?_
    obtain rfl:=oI h
    exact ba<|aT Tryz.results224
   refine LH.skip<|aB<|ag<|LH.aJ R (sN<|bw R R<|aN R zQ) ?_
   exact aM ⟨(i64 (n2+1)),aC ▸ h,R,R⟩<|Wk.eq R R R R
  refine LH.exit<|bB<|bc<|aZ<|ag<|LH.ae R (bK R zQ)<|LH.ret ?_
  obtain rfl:=oI h
  exact ba<|aT Tryz.results224
end Go.Proofs.YtiinmaihgmfniaaGreat
