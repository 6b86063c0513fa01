import Derived.Test.YtiinmaihgmfniaaGreatZPa
set_option linter.unusedVariables false
set_option linter.unusedSimpArgs false
namespace Go.Sh
open Go.L
def nQ (t o:Int) (p:aq):Bool:=(decide (t<0) || p.fx == t) && (decide (o<0) || p.cG == o)
theorem Pl {F:Nat} {p:jd} {t o:Int} (hl:p.aH.length≤100) (hm:∀ x ∈ p.aH,0≤x.Max∧x.Max≤40) (hF:1000<F):yu F p t o=some (cQ (nQ t o) p.aH):=by
 obtain ⟨r,e,rfl⟩:cS (yu F p t o) (fun r=>r=cQ (nQ t o) p.aH):=by
  unfold yu
  refine ca (a:=p.aH) (L:=fun n i (s:Int)=>GN p t o n s i) (fun i s=>s=cQ (nQ t o) (p.aH.take i)) (fun n i x s hx hI=>.inr ⟨_,?_,rfl⟩) (fun n s hI=>?_) (by omega) rfl
  ·subst hI
   have hi:i<p.aH.length:=(List.getElem?_eq_some_iff.1 hx).1
   have h3:=hm x (List.mem_of_getElem? hx)
   have h4:=pV (nQ t o) (l:=p.aH.take i) fun q hq=>hm q (List.mem_of_mem_take hq)
   have h5:(p.aH.take i).length≤100:=by simp; omega
   have h6:cQ (nQ t o) (p.aH.take (i+1))=cQ (nQ t o) (p.aH.take i)+if nQ t o x then x.Max else 0:=by
    rw [List.take_add_one,hx,Option.toList_some,qQ]; simp [cQ]; split <;> simp_all
   have hw:(if (decide (t<0))=true then if (decide (o<0))=true then some true else (idx p.aH (i:Int)).bind fun x8=>some (x8.cG == o) else (idx p.aH (i:Int)).bind fun x9=>if (x9.fx == t)=true then if (decide (o<0))=true then some true else (idx p.aH (i:Int)).bind fun kb=>some (kb.cG == o) else some false)=some (nQ t o x):=by
    rw [cr hx]
    simp only [Option.bind_some,nQ]
    by_cases h1:decide (t<0)=true
    ·by_cases h2:decide (o<0)=true
     ·simp [h1,h2]
     ·simp [h1,h2]
    ·by_cases h2:decide (o<0)=true
     ·by_cases h7:(x.fx == t)=true <;> simp [h1,h2,h7]
     ·by_cases h7:(x.fx == t)=true <;> simp [h1,h2,h7]
   simp only [GN,Df,dM hx,if_true]
   rw [hw]
   simp only [Option.bind_some,cr hx,dt (show i<1000000 by omega),h6]
   by_cases hf:nQ t o x=true
   ·simp only [hf,if_true]; rw [bR (by omega) (by omega)]
   ·have hf0:nQ t o x=false:=by simpa using hf
    simp only [hf0,Bool.false_eq_true,if_false,Int.add_zero]
  ·subst hI
   simp only [GN,Df,dL,Bool.false_eq_true,if_false]
   exact ⟨_,rfl,by simp⟩
 exact e
theorem ND:nQ (-1) (-1)=fun _=>true:=by funext p; simp [nQ]
theorem PR {r:bM} (h:0≤r.Index):nQ r.Index (-1)=JW r:=by
 funext p
 have:decide (r.Index<0)=false:=by simp; omega
 simp [nQ,this]
theorem PQ {r:bM} (h:0≤r.Index):nQ (-1) r.Index=obj r:=by
 funext p
 have:decide (r.Index<0)=false:=by simp; omega
 simp [nQ,this]
section
variable {F:Nat} {l:List ah} {b:fG} {c:List Int} {v:Int}
theorem y5 (hk:∀ x ∈ l,qu x) (hc:iz l.length 0 c):∀ p ∈ partsOf l c,0≤p.Max∧p.Max≤40:=fun p hp=>by
 obtain ⟨x,hx,QF⟩:=yX hc hp
 have:=(jq (hk x hx).1).2 p QF
 omega
theorem sA (hF:1000<F) (hk:∀ x ∈ l,qu x) (hb:kS b) (h:Fit l b c) (hv:0≤v∧v<4):tP F (jd.mk 3 v (partsOf l c))=some true:=by
 have hl:=pT hk h.mK
 have hn:=h.len
 have SD:=y5 hk h.mK
 have hs:=h.marks
 have e1:dv (l.map total) c=((partsOf l c).map (·.Max)).sum:=by
  have:=nk (fun _=>true) h.mK
  rw [show (fun x:ah=>cQ (fun _=>true) x.aH)=total from funext fun x=>(tY x).symm] at this
  rw [← this]; unfold cQ; rw [List.filter_eq_self.2 (fun _ _=>rfl)]
 have acr:yv F (partsOf l c)=some ((partsOf l c).map (·.Max)).sum:=by
  obtain ⟨r,e,rfl⟩:cS (yv F (partsOf l c)) (fun r=>r=((partsOf l c).map (·.Max)).sum):=by
   unfold yv
   refine ca (a:=partsOf l c) (L:=fun n i (s:Int)=>xg (partsOf l c) n s i) (fun i s=>s=(((partsOf l c).take i).map (·.Max)).sum∧0≤s∧s≤40 * i) (fun n i x s hx hI=>.inr ?_) (fun n s hI=>?_) (by omega) ⟨by simp,by omega,by omega⟩
   ·have hi:i<(partsOf l c).length:=(List.getElem?_eq_some_iff.1 hx).1
    have Bl:=SD x (List.mem_of_getElem? hx)
    simp only [xg,GL,dM hx,if_true,cr hx,Option.bind_some,dt (show i<1000000 by omega)]
    rw [bR (by omega) (by omega)]
    refine ⟨_,rfl,?_,by omega,by omega⟩
    rw [List.take_add_one,hx,hI.1]; simp
   ·simp only [xg,GL,dL,Bool.false_eq_true,if_false]
    rw [List.take_length] at hI
    exact ⟨_,rfl,hI.1⟩
  exact e
 obtain ⟨r,e,rfl⟩:cS (tP F (jd.mk 3 v (partsOf l c))) (fun r=>r=true):=by
  unfold tP
  rw [if_neg (by simp; omega),if_neg (by simp; omega)]
  refine ca (a:=partsOf l c) (L:=fun n i (_:Unit)=>GK F (jd.mk 3 v (partsOf l c)) n i) (fun _ _=>True) (fun n i p s hx _=>.inr ⟨(),?_,trivial⟩) (fun n s _=>?_) (by omega) (s0:=()) trivial
  ·have hi:i<(partsOf l c).length:=(List.getElem?_eq_some_iff.1 hx).1
   obtain ⟨x,vZ,QF⟩:=yX h.mK (List.mem_of_getElem? hx)
   have iD:=(BL (hk x vZ).1).2 p QF
   simp only [GK,Dc,dM hx,if_true,cr hx,Option.bind_some,dt (show i<1000000 by omega),uf,iD,Bool.not_true,Bool.false_eq_true,if_false]
  ·simp only [GK,Dc,dL,Bool.false_eq_true,if_false,acr,Option.bind_some]
   have:=hb.mm
   exact ⟨_,rfl,by simp; omega⟩
 exact e
theorem PA (hF:1000<F) (hl:l.length≤5) (hk:∀ x ∈ l,qu x) (hb:kS b) (h:Fit l b c) (hv:0≤v∧v<4):tR F l c 3 v=some (jd.mk 3 v (partsOf l c),0):=by
 have hn:=h.len
 obtain ⟨r,e,rfl⟩:cS (tR F l c 3 v) (fun r=>r=(jd.mk 3 v (partsOf l c),0)):=by
  unfold tR
  rw [nJ h.mK (by omega) (by omega)]
  simp only [Option.bind_some,Bool.not_true,Bool.false_eq_true,if_false]
  refine ca (a:=c) (L:=fun n i (s:List aq)=>wR F l c 3 v n i s) (fun i s=>s=partsOf l (c.take i)) (fun n i p s hx hI=>.inr ⟨_,?_,rfl⟩) (fun n s hI=>?_) (by omega) (by simp [partsOf])
  ·subst hI
   have hi:i<c.length:=(List.getElem?_eq_some_iff.1 hx).1
   obtain ⟨j,rfl,_,hj,_⟩:=h.mK.uj hx
   have hy:l[j]?=some l[j]:=by simp [hj]
   have V9:=(hk l[j] (List.getElem_mem hj)).1
   have hp:=(jq V9).1
   have hta:iz l.length 0 (c.take i):=Fi (h.mK.lt.sublist (List.take_sublist _ _)) fun x QK=>by
    obtain ⟨q,a,b,d⟩:=h.mK.mem x (List.mem_of_mem_take QK); exact ⟨q,a,b,d⟩
   have h6:=(pT hk hta).2
   have h7:(c.take i).length≤3:=by simp; omega
   have e6:partsOf l (c.take (i+1))=partsOf l (c.take i)++l[j].aH:=by
    rw [List.take_add_one,hx,Option.toList_some]; simp [partsOf,List.getD,hj]
   simp only [wR,Dt,dM hx,if_true,cr hx,Option.bind_some,dt (show i<1000000 by omega),cr hy,lG (F:=F) (x:=l[j]) (by omega),V9,show ((0:Int) != 0)=false from rfl,Bool.false_eq_true,if_false,e6]
   rw [dp (by omega)]
   rfl
  ·subst hI
   simp only [wR,Dt,dL,Bool.false_eq_true,if_false,List.take_length,sA hF hk hb h hv,Option.bind_some,Bool.not_true]
   exact ⟨_,rfl,rfl⟩
 exact e
theorem K0 (a d:ah):Hp a d=Hp d a:=by
 unfold Hp
 rw [Bool.or_comm (decide (d.ID ∈ a.aO))]
 have:(a.ID == d.ID)=(d.ID == a.ID):=by
  by_cases h:a.ID=d.ID
  ·rw [h]
  ·rw [beq_eq_false_iff_ne.2 h,beq_eq_false_iff_ne.2 (Ne.symm h)]
 rw [this]
theorem Sa (hF:1000<F) (hl:l.length≤5) (hk:∀ x ∈ l,qu x) (Od:l.Pairwise fun a b=>a.ID<b.ID) (hb:kS b) (h:Fit l b c) (hv:0≤v∧v<4):zx F b l c (jd.mk 3 v (partsOf l c))=some true:=by
 have hn:=h.len
 have hle:=pT hk h.mK
 have SD:=y5 hk h.mK
 have hms:=h.marks
 have mk:∀ t o,yu F (jd.mk 3 v (partsOf l c)) t o=some (cQ (nQ t o) (partsOf l c)):=fun t o=>Pl (p:=jd.mk 3 v (partsOf l c)) (by show (partsOf l c).length≤100; omega) SD hF
 obtain ⟨r,e,rfl⟩:cS (zx F b l c (jd.mk 3 v (partsOf l c))) (fun r=>r=true):=by
  unfold zx
  have e1:cQ (nQ (-1) (-1)) (partsOf l c)=dv (l.map total) c:=by
   rw [ND,nk (fun _=>true) h.mK,show (fun x:ah=>cQ (fun _=>true) x.aH)=total from funext fun x=>(tY x).symm]
  rw [hb.li,hb.mi,if_neg (by simp; omega),if_neg (by simp; omega),mk,e1]
  simp only [Option.bind_some]
  rw [if_neg (by simp; omega)]
  simp only [Option.bind_some]
  rw [if_neg (by simp; omega)]
  refine ca (a:=b.b5) (L:=fun n i (_:Unit)=>wS F b l c (jd.mk 3 v (partsOf l c)) n i) (fun _ _=>True) (fun n i r s hx _=>.inr ⟨(),?_,trivial⟩) (fun n s _=>?_) (by have:=hb.tp.len; omega) (s0:=()) trivial
  ·have hi:i<b.b5.length:=(List.getElem?_eq_some_iff.1 hx).1
   have hlt:=hb.tp.len
   have hm:=List.mem_of_getElem? hx
   have hr:=h.tp r hm
   rw [← nk (JW r) h.mK] at hr
   simp only [wS,Du,dM hx,if_true,cr hx,Option.bind_some,dt (show i<1000000 by omega),mk,PR (hb.tp.ok r hm).1]
   by_cases hq:decide (cQ (JW r) (partsOf l c)<r.bE)=true
   ·simp at hq; omega
   ·have hq2:decide (cQ (JW r) (partsOf l c) > r.cX)=false:=by simp; omega
    simp only [hq,hq2,if_false,Bool.false_eq_true,Option.bind_some]
  ·simp only [wS,Du,dL,Bool.false_eq_true,if_false]
   refine ca (a:=b.aR) (L:=fun n i (_:Unit)=>wT F b l c (jd.mk 3 v (partsOf l c)) n i) (fun _ _=>True) (fun n i r s hx _=>.inr ⟨(),?_,trivial⟩) (fun n s _=>?_) (by have:=hb.ob.len; omega) (s0:=()) trivial
   ·have hi:i<b.aR.length:=(List.getElem?_eq_some_iff.1 hx).1
    have hlt:=hb.ob.len
    have hm:=List.mem_of_getElem? hx
    have hr:=h.ob r hm
    rw [← nk (obj r) h.mK] at hr
    simp only [wT,Dv,dM hx,if_true,cr hx,Option.bind_some,dt (show i<1000000 by omega),mk,PQ (hb.ob.ok r hm).1]
    by_cases hq:decide (cQ (obj r) (partsOf l c)<r.bE)=true
    ·simp at hq; omega
    ·have hq2:decide (cQ (obj r) (partsOf l c) > r.cX)=false:=by simp; omega
     simp only [hq,hq2,if_false,Bool.false_eq_true,Option.bind_some]
   ·simp only [wT,Dv,dL,Bool.false_eq_true,if_false]
    refine ca (a:=c) (L:=fun n i (_:Unit)=>AY F l c n i) (fun _ _=>True) (fun n i x s hx _=>.inr ⟨(),?_,trivial⟩) (fun n s _=>?_) (by omega) (s0:=()) trivial
    ·have hi:i<c.length:=(List.getElem?_eq_some_iff.1 hx).1
     obtain ⟨j,rfl,_,hj,_⟩:=h.mK.uj hx
     have hy:l[j]?=some l[j]:=by simp [hj]
     simp only [AY,Dw,dM hx,if_true]
     have inner:∀ (d k m:Nat),k+d=i→d<m→wU (AY F l c n) F l c (i:Int) m (k:Int)=AY F l c n ((i+1:Nat):Int):=by
      intro d
      induction d with
      | zero =>
       intro k m J8 hm
       cases m with
       | zero=>omega
       | succ m =>
        have:k=i:=by omega
        subst this
        simp only [wU,Dx,dL,Bool.false_eq_true,if_false,dt (show k<1000000 by omega)]
      | succ d ih =>
       intro k m J8 hm
       cases m with
       | zero=>omega
       | succ m =>
        have Hy:k<c.length:=by omega
        have hz:c[k]?=some c[k]:=by simp [Hy]
        obtain ⟨q,hq,_,WC,_⟩:=h.mK.uj hz
        have hzq:l[q]?=some l[q]:=by simp [WC]
        have hlt:=List.pairwise_iff_getElem.1 h.mK.lt k i Hy hi (by omega)
        have hci:c[i]=(j:Int):=(List.getElem?_eq_some_iff.1 hx).2
        rw [hci,hq] at hlt
        have Z2:q<j:=by omega
        have bX:=List.pairwise_iff_getElem.1 Od q j WC hj Z2
        have hen:=h.en q j _ _ Z2 hzq hy (by rw [← hq]; exact List.getElem_mem Hy) (by rw [← hci]; exact List.getElem_mem hi)
        have eO:(l[j].ID == l[q].ID)=false:=by simp; omega
        have hd:decide ((k:Int)<(i:Int))=true:=by simp; omega
        simp only [wU,Dx,hd,if_true,cr hx,cr hy,cr hz,hq,cr hzq,Option.bind_some,eO,Bool.false_eq_true,if_false,Hq (F:=F) (show 50<F by omega) (hk _ (List.getElem_mem hj)).1 (hk _ (List.getElem_mem WC)).1,K0 l[j] l[q],hen,dt (show k<1000000 by omega)]
        exact ih (k+1) m (by omega) (by omega)
     exact inner i 0 F (by omega) (by omega)
    ·simp only [AY,Dw,dL,Bool.false_eq_true,if_false]
     exact ⟨_,rfl,rfl⟩
 exact e
end
theorem Ep {F n:Nat} {c:List Int} (h:iz n 0 c) (hn:n≤12) (hF:100<F):zH F (n:Int) c=some true:=by
 have hl:=h.len (by omega)
 obtain ⟨r,e,rfl⟩:cS (zH F (n:Int) c) (fun z=>z=true):=by
  unfold zH
  refine ca (a:=c) (L:=fun m i (_:Unit)=>wZ (n:Int) c m i) (fun _ _=>True) (fun m i x s hx _=>.inr ⟨(),?_,trivial⟩) (fun m s _=>?_) (by omega) (s0:=()) trivial
  ·obtain ⟨j,rfl,_,h2,_⟩:=h.uj hx
   have hi:i<c.length:=(List.getElem?_eq_some_iff.1 hx).1
   have e1:decide ((j:Int)<0)=false:=by simp
   have e2:decide ((j:Int) ≥ (n:Int))=false:=by simp; omega
   simp only [wZ,DN,dM hx,if_true,cr hx,Option.bind_some,e1,e2,Bool.false_eq_true,if_false,dt (show i<1000000 by omega)]
   cases i with
   | zero=>rfl
   | succ i =>
    have hy:c[i]?=some c[i]:=by simp
    have:=h.prev hy hx
    rw [if_pos (by simp),show i64 (((i+1:Nat):Int) - 1)=(i:Int) by rw [bR (by omega) (by omega)]; omega,cr hy]
    have e3:decide (c[i] ≥ (j:Int))=false:=by simp; omega
    simp only [Option.bind_some,e3,Bool.false_eq_true,if_false]
  ·simp only [wZ,DN,dL,Bool.false_eq_true,if_false]
   exact ⟨_,rfl,rfl⟩
 exact e
end Go.Sh
namespace Go.Sh
open Go.L
abbrev yF (b:fG):fG:=fG.mk 1 3 b.aY b.bh b.b5 b.aR ([]:List Int) b.bC b.aV
structure lF (i:Nat) (l:List bM):Prop where
 len:l.length≤i
 mK:l.Pairwise fun a b=>a.Index<b.Index
 ok:∀ r ∈ l,0≤r.Index∧r.Index<(i:Int)∧0≤r.bE∧r.bE≤3∧4≤r.cX∧r.cX≤30
theorem lF.skip {i:Nat} {l:List bM} (h:lF i l):lF (i+1) l:=⟨by have:=h.len; omega,h.mK,fun r hr=>by have:=h.ok r hr; omega⟩
theorem lF.add {i:Nat} {l:List bM} {a b:Int} (h:lF i l) (ha:0≤a∧a<4) (hb:4≤b∧b≤30):lF (i+1) (l++[bM.mk (i:Int) a b]):=by
 refine ⟨by have:=h.len; simp; omega,List.pairwise_append.2 ⟨h.mK,by simp,fun x hx y hy=>?_⟩,fun r hr=>?_⟩
 ·rw [List.mem_singleton.1 hy]; have:=h.ok x hx; show x.Index<(i:Int); omega
 ·rcases List.mem_append.1 hr with hr | hr
  ·have:=h.ok r hr; omega
  ·rw [List.mem_singleton.1 hr]; show 0≤(i:Int)∧(i:Int)<((i+1:Nat):Int)∧0≤a∧a≤3∧4≤b∧b≤30; omega
theorem lF.rgs {i:Nat} {l:List bM} (h:lF i l) (hi:i≤4):qj l:=⟨by have:=h.len; omega,h.mK,fun r hr=>by have:=h.ok r hr; omega⟩
section
variable {F:Nat} {r1 r2 r3 r4 r5:Int × ax} {l9 ga:List bM} {km:List Int}
abbrev Qd (r3 r4 r5:Int × ax) (z:fG × ax):Prop:=Tp z.2∧qj z.1.b5∧qj z.1.aR∧z.1.bC.length≤2∧(∀ f ∈ z.1.bC,f.Items.length≤100)∧z.1.aY=r3.1∧z.1.bh=r4.1∧z.1.aV=r5.1
theorem OC (lC:Int→(List Int)→Int→(List bA)→Option (fG × ax)) (n35:Int) (jA:List bA) (hl:jA.length≤10):∀ (k m:Nat) (L:List Int) (A:Int) (Cm:List bD),k<m→k≤5→Cm.length+k≤100→Tp (ax.mk L A) →
  ∃ L' A' l',Fe lC n35 jA m (k:Int) L A Cm=lC (i64 (n35 - 1)) L' A' (jA++[bA.mk 0 l'])∧Tp (ax.mk L' A')∧l'.length≤100:=by
 intro k
 induction k with
 | zero =>
  intro m L A Cm hm _ hb ht
  cases m with
  | zero=>omega
  | succ m =>
   refine ⟨L,A,Cm,?_,ht,by omega⟩
   simp only [Fe,Ky,show decide (((0:Nat):Int) > 0)=false by decide,Bool.false_eq_true,if_false]
   rw [dp (by simp; omega)]
   rfl
 | succ k ih =>
  intro m L A Cm hm hk hb ht
  cases m with
  | zero=>omega
  | succ m =>
   obtain ⟨x,e1,h1⟩:=iO ht 4 (by omega)
   obtain ⟨y,e2,h2⟩:=ka h1.1 1 2 (by omega) (by omega) (by omega)
   have hd:decide (((k+1:Nat):Int) > 0)=true:=by rw [decide_eq_true_iff]; omega
   simp only [Fe,Ky,hd,if_true,e1,e2,Option.bind_some]
   rw [dp (by simp; omega),show i64 (((k+1:Nat):Int) - 1)=(k:Int) by rw [bR (by omega) (by omega)]; omega]
   exact ih m y.2.L y.2.At _ (by omega) (by omega) (by simp; omega) h2.1
theorem OD (h9:qj l9) (h19:qj ga) (hF:100<F):∀ (k m:Nat) (L:List Int) (A:Int) (jA:List bA),k<m→k≤2→jA.length+k≤2→(∀ f ∈ jA,f.Items.length≤100)→Tp (ax.mk L A) →
  cS (By F 0 r1 r2 r3 r4 r5 l9 ga km m (k:Int) L A jA) (Qd r3 r4 r5):=by
 intro k
 induction k with
 | zero =>
  intro m L A jA hm _ hb hf ht
  cases m with
  | zero=>omega
  | succ m =>
   simp only [By,Kx,show decide (((0:Nat):Int) > 0)=false by decide,show decide ((0:Int) > 0)=false by decide,Bool.false_eq_true,if_false,Option.bind_some]
   exact ⟨_,rfl,ht,h9,h19,by show jA.length≤2; omega,hf,rfl,rfl,rfl⟩
 | succ k ih =>
  intro m L A jA hm hk hb hf ht
  cases m with
  | zero=>omega
  | succ m =>
   obtain ⟨x,e1,h1⟩:=iO ht 4 (by omega)
   have hd:decide (((k+1:Nat):Int) > 0)=true:=by rw [decide_eq_true_iff]; omega
   obtain ⟨q,hq⟩:∃ q:Nat,x.1=(q:Int):=⟨x.1.toNat,by have:=h1.2.1; omega⟩
   have hq4:q<4:=by have:=h1.2.2.1 (by omega); omega
   simp only [By,Kx,hd,if_true,e1,Option.bind_some,hq]
   obtain ⟨L',A',l',e2,h2,h3⟩:=OC (By F 0 r1 r2 r3 r4 r5 l9 ga km m) ((k+1:Nat):Int) jA (by omega) q F x.2.L x.2.At [] (by omega) (by omega) (by simp; omega) h1.1
   rw [e2,show i64 (((k+1:Nat):Int) - 1)=(k:Int) by rw [bR (by omega) (by omega)]; omega]
   exact ih m L' A' _ (by omega) (by omega) (by simp; omega) (fun f Qw=>(List.mem_append.1 Qw).elim (hf f) fun h=>by rw [List.mem_singleton.1 h]; exact h3) h2
theorem OH {t:ax} (ht:Tp t) (hF:100<F):cS (Kt F t 0) (fun z=>Tp z.2∧kS (yF z.1)):=by
 unfold Kt
 refine cS.bind (iO ht 3 (by omega)) fun r1 h1=>cS.bind (ka h1.1 0 4 (by omega) (by omega) (by omega)) fun r2 h2=>cS.bind (iO h2.1 12 (by omega)) fun r3 h3=>cS.bind (ka h3.1 10 60 (by omega) (by omega) (by omega)) fun r4 h4=>cS.bind (iO h4.1 3 (by omega)) fun r5 h5=>?_
 refine cS.imp (P:=Qd r3 r4 r5) ?_ fun z hz=>⟨hz.1,⟨rfl,rfl,?_,?_,?_,hz.2.1,hz.2.2.1,rfl,hz.2.2.2.1,hz.2.2.2.2.1⟩⟩
 ·refine ca (a:=List.replicate 4 ()) (L:=fun m i (s:List Int × Int × List bM)=>Fa F 0 r1 r2 r3 r4 r5 m i s.1 s.2.1 s.2.2) (fun i s=>Tp (ax.mk s.1 s.2.1)∧lF i s.2.2) (fun m i x s hx hI=>.inr ?_) (fun m s hI=>?_) (by simp; omega) (s0:=(r5.2.L,r5.2.At,([]:List bM))) ⟨h5.1,by simp,by simp,by simp⟩
  ·obtain ⟨L,A,l⟩:=s
   obtain ⟨hT,hR⟩:=hI
   replace hT:Tp (ax.mk L A):=hT
   replace hR:lF i l:=hR
   have hi:i<4:=by have:=(List.getElem?_eq_some_iff.1 hx).1; simpa using this
   have hd:decide ((i:Int)<4)=true:=by simp; omega
   have hll:=hR.len
   obtain ⟨b,e1,g1⟩:=Gc hT 3 (by omega)
   simp only [Fa,Ku,hd,if_true,e1,Option.bind_some,dt (show i<1000000 by omega)]
   by_cases hb:b.1=true
   ·rw [if_pos hb]
    obtain ⟨u,e2,g2⟩:=iO g1 4 (by omega)
    obtain ⟨w,e3,g3⟩:=ka g2.1 4 30 (by omega) (by omega) (by omega)
    simp only [e2,e3,Option.bind_some]
    rw [dp (by simp; omega)]
    exact ⟨(w.2.L,w.2.At,_),rfl,g3.1,hR.add ⟨g2.2.1,g2.2.2.1 (by omega)⟩ ⟨g3.2.1,g3.2.2⟩⟩
   ·rw [if_neg hb]
    exact ⟨(b.2.L,b.2.At,l),rfl,g1,hR.skip⟩
  ·obtain ⟨L,A,l9⟩:=s
   obtain ⟨hT,hR⟩:=hI
   replace hT:Tp (ax.mk L A):=hT
   have hR9:qj l9:=lF.rgs (i:=4) (by simpa using hR) (by omega)
   simp only [Fa,Ku,List.length_replicate,show decide (((4:Nat):Int)<4)=false by decide,Bool.false_eq_true,if_false]
   refine ca (a:=List.replicate 3 ()) (L:=fun m i (s:List Int × Int × List bM)=>Fb F 0 r1 r2 r3 r4 r5 l9 m i s.1 s.2.1 s.2.2) (fun i s=>Tp (ax.mk s.1 s.2.1)∧lF i s.2.2) (fun m i x s hx hI=>.inr ?_) (fun m s hI=>?_) (by simp; omega) (s0:=(L,A,([]:List bM))) ⟨hT,by simp,by simp,by simp⟩
   ·obtain ⟨L,A,l⟩:=s
    obtain ⟨hT,hR⟩:=hI
    replace hT:Tp (ax.mk L A):=hT
    replace hR:lF i l:=hR
    have hi:i<3:=by have:=(List.getElem?_eq_some_iff.1 hx).1; simpa using this
    have hd:decide ((i:Int)<3)=true:=by simp; omega
    have hll:=hR.len
    obtain ⟨b,e1,g1⟩:=Gc hT 4 (by omega)
    simp only [Fb,Kv,hd,if_true,e1,Option.bind_some,dt (show i<1000000 by omega)]
    by_cases hb:b.1=true
    ·rw [if_pos hb]
     obtain ⟨u,e2,g2⟩:=iO g1 4 (by omega)
     obtain ⟨w,e3,g3⟩:=ka g2.1 4 30 (by omega) (by omega) (by omega)
     simp only [e2,e3,Option.bind_some]
     rw [dp (by simp; omega)]
     exact ⟨(w.2.L,w.2.At,_),rfl,g3.1,hR.add ⟨g2.2.1,g2.2.2.1 (by omega)⟩ ⟨g3.2.1,g3.2.2⟩⟩
    ·rw [if_neg hb]
     exact ⟨(b.2.L,b.2.At,l),rfl,g1,hR.skip⟩
   ·obtain ⟨L,A,ga⟩:=s
    obtain ⟨hT,hR⟩:=hI
    replace hT:Tp (ax.mk L A):=hT
    have aaP:qj ga:=lF.rgs (i:=3) (by simpa using hR) (by omega)
    simp only [Fb,Kv,List.length_replicate,show decide (((3:Nat):Int)<3)=false by decide,Bool.false_eq_true,if_false]
    refine ca (a:=List.replicate 3 ()) (L:=fun m i (s:List Int × Int × List Int)=>Fc F 0 r1 r2 r3 r4 r5 l9 ga m i s.1 s.2.1 s.2.2) (fun i s=>Tp (ax.mk s.1 s.2.1)∧s.2.2.length≤i) (fun m i x s hx hI=>.inr ?_) (fun m s hI=>?_) (by simp; omega) (s0:=(L,A,([]:List Int))) ⟨hT,by simp⟩
    ·obtain ⟨L,A,l⟩:=s
     obtain ⟨hT,hR⟩:=hI
     replace hT:Tp (ax.mk L A):=hT
     replace hR:l.length≤i:=hR
     have hi:i<3:=by have:=(List.getElem?_eq_some_iff.1 hx).1; simpa using this
     have hd:decide ((i:Int)<3)=true:=by simp; omega
     obtain ⟨b,e1,g1⟩:=Gc hT 5 (by omega)
     simp only [Fc,Kw,hd,if_true,e1,Option.bind_some,dt (show i<1000000 by omega)]
     by_cases hb:b.1=true
     ·rw [if_pos hb,dp (by simp; omega)]
      exact ⟨(b.2.L,b.2.At,_),rfl,g1,by simp; omega⟩
     ·rw [if_neg hb]
      exact ⟨(b.2.L,b.2.At,l),rfl,g1,by show l.length≤i+1; omega⟩
    ·obtain ⟨L,A,km⟩:=s
     obtain ⟨hT,hR⟩:=hI
     replace hT:Tp (ax.mk L A):=hT
     simp only [Fc,Kw,List.length_replicate,show decide (((3:Nat):Int)<3)=false by decide,Bool.false_eq_true,if_false]
     refine cS.bind (iO hT 3 (by omega)) fun Kk h34=>?_
     obtain ⟨q,hq⟩:∃ q:Nat,Kk.1=(q:Int):=⟨Kk.1.toNat,by have:=h34.2.1; omega⟩
     have hq3:q<3:=by have:=h34.2.2.1 (by omega); omega
     rw [hq]
     exact OD hR9 aaP hF q F Kk.2.L Kk.2.At [] (by omega) (by omega) (by simp; omega) (by simp) h34.1
 ·show 0≤z.1.aY∧z.1.aY≤11
  rw [hz.2.2.2.2.2.1]; have:=h3.2.2.1 (by omega); have:=h3.2.1; omega
 ·show 10≤z.1.bh∧z.1.bh≤60
  rw [hz.2.2.2.2.2.2.1]; exact h4.2
 ·show 0≤z.1.aV∧z.1.aV≤2
  rw [hz.2.2.2.2.2.2.2]; have:=h5.2.2.1 (by omega); have:=h5.2.1; omega
end
end Go.Sh
namespace Go.Sh
open Go.L
end Go.Sh
namespace Go.Sh
open Go.L
abbrev xA:ah:=ah.mk 4 1 (ByteArray.mk #[113]) [(aq.mk 1 3 0 0 0 0)] []
end Go.Sh
namespace Go.Sh
open Go.L
end Go.Sh
namespace Go.Sh
open Go.L
theorem Ut {t:ax} (h:Tp t):cS (IA t 0) fun r=>Tp r.2∧r.1.Max≤12:=by
 unfold IA
 refine (ka h 1 12 (by omega) (by omega) (by omega)).bind fun r1 h1=>?_
 refine (iO h1.1 4 (by omega)).bind fun r2 h2=>?_
 refine (iO h2.1 3 (by omega)).bind fun r3 h3=>?_
 refine (iO h3.1 3 (by omega)).bind fun r4 h4=>?_
 have key:∀ (L:List Int) (A a b c d:Int),b≤12→Tp (ax.mk L A)→cS (IB 0 r2 r3 L A a b c d) fun r=>Tp r.2∧r.1.Max≤12:=fun L A a b c d hb hL=>by
  unfold IB
  refine (Uc hL (by omega)).bind fun w hw=>?_
  refine cS.ite (fun hm=>?_) fun _=>cS.pure ⟨hw.1,hb⟩
  rw [hw.2 (by omega)] at hm; cases hm
 refine cS.ite (fun _=>?_) fun _=>key _ _ _ _ _ _ (by omega) h4.1
 refine (ka h4.1 2 5 (by omega) (by omega) (by omega)).bind fun r5 h5=>?_
 refine (iO h5.1 r5.1 (by omega)).bind fun r6 h6=>?_
 exact (ka h6.1 1 3 (by omega) (by omega) (by omega)).bind fun r7 h7=>key _ _ _ _ _ _ (by omega) h7.1
theorem Ua {F:Nat} {t:ax} (h:Tp t) (id v:Int) (hF:50<F):cS (Kz F t id v 0) fun r=>Tp r.2∧Ow r.1∧r.1.ID=id∧∀ p ∈ r.1.aH,p.Max≤12:=by
 unfold Kz
 refine (ZM h (by omega)).bind fun r1 h1=>?_
 refine cS.A5 (by show 1+_≤_; have:=h1.2; omega) ?_
 generalize (ByteArray.mk #[113])++r1.1=sb
 refine (ka h1.1 1 3 (by omega) (by omega) (by omega)).bind fun r3 h3=>?_
 have second:∀ (parts:List aq) (L:List Int) (A:Int),1≤parts.length→parts.length≤3→(∀ p ∈ parts,p.Max≤12)→Tp (ax.mk L A)→cS (Iz id v 0 sb parts F 0 L A ([]:List Int)) fun r=>Tp r.2∧Ow r.1∧r.1.ID=id∧∀ p ∈ r.1.aH,p.Max≤12:=fun parts L A hp1 hp3 hpm hL=>by
  refine MD (L:=Iz id v 0 sb parts) (B:=KC id v 0 sb parts) (fun _=>rfl) (fun i l a e=>0≤i∧i≤6∧(e.length:Int)≤i∧Tp (ax.mk l a)) (fun i _ _ _=>(6 - i).toNat) (fun r=>Tp r.2∧Ow r.1∧r.1.ID=id∧∀ p ∈ r.1.aH,p.Max≤12) ?_ F 0 L A [] ⟨by omega,by omega,by simp,hL⟩ (by omega)
  intro rec i l a e hI ih
  obtain ⟨q1,q2,q3,q4⟩:=hI
  have hi:i64 (i+1)=i+1:=bR (by omega) (by omega)
  unfold KC
  refine cS.ite (fun hc=>?_) fun hc=>?_
  ·simp only [decide_eq_true_eq] at hc
   have may:cS (if (i != id)=true then (nC (ax.mk l a) 8).bind fun nA=>some (nA.1,nA.2.L,nA.2.At) else some (false,l,a)) fun w=>Tp (ax.mk w.2.1 w.2.2) :=
    cS.ite (fun _=>(Gc q4 8 (by omega)).bind fun r hr=>cS.pure hr) fun _=>cS.pure q4
   refine may.bind fun w hw=>?_
   rw [hi]
   refine cS.ite (fun _=>?_) fun _=>ih _ _ _ _ ⟨by omega,by omega,by omega,hw⟩ (by omega)
   exact cS.app (by simp; omega) (ih _ _ _ _ ⟨by omega,by omega,by simp; omega,hw⟩ (by omega))
  ·have hb:Ow ⟨id,v,sb,parts,e⟩:=⟨by show parts.length≤20; omega,by show e.length≤20; omega⟩
   refine (Uc q4 (n:=0) (by omega)).bind fun w hw=>?_
   refine cS.ite (fun hm=>?_) fun _=>cS.pure ⟨hw.1,hb,rfl,hpm⟩
   rw [hw.2 (by omega)] at hm; cases hm
 refine MD (L:=KA F id v 0 sb) (B:=KB F id v 0 sb) (fun _=>rfl) (fun k l a p=>0≤k∧(p.length:Int)+k≤3∧1≤(p.length:Int)+k∧Tp (ax.mk l a)∧∀ x ∈ p,x.Max≤12) (fun k _ _ _=>k.toNat) (fun r=>Tp r.2∧Ow r.1∧r.1.ID=id∧∀ p ∈ r.1.aH,p.Max≤12) ?_ F r3.1 r3.2.L r3.2.At [] ⟨by omega,by simp; omega,by simp; omega,h3.1,by simp⟩ (by omega)
 intro rec k l a p hI ih
 obtain ⟨q1,q2,q3,q4,q5⟩:=hI
 unfold KB
 refine cS.ite (fun hc=>?_) fun hc=>second p l a (by simp at hc; omega) (by omega) q5 q4
 simp only [decide_eq_true_eq] at hc
 refine (Ut q4).bind fun r hr=>?_
 rw [bR (n:=k - 1) (by omega) (by omega)]
 exact cS.app (by simp; omega) (ih _ _ _ _ ⟨by omega,by simp; omega,by simp; omega,hr.1,fun x hx=>(List.mem_append.1 hx).elim (q5 x) (fun hx=>by simp only [List.mem_singleton] at hx; subst hx; exact hr.2)⟩ (by omega))
def VC (e:bu):Prop:=Ow e.Item∧(0≤e.Item.ID∧e.Item.ID<5)∧(∀ p ∈ e.Item.aH,p.Max≤12)∧e.ai.Time≤100∧0≤e.Form∧e.Form<4
def sJ (l:List bu):Prop:=∀ e ∈ l,VC e
theorem sJ.short {F:Nat} {l:List bu} (h:sJ l) (hF:50<F):BC F l:=fun e he=>(h e he).1.sh hF
section
variable {aE:Int→List Int→Int→List Int→List bu→Option (List bu × ax)} {n3:Int} {l7:List bu} {nE:List bu × ax→Prop}
def KJ (aE:Int→List Int→Int→List Int→List bu→Option (List bu × ax)) (n3:Int) (l7:List bu) (nE:List bu × ax→Prop):Prop :=
 ∀ (t:ax) (vs:List Int) (l:List bu),Tp t→vs.length=5→l.length≤l7.length+2→sJ l→cS (aE (i64 (n3 - 1)) t.L t.At vs l) nE
theorem VW (hl:l7.length≤1000) (hc:sJ l7) (h:KJ aE n3 l7 nE) {n18 n25 n27 n28 n29 n30 n31 n32 n33 A:Int} {sb:ByteArray} {ps:List aq} {es vs L:List Int} (hv:vs.length=5) (s6:ps.length≤20) (Qu:es.length≤20) (bX:0≤n18∧n18<5) (SD:∀ p ∈ ps,p.Max≤12) (Qw:0≤n25∧n25<4) (htm:n27≤100) (ht:Tp (ax.mk L A)) :
  cS (xW aE n3 l7 n18 sb ps es n25 vs n27 n28 n29 n30 n31 n32 n33 L A) nE:=by
 unfold xW
 refine cS.app (by simp; omega) ?_
 have Bd:sJ (l7++[bu.mk (bJ.mk n27 n28 n29) n30 (ah.mk n18 n31 sb ps es) (bD.mk n32 n33) n25]):=fun x hx=>by
  rcases List.mem_append.1 hx with hx | hx
  ·exact hc x hx
  ·simp only [List.mem_singleton] at hx; subst hx; exact ⟨⟨s6,Qu⟩,bX,SD,htm,Qw.1,Qw.2⟩
 have pP:(l7++[bu.mk (bJ.mk n27 n28 n29) n30 (ah.mk n18 n31 sb ps es) (bD.mk n32 n33) n25]).length=l7.length+1:=by simp
 generalize l7++[bu.mk (bJ.mk n27 n28 n29) n30 (ah.mk n18 n31 sb ps es) (bD.mk n32 n33) n25]=v at Bd pP
 refine (Gc ht 8 (by omega)).bind fun r hr=>?_
 refine cS.ite (fun _=>?_) fun _=>h _ _ _ hr hv (by omega) Bd
 refine (iO hr (v.length:Int) (by omega)).bind fun r2 h2=>?_
 refine cS.idx h2.2.1 (h2.2.2.1 (by omega)) fun x hx _=>?_
 refine cS.app (by simp; omega) (h _ _ _ h2.1 hv (by simp; omega) fun y hy=>?_)
 rcases List.mem_append.1 hy with hy | hy
 ·exact Bd y hy
 ·simp only [List.mem_singleton] at hy; subst hy; exact Bd _ hx
theorem Qo (hl:l7.length≤1000) (hc:sJ l7) (h:KJ aE n3 l7 nE) {fR dS:Int × ax} {n16 n17 n18 n19 n23 n24 n25:Int} {sb:ByteArray} {ps:List aq} {es vs L:List Int} (hv:vs.length=5) (s6:ps.length≤20) (Qu:es.length≤20) (bX:0≤n18∧n18<5) (SD:∀ p ∈ ps,p.Max≤12) (Qw:0≤n25∧n25<4) (htm:fR.1≤1∧0≤fR.1∧l7.length≤46) (ht:Tp (ax.mk L n16)) :
  cS (Ix aE 0 n3 l7 fR dS L n16 n17 n18 n19 sb ps es n23 n24 n25 vs) nE:=by
 unfold Ix
 refine (Uc ht (n:=0) (by omega)).bind fun w hw=>?_
 refine cS.ite (fun hm=>?_) fun _=>VW hl hc h hv s6 Qu bX SD Qw (by first | (rw [bR (by omega) (by omega)]; omega) | omega) hw.1
 rw [hw.2 (by omega)] at hm; cases hm
end
theorem BG {F:Nat} {t:ax} (h:Tp t) (iE:Nat) (hm:iE≤24) (hF:400<F):∃ l t',RX F t iE 0=some (l,t')∧Tp t'∧l.length≤2 * iE∧sJ l:=by
 have key:cS (RX F t iE 0) fun r=>Tp r.2∧r.1.length≤2 * iE∧sJ r.1:=by
  unfold RX
  rw [show (5:Int)=((5:Nat):Int) from rfl,k7 (by omega),Option.bind_some]
  refine (ka h 0 iE (by omega) (by omega) (by omega)).bind fun r2 h2=>?_
  refine XP (L:=Kr F 0) (B:=Ks F 0) (fun _=>rfl) (fun k l a vs U4=>0≤k∧(U4.length:Int)+2 * k≤2 * iE∧vs.length=5∧sJ U4∧Tp (ax.mk l a)) (fun k _ _ _ _=>k.toNat) (fun r=>Tp r.2∧r.1.length≤2 * iE∧sJ r.1) ?_ F r2.1 r2.2.L r2.2.At (List.replicate 5 0) [] ⟨by omega,by simp; omega,by simp,fun e he=>by simp at he,h2.1⟩ (by omega)
  intro rec k l a vs U4 hI ih
  obtain ⟨q1,q2,q3,q4,q5⟩:=hI
  unfold Ks
  refine cS.ite (fun hc=>?_) fun hc=>cS.pure ⟨q5,by show U4.length≤_; omega,q4⟩
  simp only [decide_eq_true_eq] at hc
  have Cc:KJ rec k U4 fun r=>Tp r.2∧r.1.length≤2 * iE∧sJ r.1:=fun t' fD l' a1 a2 a3 a4=>by
   rw [bR (n:=k - 1) (by omega) (by omega)]
   exact ih _ _ _ _ _ ⟨by omega,by omega,a2,a4,a1⟩ (by omega)
  refine (iO q5 5 (by omega)).bind fun r9 h9=>?_
  have b9:=h9.2.2.1 (by omega)
  refine (iO h9.1 2 (by omega)).bind fun fR J2=>?_
  refine (iO J2.1 2 (by omega)).bind fun dS h11=>?_
  refine (X2 h11.1 [3,4,4,2,5,6] (by simp) (by simp)).bind fun jU h12=>?_
  refine cS.idx h9.2.1 (by omega) fun jc _ _=>?_
  refine (iO h12.1 4 (by omega)).bind fun fJ ZT=>?_
  have hw:cS ((idx vs r9.1).bind fun ZP=>if (ZP == 0)=true then some true else some (jU.1 == 2)) fun _=>True :=
   cS.idx h9.2.1 (by omega) fun x _ _=>cS.ite (fun _=>cS.pure trivial) fun _=>cS.pure trivial
  have j4:∀ k4:Int,cS (Iy rec F 0 k vs U4 r9 fR dS fJ k4) fun r=>Tp r.2∧r.1.length≤2 * iE∧sJ r.1:=fun k4=>by
   unfold Iy
   refine cS.idx h9.2.1 (by omega) fun Ou _ _=>?_
   refine cS.idx h9.2.1 (by omega) fun x66 _ _=>?_
   refine cS.idx h9.2.1 (by simp; omega) fun x67 _ _=>?_
   refine (Ua ZT.1 r9.1 x67 (by omega)).bind fun xh VZ=>?_
   exact Qo (by omega) q4 Cc (by simp [q3]) VZ.2.1.1 VZ.2.1.2 (by rw [VZ.2.2.1]; omega) VZ.2.2.2 (by omega) ⟨by have:=J2.2.2.1 (by omega); omega,J2.2.1,by omega⟩ VZ.1
  refine hw.bind fun w _=>cS.ite (fun _=>?_) fun _=>?_
  ·refine cS.idx h9.2.1 (by omega) fun x69 _ _=>?_
   exact cS.ite (fun _=>j4 _) fun _=>j4 _
  ·exact Qo (by omega) q4 Cc q3 (by simp) (by simp) (by omega) (by simp) ⟨ZT.2.1,ZT.2.2.1 (by omega)⟩ ⟨by have:=J2.2.2.1 (by omega); omega,J2.2.1,by omega⟩ ZT.1
 obtain ⟨⟨l,t'⟩,h1,h2⟩:=key
 exact ⟨l,t',h1,h2⟩
end Go.Sh
namespace Go.Sh
open Go.L
structure RY (r:a8):Prop where
 Ti:0≤r.ID∧r.ID<5
 it:∀ x ∈ r.ak,qu x
 nd:(r.Uses.map (·.Form)).Nodup
 us:∀ u ∈ r.Uses,u.Time≤100∧0≤u.Form∧u.Form<4
def RT (l:List a8):Prop:=∀ r ∈ l,RY r
theorem yZ:∀ (n:Nat) (l:List Int),l.Nodup→(∀ x ∈ l,0≤x∧x<(n:Int))→l.length≤n
 | 0,l,_,h=>by
  cases l with
  | nil=>simp
  | cons x l=>have:=h x (by simp); omega
 | n+1,l,hd,h=>by
  have h1:=yZ n (l.erase (n:Int)) (hd.erase _) fun x hx=>by
   have h2:=h x (List.mem_of_mem_erase hx)
   have h3:x ≠ (n:Int):=fun he=>by subst he; exact (hd.not_mem_erase) hx
   omega
  have h4:=List.length_erase_le (a:=(n:Int)) (l:=l)
  by_cases hm:(n:Int) ∈ l
  ·rw [List.length_erase_of_mem hm] at h1; omega
  ·rw [List.erase_of_not_mem hm] at h1; omega
theorem HH {x:ah} (h:iB x=0) (hm:∀ p ∈ x.aH,p.Max≤12):qu x:=by
 obtain ⟨h1,h2⟩:=jq h
 have key:∀ l:List aq,(∀ p ∈ l,1≤p.Max∧p.Max≤12)→0≤(l.map (·.Max)).sum∧(l.map (·.Max)).sum≤12 * (l.length:Int):=by
  intro l
  induction l with
  | nil=>intro _; simp
  | cons p l ih =>
   intro hl
   have a:=hl p (by simp)
   have b:=ih fun q hq=>hl q (by simp [hq])
   simp only [List.map_cons,List.sum_cons,List.length_cons]; omega
 have:=key x.aH fun p hp=>⟨(h2 p hp).1,hm p hp⟩
 exact ⟨h,this.1,by unfold total; omega⟩
theorem OI {r:a8} {e:bu} (h:RY r) (he:VC e) (hc:e.Kind=2→iB e.Item=0):RY (mV r e).2:=by
 obtain ⟨_,_,e3,e4,e5,e6⟩:=he
 unfold mV
 split
 ·rename_i hk
  split
  ·exact h
  ·refine ⟨h.Ti,fun x hx=>?_,h.nd,h.us⟩
   rcases List.mem_append.1 hx with hx | hx
   ·exact h.it x hx
   ·simp only [List.mem_singleton] at hx; subst hx; exact HH (hc hk) e3
 ·split
  ·split
   ·exact h
   ·split
    ·exact h
    ·split
     ·exact h
     ·exact ⟨h.Ti,h.it,h.nd,h.us⟩
  ·split
   ·split
    ·exact h
    ·split
     ·exact h
     ·split
      ·exact h
      ·rename_i aaW
       split
       ·exact h
       ·refine ⟨h.Ti,h.it,?_,fun u hu=>?_⟩
        ·simp only [List.map_append,List.map_cons,List.map_nil]
         rw [List.nodup_append]
         refine ⟨h.nd,by simp,fun a ha b hb qo=>?_⟩
         simp only [List.mem_singleton] at hb
         subst hb; subst qo
         obtain ⟨u,hu,hf⟩:=List.mem_map.1 ha
         exact aaW (List.any_eq_true.2 ⟨u,hu,by simpa using hf⟩)
        ·rcases List.mem_append.1 hu with hu | hu
         ·exact h.us u hu
         ·simp only [List.mem_singleton] at hu; subst hu; exact ⟨e4,e5,e6⟩
   ·split
    ·exact h
    ·exact ⟨h.Ti,h.it,h.nd,h.us⟩
theorem Ho {l:List a8} {e:bu} (h:RT l) (he:VC e) (hc:e.Kind=2→iB e.Item=0):RT (qn l e).2:=by
 unfold qn
 split
 ·exact h
 ·split
  ·exact h
  ·rename_i r hr
   split
   ·intro q hq
    rcases List.mem_or_eq_of_mem_set hq with hq | hq
    ·exact h q hq
    ·rw [hq]; exact OI (h r (List.mem_of_getElem? hr)) he hc
   ·exact h
theorem PU {l:List a8} {e:bu} (h:RT l) (he:VC e):RT (gl l e).2:=by
 unfold gl
 split
 ·unfold qz
  split
  ·exact h
  ·rename_i St
   split
   ·exact h
   ·split
    ·exact h
    ·split
     ·exact h
     ·intro q hq
      simp only [Tk,List.mem_append,List.mem_singleton] at hq
      rcases hq with (hq | hq) | hq
      ·exact h q (List.mem_of_mem_take hq)
      ·subst hq
       exact ⟨he.2.1,fun x hx=>by simp only [List.mem_singleton] at hx; subst hx; exact HH (by simpa using St) he.2.2.1,by simp,by simp⟩
      ·exact h q (List.mem_of_mem_drop hq)
 ·split
  ·split
   ·exact h
   ·rename_i St
    exact Ho h he fun _=>by simpa using St
  ·rename_i h2
   split
   ·exact Ho h he fun hk=>absurd hk h2
   ·exact h
theorem Ht:∀ {s:List bu} {l:List a8} {r:List gM},RT l→(∀ e ∈ s,VC e)→RT (kg s l r).1
 | [],l,r,h,_=>h
 | e :: s,l,r,h,hs=>by
  unfold kg
  exact Ht (PU h (hs e (by simp))) fun x hx=>hs x (by simp [hx])
theorem K9 {ev:List bu} {u:Int} (h:sJ ev):ug (kf ev u).1:=by
 have hF:RT (kf ev u).1:=by
  unfold kf
  simp only
  split
  ·intro r hr; cases hr
  ·refine Ht (fun r hr=>by cases hr) fun e he=>?_
   unfold qX at he
   exact h e (BI (List.takeWhile_subset _ he))
 refine ⟨IV,fun r hr=>(hF r hr).Ti,fun r hr=>(hF r hr).it,fun r hr=>?_⟩
 have om:=hF r hr
 have:=yZ 4 _ om.nd fun x hx=>by
  obtain ⟨u,hu,rfl⟩:=List.mem_map.1 hx
  have:=om.us u hu; omega
 rw [List.length_map] at this
 exact ⟨by omega,fun u hu=>by have:=om.us u hu; omega⟩
end Go.Sh
namespace Go.Sh
open Go.L
abbrev FP:Nat:=10000
theorem IG:qq FP=some true:=by
 unfold qq
 rw [La (by decide) (fun e he=>by
  simp only [List.mem_cons,List.not_mem_nil,or_false] at he
  unfold Qg
  rcases he with rfl | rfl <;> simp [FP]) (by simp [FP]) (by simp [FP])]
 have h1:kf [(bu.mk (bJ.mk 0 0 0) 1 (ah.mk 4 1 (ByteArray.mk #[113]) [(aq.mk 1 3 0 0 0 0)] []) (bD.mk 0 0) 0),(bu.mk (bJ.mk 1 0 1) 3 (ah.mk 0 0 (ByteArray.mk #[]) [] []) (bD.mk 4 1) 0)] 9=([a8.mk 4 [xA] [true] [] false],[],0):=by decide +kernel
 rw [h1]
 simp only [Option.bind_some]
 rw [vw (by decide)]
 have h2:BP [a8.mk 4 [xA] [true] [] false] 9 0 9=[bD.mk 4 1]:=by decide +kernel
 rw [h2]
 have hv:kU [a8.mk 4 [xA] [true] [] false]:=qY.1 (by decide +kernel)
 have h3:J0 [a8.mk 4 [xA] [true] [] false] 4 1=(xA,true):=by decide +kernel
 have h4:tR FP [xA] [0] 2 1=some (jd.mk 2 1 [(aq.mk 1 3 0 0 0 0)],0):=by decide +kernel
 have h5:Ia FP (jd.mk 2 1 [(aq.mk 1 3 0 0 0 0)])=some 3:=by decide +kernel
 have h6:idx [bD.mk 4 1] (0:Int)=some (bD.mk 4 1):=rfl
 simp only [Option.bind_some,h6,xN (hv.sh (show 400<FP by decide)),h3,h4,h5]
 simp
theorem Ge {F:Nat} (hF:9000<F) (hA:qq F=some true) {l:List a8} (h:ug l) {r5:fG × ax} (hb:kS (yF r5.1)) {an:List Int} (ha:iz (c8 l).length 0 an) (ya:an.length≤1) {gV:cZ × Int} (hP:yE (c8 l) (yF r5.1) gV.1) {ps:List bb} {us:List Int} (hk:1≤ps.length∧ps.length≤3) (s6:Hf gV.1 an ps us) :
  cS (Em F (⟨l⟩,c8 l,true) r5 an gV (ps,0) F 0 ([]:List (List Int))) (fun b=>b=true):=by
 have hn:=nK h
 have hI:=yT h
 have Od:=Cl h
 refine ca (a:=ps) (L:=fun n i (s:List (List Int))=>Em F (⟨l⟩,c8 l,true) r5 an gV (ps,0) n i s) (fun i s=>s=(ps.take i).map (·.cT)) (fun n i p s hx hs=>.inr ⟨_,?_,rfl⟩) (fun n s hs=>?_) (by omega) (by simp)
 ·subst hs
  have hi:i<ps.length:=(List.getElem?_eq_some_iff.1 hx).1
  obtain ⟨g1,g2,g3⟩:=s6.nG p (List.mem_of_getElem? hx)
  have hf:=hP.fit g1 g2
  have hv:0≤(i:Int)∧(i:Int)<4:=by omega
  simp only [Em,DG,dM hx,if_true,cr hx,Option.bind_some,dt (show i<1000000 by omega),Ep (F:=F) hf.mK (by omega) (by omega),Bool.not_true,Bool.false_eq_true,if_false,PA (F:=F) (by omega) hn hI hb hf hv,bne_self_eq_false,sA (F:=F) (by omega) hI hb hf hv,Sa (F:=F) (by omega) hn hI Od hb hf hv]
  rw [dp (by simp; omega)]
  simp only [Option.bind_some]
  rw [List.take_add_one,hx]
  simp
 ·subst hs
  simp only [Em,DG,dL,Bool.false_eq_true,if_false,List.take_length]
  have e1:(if ((an.length:Int) == 0)=true then if ((ps.length:Int) == 0)=true then some true else (idx ps 0).bind fun Ot=>(wY F gV.1 Ot).bind fun zJ=>some (zJ != 0) else some false)=some false:=by
   by_cases h0:((an.length:Int) == 0)=true
   ·rw [if_pos h0,if_neg (by simp; intro e; rw [e] at hk; simp at hk)]
    have hp:ps[0]?=some ps[0]:=by simp
    have V2:an=[]:=by
     have:an.length=0:=by simp at h0; simp [h0]
     exact List.length_eq_zero_iff.1 this
    have hc:=s6.ez V2 _ hp F (by omega)
    rw [show (0:Int)=((0:Nat):Int) from rfl,cr hp]
    simp only [Option.bind_some,hc]
    rfl
   ·rw [if_neg h0]
  rw [e1]
  simp only [Option.bind_some,Bool.false_eq_true,if_false]
  have hcs:xb F (ps.map (·.cT)) an=some true:=by
   refine Oy (n:=(c8 l).length) ha (by omega) (by omega) (by simp; omega) (fun c hc=>?_) ?_
   ·obtain ⟨p,hp,rfl⟩:=List.mem_map.1 hc
    obtain ⟨g1,g2,g3⟩:=s6.nG p hp
    exact ⟨(hP.fit g1 g2).mK,g3⟩
   ·rw [List.pairwise_map]; exact s6.apart
  have e2:decide ((ps.length:Int) > 0)=true:=by simp; omega
  rw [e2,hcs]
  simp only [if_true,Option.bind_some,hA]
  exact ⟨_,rfl,rfl⟩
theorem CC {F:Nat} (hF:9000<F) (hA:qq F=some true) {l:List a8} (h:ug l) {r5:fG × ax} (hb:kS (yF r5.1)) {ql an L:List Int} {A:Int} (hT:Tp (ax.mk L A)) (hc:ql.length=(c8 l).length) (hcs:∀ x ∈ ql,0≤x∧x≤10000) (ha:iz (c8 l).length 0 an) (ya:an.length≤1) :
  cS (zl F (⟨l⟩,c8 l,true) r5 ql an L A) (fun b=>b=true):=by
 have hn:=nK h
 have hI:=yT h
 unfold zl
 refine cS.bind (Jw (F:=F) (b:=yF r5.1) (by omega) hn hb hI hc hcs) fun gV h16=>?_
 obtain ⟨hz,hP⟩:=h16
 obtain ⟨hOk,hR⟩:=hP.ok hn hb hI
 refine cS.bind (ka hT 1 3 (by omega) (by omega) (by omega)) fun jk h17=>?_
 obtain ⟨k,hk⟩:∃ k:Nat,jk.1=(k:Int):=⟨jk.1.toNat,by have:=h17.2.1; omega⟩
 have hk3:1≤k∧k≤3:=by have:=h17.2.1; have:=h17.2.2; omega
 rw [hk]
 have haP:iz gV.1.aj.length 0 an:=by rw [hP.n]; exact ha
 refine cS.bind (Fj (F:=F) (k:=k) hOk haP (by omega) (by omega) (by rw [hP.n]; show gV.1.Rows.length+an.length+(c8 l).length≤60; omega)) fun j9 h18=>?_
 rcases h18 with J2 | ⟨h0,hl,us,s6⟩
 ·rw [if_pos (by rw [J2]; simp),hz,J2]
  simp only [beq_self_eq_true,if_true,hA,Option.bind_some]
  exact ⟨_,rfl,rfl⟩
 ·rw [if_neg (by rw [hz,h0]; simp)]
  obtain ⟨ps,e⟩:=j9
  replace h0:e=0:=h0
  subst h0
  exact Ge hF hA h hb ha ya hP (by have:ps.length=k:=hl; omega) s6
theorem CB {F:Nat} (hF:9000<F) (hA:qq F=some true) {l:List a8} (h:ug l) {r5:fG × ax} (hb:kS (yF r5.1)) (hT:Tp r5.2):cS (El F (⟨l⟩,c8 l,true) r5 F 0 r5.2.L r5.2.At ([]:List Int)) (fun b=>b=true):=by
 have hn:=nK h
 refine ca (a:=c8 l) (L:=fun n i (s:List Int × Int × List Int)=>El F (⟨l⟩,c8 l,true) r5 n i s.1 s.2.1 s.2.2) (fun i s=>Tp (ax.mk s.1 s.2.1)∧s.2.2.length=i∧∀ x ∈ s.2.2,0≤x∧x≤10000) (fun n i x s hx hI=>.inr ?_) (fun n s hI=>?_) (by omega) (s0:=(r5.2.L,r5.2.At,[])) ⟨hT,rfl,by simp⟩
 ·obtain ⟨h1,h2,h3⟩:=hI
  have hi:i<(c8 l).length:=(List.getElem?_eq_some_iff.1 hx).1
  obtain ⟨r,hr,g1,g2,g3,_⟩:=iO h1 9 (by omega)
  have g3:=g3 (by omega)
  simp only [El,DE,dM hx,if_true,hr,Option.bind_some,dt (show i<1000000 by omega)]
  rw [dp (by simp; omega)]
  refine ⟨(r.2.L,r.2.At,s.2.2++[r.1]),rfl,g1,by simp [h2],fun y hy=>?_⟩
  rcases List.mem_append.1 hy with hy | hy
  ·exact h3 y hy
  ·simp only [List.mem_singleton] at hy; subst hy; omega
 ·obtain ⟨h1,h2,h3⟩:=hI
  simp only [El,DE,dL,Bool.false_eq_true,if_false]
  have hw:cS (if (decide (((c8 l).length:Int) > 0))=true then (nC (ax.mk s.1 s.2.1) 3).bind fun Rz=>some (Rz.1,Rz.2.L,Rz.2.At) else some (false,s.1,s.2.1)) (fun w=>Tp (ax.mk w.2.1 w.2.2)∧(w.1=true→0<(c8 l).length)):=by
   refine cS.ite (fun hp=>?_) fun _=>⟨_,rfl,h1,fun h=>by cases h⟩
   refine cS.bind (Gc h1 3 (by omega)) fun r hr=>⟨_,rfl,hr,fun _=>?_⟩
   simp only [decide_eq_true_eq] at hp; omega
  refine cS.bind hw fun w hw=>?_
  refine cS.ite (fun hp=>?_) fun _=>?_
  ·have LG:=hw.2 hp
   refine cS.bind (iO hw.1 ((c8 l).length:Int) (by omega)) fun Nr h62=>?_
   obtain ⟨j,hj⟩:∃ j:Nat,Nr.1=(j:Int):=⟨Nr.1.toNat,by have:=h62.2.1; omega⟩
   refine CC hF hA h hb h62.1 h2 h3 ⟨j,hj,Nat.zero_le _,by have:=h62.2.2.1 (by omega); omega,trivial⟩ (by simp)
  ·exact CC hF hA h hb hw.1 h2 h3 trivial (by simp)
theorem Og (t:List Int):∃ F,Ic F t=some true:=by
 obtain ⟨F,hF,hA⟩:∃ F,9000<F∧qq F=some true:=⟨FP,by decide,IG⟩
 refine ⟨F,?_⟩
 unfold Ic
 obtain ⟨t1,a1,a2⟩:=XV t
 obtain ⟨ev,t2,b1,b2,b3,b4⟩:=BG (F:=F) a2 24 (by omega) (by omega)
 have b1':RX F t1 24 0=some (ev,t2):=b1
 have hbk:=K9 (u:=1000000) b4
 have yM:iK F ev 1000000=some (⟨(kf ev 1000000).1⟩,(kf ev 1000000).2.1,(kf ev 1000000).2.2):=La (by omega) (b4.short (by omega)) (by omega) (by omega)
 have Wc:(kf ev 1000000).2.2=0:=by rw [BT (by omega)]
 rw [Wc] at yM
 rw [a1]
 simp only [Option.bind_some,b1',KS (show 500<F by omega) yM hbk]
 rw [if_neg (by simp)]
 obtain ⟨r5,c1,c2,c3⟩:=OH b2 (show 100<F by omega)
 rw [c1]
 obtain ⟨b,h1,rfl⟩:=CB hF hA hbk c3 c2
 exact h1
end Go.Sh
