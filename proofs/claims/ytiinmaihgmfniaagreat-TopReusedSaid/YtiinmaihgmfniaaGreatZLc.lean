import Derived.Test.YtiinmaihgmfniaaGreatZLb
import Derived.Shelf.Sort.Plain
import Derived.Shelf.Slices.In.SortNone
import Derived.Maps.RangeRun
import Derived.Below
set_option linter.unusedVariables false
set_option linter.unusedSimpArgs false
namespace Go.L
theorem Wk.QP {pr:Nat→Prop} {el:List (Nat × LV)} {ml:List (Nat × LE)} (id e k:Nat) (os:List (Nat × Nat × Nat)) (oq j:Nat) {cs dL:List LV} (cj:Mem.of ml id=.none) (hk:Nat.ble 1 k=true) (hb:Mem.of ml oq=some (.box cs)) (hj:cs[j]?=some .nil) (hcs:cs.set j (.arr id 0)=dL) (mi:¬ pr id) :
  Wk pr (Env.of el) (Mem.of ml) (Env.of el) (((Mem.of ml).put id (.nest e k os [])).put oq (.box dL)):=by
 intro N c a cv
 have eE:oq ≠ id:=fun h=>by rw [h,cj] at hb; cases hb
 have hB:=cv.mem.fresh cj
 obtain ⟨c',hw,iG,h2,h3⟩:=cv.mem.y4 (pr:=pr) id (.nest e k os []) (.arr (.slice .none 0 0) k 0 []) c.w rfl rfl rfl (Nat.le_refl _) (Nat.le_refl _)
  (fun b _ _=>rfl) (fun b hb=>by simp [BE.has,Value.ownBlock] at hb) (by rw [hB]; trivial) (fun h=>absurd h mi)
  (fun c' hw hle hble=>by
   simp only [bJ]
   exact ⟨.slice .none 0 0,[],[],rfl,Nat.le_of_ble_eq_true hk,by rw [hw]; exact World.ownsRow_nil c.w 0 e k,by simp [dG],by simp,by simp,by simp [Value.ownBlock]⟩)
 have hb2:((Mem.of ml).put id (.nest e k os [])) oq=some (.box cs):=by simp only [Mem.put,eE,if_false]; exact hb
 obtain ⟨b,vs,e1,FJ,hh,hl,h1⟩:=j9 h2 hb2
 have jd:∀ (cs:List LV) (vs:List Value) (j:Nat),aE c' cs vs→cs[j]?=some .nil→aE c' (cs.set j (.arr id 0)) vs:=by
  intro cs
  induction cs with
  | nil=>intro vs j _ h; simp at h
  | cons x xs ih =>
   intro vs j hl hj
   simp only [aE] at hl
   obtain ⟨v,fR,rfl,hv,oz⟩:=hl
   cases j with
   | zero =>
    simp at hj; subst hj
    simp only [ar] at hv
    simp only [List.set_cons_zero,aE]
    refine ⟨v,fR,rfl,?_,oz⟩
    simp only [ar]
    exact ⟨by rw [hv]; rfl,_,_,_,_,iG,Nat.le_refl _,fun _=>hv⟩
   | succ j =>
    simp only [List.set_cons_succ,aE]
    exact ⟨v,fR,rfl,hv,ih fR j oz (by simpa using hj)⟩
 have lp:=h2.re (dL:=dL) hb2 FJ hh (by rw [← hcs]; exact jd cs vs j hl hj) h1 (by rw [← hcs]; simp)
 exact ⟨c',hw,⟨fun i=>h3.yJ (cv.env i),lp,cv.size,cv.defers⟩,h3.grow⟩
theorem dG.split {c:Cx} {os:List (Nat × Nat × Nat)}:∀ {i:Nat} {xs:List LV} {vs:List Value} {bs:List Nat},dG c os xs vs bs→∃ b1 b2,bs=b1++b2∧dG c os (xs.take i) (vs.take i) b1∧dG c os (xs.drop i) (vs.drop i) b2
 | 0,xs,vs,bs,h=>⟨[],bs,rfl,by simp [dG],by simpa using h⟩
 | i+1,[],vs,bs,h=>by
  simp only [dG] at h
  obtain ⟨rfl,rfl⟩:=h
  exact ⟨[],[],rfl,by simp [dG],by simp [dG]⟩
 | i+1,x :: xs,vs,bs,h=>by
  simp only [dG] at h
  obtain ⟨v,fR,b1,b2,rfl,rfl,h1,h2⟩:=h
  obtain ⟨c1,c2,rfl,h3,h4⟩:=dG.split (i:=i) h2
  refine ⟨b1++c1,c2,by simp,?_,by simpa using h4⟩
  simp only [List.take_succ_cons,dG]
  exact ⟨v,_,b1,c1,rfl,rfl,h1,h3⟩
theorem dG.app {c:Cx} {os:List (Nat × Nat × Nat)}:∀ {xs ys:List LV} {vs us:List Value} {b1 b2:List Nat},dG c os xs vs b1→dG c os ys us b2→dG c os (xs++ys) (vs++us) (b1++b2)
 | [],ys,vs,us,b1,b2,h,h'=>by
  simp only [dG] at h
  obtain ⟨rfl,rfl⟩:=h
  simpa using h'
 | x :: xs,ys,vs,us,b1,b2,h,h'=>by
  simp only [dG] at h
  obtain ⟨v,fR,c1,c2,rfl,rfl,h1,h2⟩:=h
  simp only [List.cons_append,dG]
  exact ⟨v,fR++us,c1,c2++b2,rfl,by simp,h1,dG.app h2 h'⟩
section
variable {P:Program} {N:Nat} {pr:Nat→Prop} {ev:Operand→LV} {m m':Mem} {d:Option Nat} {x y z:Operand} {t ty:TypeId} {pos:String} {af:Array Edge} {gd:Option (Nat × Bool)} {lv:LV} {α β:Type} {f:α→LV} {g:β→LV} {e0 k id n:Nat} {os:List (Nat × Nat × Nat)}
theorem QA {d0 kk:Nat} {el:TypeId} {cs dL:List LV} {S:List Nat} (he:telem P t=some el) (kh:fQ P el=true) (hk:tsize P el=kk) (Pb:Nat.ble kk 16777216=true) (hx:ev x=.agg cs) (MM:cs.length=kk) (vw:cs.all LV.scalar=true) (cj:m id=.none) (nf:ly m os 0 cs dL S) (hS:S.Nodup) (Ou:∀ j ∈ S,¬ pr j) :
  bR P pr ⟨some d0,.buildSlice t 1 #[(0,x)],ty,pos,af,gd⟩ ev m (.arr id 1) (m.gone id (.nest el kk os [.agg dL]) S):=by
 subst hk
 have RA:=Nat.le_of_ble_eq_true Pb
 have hu:=fX he
 obtain ⟨i,zv,hi,y2,sV,vU,fe,Lo,rQ⟩:=pJ kh
 refine bR.value fun c a bS hM=>?_
 have oU:=bS x (by simp [Op.operands])
 rw [hx] at oU
 obtain ⟨F3,rR⟩:=oU.cellsOf (by simpa [LV.cells] using vw)
 simp only [ar] at oU
 obtain ⟨ws,RD,yq⟩:=oU
 have BV:ws.length=i.size:=by rw [← yq.length,MM,rQ]
 have y1:(a.eval x).cells.size=i.size:=by rw [RD]; simp [Value.cells,BV]
 have FN:flat [a.eval x]=ws:=by rw [RD]; simp [flat,Value.cells]
 obtain ⟨cells,zD,zE⟩:∃ cells,Instr.fill (fun i'=>some (i' * i.size,i.size)) ((Array.range (1 * i.size)).map (zv.cells[· % zv.cells.size]!)) [(0,a.eval x)]=some cells∧cells.toList=flat [a.eval x]:=by
  obtain ⟨r,hr,Zw,SO⟩:=Great.fill_dense fe [a.eval x] 0 ((Array.range (1 * i.size)).map (zv.cells[· % zv.cells.size]!)) (fun v hv=>by simp at hv; rw [hv]; exact y1) (by simp)
  refine ⟨r,by simpa using hr,?_⟩
  apply List.ext_getElem?
  intro j
  rw [flat_get fe (fun v hv=>by simp at hv; rw [hv]; exact y1),Array.getElem?_toList,SO j]
  simp only [Nat.zero_mul,Nat.zero_le,true_and,Nat.zero_add,Nat.sub_zero,List.length_singleton]
  by_cases hj:j<1 * i.size
  ·rw [if_pos hj]
  ·rw [if_neg hj]
   have h1:¬ j / i.size<1:=fun hh=>hj ((Nat.div_lt_iff_lt_mul fe).1 hh)
   rw [List.getElem?_eq_none (by simp; omega:[a.eval x].length≤j / i.size)]
   simp; omega
 have kg:cells=ws.toArray:=by rw [← FN,← zE]
 subst kg
 have dt:(execOp a.eval ⟨some d0,.buildSlice t 1 #[(0,x)],ty,pos,af,gd⟩).run P c.w=.ok (.value (.slice (some ⟨c.w.heap.size,0,.none⟩) 1 1)) (c.w.alloc (.cells ws.toArray el)):=by
  have hb:=run_buildSlice (P:=P) c.w t el 1 #[(0,a.eval x)] ws.toArray i zv hu hi y2 (by rw [rQ] at RA; omega) (by omega) (by simpa using zD)
  simp [execOp,hb]
 have Lr:id ∉ S:=fun h=>by
  obtain ⟨e,k',ys,h'⟩:=nf.ids id h
  rw [cj] at h'; cases h'
 have Wq:∀ j ∈ S,∃ u k len ins,c.B j=some (.arr u k len ins):=fun j hj=>by
  obtain ⟨e,k',ys,h'⟩:=nf.ids j hj
  have:=hM.gH j
  rw [h'] at this
  simp only [bJ] at this
  obtain ⟨u,vs,hb,_⟩:=this
  exact ⟨u,k',_,_,hb⟩
 have hold:∀ b ∈ iO c S,b<c.w.heap.size:=fun b hb=>by
  obtain ⟨j,hj,be,q1,q2⟩:=lE hb
  exact (hM.gH j).lt q1 q2
 have hB:=hM.fresh cj
 have bN:(c.w.alloc (.cells ws.toArray el)).ownsRow 0 el i.size (.slice (some ⟨c.w.heap.size,0,.none⟩) 1 1) 1 (flat [a.eval x]):=by
  rw [FN]
  exact ⟨by omega,.inr ⟨c.w.heap.size,1,ws.toArray,rfl,Nat.zero_le _,heap_alloc_new c.w _,Nat.le_refl _,by
   simp only [maxLen]; omega,by simp [BV],by rw [Nat.one_mul,← BV]; simp⟩⟩
 obtain ⟨c',hw,hb,h2,h3⟩:=hM.Mn (pr:=pr) id S Lr Wq Ou (.nest el (tsize P el) os [.agg dL]) (.arr (.slice (some ⟨c.w.heap.size,0,.none⟩) 1 1) (tsize P el) 1 (iO c S)) (c.w.alloc (.cells ws.toArray el)) rfl rfl rfl (Nat.le_refl _) (by simp)
  (fun b hb _=>o3 c.w _ b hb)
  (fun b hb=>by
   rcases hb with hb | hb
   ·simp [Value.ownBlock] at hb; exact .inr (.inr (by omega))
   ·exact .inr (.inl (lE hb)))
  (by rw [hB]; trivial) (fun _ dr h0=>by rw [hB] at h0; cases h0)
  (fun c' hw hle hble hO wD=>by
   simp only [bJ]
   refine ⟨_,[a.eval x],iO c S,rfl,by rw [rQ]; exact fe,by rw [hw,rQ]; exact bN,?_,fun v hv=>by simp at hv; subst hv; exact ⟨by rw [y1,rQ],rR⟩,pd hM hS,fun b hb hb2=>?_⟩
   ·simp only [dG]
    exact ⟨_,[],iO c S,[],rfl,by simp,⟨dL,ws,rfl,RD,nf.rep hM hle yq (fun b hb=>by rw [hw]; exact o3 c.w _ b (hold b hb))⟩,rfl,rfl⟩
   ·simp [Value.ownBlock] at hb
    have:=hold b hb2
    omega)
 refine ⟨_,c',by rw [hw]; exact dt,?_,h2,h3⟩
 simp only [ar]
 exact ⟨rfl,_,_,_,_,hb,Nat.le_refl _,fun _=>rfl⟩
theorem LU {ff id2:Nat} {ts:Array TypeId} {xs r:List α} {z0:α} {i:Int}
  (hf : ∃ fn, P.funcs[ff]? = some fn ∧ (fn.name == "runtime.NumGoroutine") = false ∧ fn.body.isNone = false) (W : RQ P ff e0 k) (hx : ev x = .arr id xs.length) (cj : m id = some (.nest e0 k os (xs.map f))) (hy : ev y = .int .i64 i) (hz : ev z = .arr id2 1) (WR : m id2 = some (.nest e0 k os ([z0].map f))) (eE : id2 ≠ id) (mi : ¬ pr id2) (hi : LI xs i z0 = some r) :
  bR P pr ⟨d,.call ⟨.value (.func ff),#[x,y,z],ts⟩,ty,pos,af,gd⟩ ev m (.arr id r.length) (m.gone id (.nest e0 k os (r.map f)) [id2]):=by
 unfold LI at hi
 split at hi
 ·rename_i hb
  obtain rfl:=Option.some.inj hi
  intro c a Q bS hM
  have h1:=bS x (by simp [Op.operands,Call.operands])
  have h2:=bS y (by simp [Op.operands,Call.operands])
  have h3:=bS z (by simp [Op.operands,Call.operands])
  rw [hx] at h1; rw [hy] at h2; rw [hz] at h3
  have gM:=hM.gH id
  rw [cj] at gM
  simp only [bJ] at gM
  obtain ⟨u,vs,bs,hB,hk,bN,hn,hc,hnd,sR⟩:=gM
  have zC:=hM.gH id2
  rw [WR] at zC
  simp only [bJ] at zC
  obtain ⟨u2,zs,bz,Rq,_,SK,hnz,Zh,W7,aaQ⟩:=zC
  simp only [ar] at h1 h2 h3
  obtain ⟨_,u',k',lO,lL,kA,zF,iR⟩:=h1
  rw [hB] at kA; cases kA
  have iR:=iR (by simp)
  obtain ⟨_,u',k',lO,lL,kA,Zp,Pl⟩:=h3
  rw [Rq] at kA; cases kA
  have Pl:=Pl (by simp)
  unfold Oper.wp
  rw [Oj hf a c.w]
  simp only [Oper.upon]
  have fD:a.eval y=.int .i64 ((i.toNat:Nat):Int):=by rw [h2,Int.toNat_of_nonneg hb.1]
  have e1:(#[x,y,z]:Array Operand).map a.eval=#[u,.int .i64 ((i.toNat:Nat):Int),u2]:=by simp [fD,iR,Pl]
  rw [e1]
  have Tk:∀ b,b ∈ bz ∨ u2.ownBlock=some b→b ∉ bs∧u.ownBlock ≠ some b:=fun b hb=>⟨fun h=>eE (hM.inj id2 id _ _ b Rq hB (hb.elim .inr .inl) (.inr h)),fun h=>eE (hM.inj id2 id _ _ b Rq hB (hb.elim .inr .inl) (.inl h))⟩
  have nU:vs.length=xs.length:=by have:=hn.length; simpa using this.symm
  have:=W u xs.length i.toNat (flat vs) u2 (flat zs) c.w (by simpa using bN) (tK fun v hv=>(hc v hv).2) (by omega) hb.2.2 (by simpa using SK) (tK fun v hv=>(Zh v hv).2) (fun b Ox=>(Tk b (.inr Ox)).2)
  refine this.mono ?_
  rintro en w' ⟨u',rfl,hr⟩
  have e2:((xs.take i.toNat++[z0]++xs.drop i.toNat).map f).length=xs.length+1:=by simp; omega
  have e3:(xs.take i.toNat++[z0]++xs.drop i.toNat).length=xs.length+1:=by simp; omega
  obtain ⟨b1,b2,rfl,n1,n2⟩:=hn.split (i:=i.toNat)
  have SE:∀ b,b ∈ b1++b2 ∨ b ∈ bz→b<c.w.heap.size:=fun b hb=>hb.elim (fun h=>(hM.gH id).lt hB (.inr h)) (fun h=>(hM.gH id2).lt Rq (.inr h))
  have qd:∀ b,b ∈ b1++b2 ∨ b ∈ bz→w'.heap[b]?=c.w.heap[b]?:=fun b hb=>hr.grown.block b (SE b hb) (fun h=>by
   rcases hb with hb | hb
   ·exact sR b h.symm hb
   ·exact (Tk b (.inl hb)).2 h.symm)
  obtain ⟨c',hw,eb,lp,vy⟩:=hM.Mn (pr:=pr) id [id2] (by simp; exact fun h=>eE h.symm) (fun j hj=>by simp at hj; subst hj; exact ⟨_,_,_,_,Rq⟩) (fun j hj=>by simp at hj; subst hj; exact mi) (.nest e0 k os ((xs.take i.toNat++[z0]++xs.drop i.toNat).map f)) (.arr u' k (xs.length+1) (b1++bz++b2)) w' hr.grown.os hr.grown.tape hr.grown.output hr.drawn hr.grown.size
   (fun b hb eE=>hr.grown.block b hb (fun hh=>eE _ hB (.inl hh.symm)))
   (fun b hb=>by
    rcases hb with hb | hb
    ·exact (hr.nF b hb).imp (fun h=>⟨_,hB,.inl h⟩) (fun h=>.inr h)
    ·simp only [List.mem_append] at hb
     rcases hb with (h | h) | h
     ·exact .inl ⟨_,hB,.inr (by simp [h])⟩
     ·exact .inr (.inl ⟨id2,by simp,_,Rq,.inr h⟩)
     ·exact .inl ⟨_,hB,.inr (by simp [h])⟩)
   (by rw [hB]; exact ⟨_,_,_,rfl,by simp,fun h=>by simp at h⟩)
   (fun _ dr h0=>by rw [hB] at h0; cases h0; exact ⟨_,_,_,rfl,by simp,fun h=>by simp at h⟩)
   (fun c' hw hle hble hO wD=>by
    simp only [bJ]
    refine ⟨u',vs.take i.toNat++zs++vs.drop i.toNat,b1++bz++b2,by rw [e2],hk,?_,?_,?_,?_,?_⟩
    ·have h4:=hr.own
     rw [qY (fun v hv=>(hc v hv).1),wy (fun v hv=>(hc v hv).1),← fC,← fC] at h4
     rw [e2,hw]; exact h4
    ·rw [List.map_append,List.map_append,List.map_take,List.map_drop]
     exact ((n1.mono hle (fun b hb=>by rw [hw]; exact qd b (.inl (by simp [hb])))).app (hnz.mono hle (fun b hb=>by rw [hw]; exact qd b (.inr hb)))).app (n2.mono hle (fun b hb=>by rw [hw]; exact qd b (.inl (by simp [hb]))))
    ·intro v hv
     rcases List.mem_append.1 hv with hv | hv
     ·rcases List.mem_append.1 hv with hv | hv
      ·exact hc v (List.mem_of_mem_take hv)
      ·exact Zh v hv
     ·exact hc v (List.mem_of_mem_drop hv)
    ·have q:=List.nodup_append.1 hnd
     rw [List.append_assoc,List.nodup_append]
     refine ⟨q.1,?_,?_⟩
     ·rw [List.nodup_append]
      exact ⟨W7,q.2.1,fun p hp p' CC VJ=>(Tk p (.inl hp)).1 (by rw [VJ]; simp [CC])⟩
     ·intro p hp p' CC VJ
      rcases List.mem_append.1 CC with h | h
      ·exact (Tk p' (.inl h)).1 (by rw [← VJ]; simp [hp])
      ·exact q.2.2 p hp p' h VJ
    ·intro b hb tO
     have Lk:b ∈ b1++b2 ∨ b ∈ bz:=by
      simp only [List.mem_append] at tO ⊢
      rcases tO with (h | h) | h
      ·exact .inl (.inl h)
      ·exact .inr h
      ·exact .inl (.inr h)
     rcases hr.nF b hb with h | h
     ·rcases Lk with q | q
      ·exact sR b h q
      ·exact (Tk b (.inl q)).2 h
     ·have:=SE b Lk
      omega)
  refine ⟨u',c',rfl,hw,?_,lp,vy⟩
  rw [e3]
  simp only [ar]
  refine ⟨?_,_,_,_,_,eb,Nat.le_refl _,fun _=>rfl⟩
  rcases hr.own.2 with ⟨rfl,_⟩ | ⟨g,cap,cur,rfl,_⟩ <;> rfl
 ·cases hi
theorem ss.fresh {o:Oper} {ids:List Nat} {i:Nat} {le:LE} (HS:ids=[i]) (hm:m i=.none) (h:∀ m0:Mem,m0 i=.none→bR P pr o ev m0 lv (m0.put i le)):ss P pr o ev ids m lv (m.put i le):=by
 subst HS
 refine ⟨fun j hj=>by simp at hj; simp [Mem.put,hj],fun m0 qb=>?_⟩
 have:=h m0 (by rw [qb i (by simp)]; exact hm)
 refine Eq.mp (congrArg _ ?_) this
 funext j
 by_cases hj:j=i <;> simp [Mem.put,hj]
theorem ss.gone {o:Oper} {ids:List Nat} {i:Nat} {le:LE} {S:List Nat} (MK:ids=i :: S) (h:∀ m0:Mem,(∀ j,j ∈ i :: S→m0 j=m j)→bR P pr o ev m0 lv (m0.gone i le S)):ss P pr o ev ids m lv (m.gone i le S):=by
 have HS:∀ j,j ∈ ids ↔ (j=i ∨ j ∈ S):=fun j=>by rw [MK]; simp
 refine ⟨fun j hj=>?_,fun m0 qb=>?_⟩
 ·rw [HS] at hj
  simp only [not_or] at hj
  simp [Mem.gone,hj.1,hj.2]
 ·refine Eq.mp (congrArg _ ?_) (h m0 (fun j hj=>qb j (by rw [MK]; exact hj)))
  funext j
  by_cases hj:j ∈ ids
  ·simp only [hj,if_true]
   rw [HS] at hj
   simp only [Mem.gone]
   rcases hj with hj | hj
   ·simp [hj]
   ·by_cases h1:j=i <;> simp [h1,hj]
  ·simp only [hj,if_false]
   rw [HS] at hj
   simp only [not_or] at hj
   simp [Mem.gone,hj.1,hj.2]
end
end Go.L
namespace Go.L
def sy (id n:Nat):Option Int→LV
 | .none=>.nilp
 | some j=>.eptr id n j.toNat 0
def qn {β:Type} (r:Option Int) (a:Option β) (b:Int→Option β):Option β:=match r with | .none=>a | some j=>b j
theorem Jq {β:Type} {a:Option β} {b:Int→Option β} {r:β} (h:qn .none a b=some r):a=some r:=h
theorem Jr {β:Type} {j:Int} {a:Option β} {b:Int→Option β} {r:β} (h:qn (some j) a b=some r):b j=some r:=h
def Ku (P:Program) (t:TypeId):Bool:=match P.underlying t with | some (.pointer _)=>true | _=>false
section
variable {P:Program} {N:Nat} {pr:Nat→Prop} {ev:Operand→LV} {m m':Mem} {d:Option Nat} {x y z:Operand} {t t' ty:TypeId} {pos:String} {af:Array Edge} {gd:Option (Nat × Bool)} {lv:LV} {α β:Type} {f:α→LV} {g:β→LV} {e0 k id n i o0:Nat} {os:List (Nat × Nat × Nat)} {xs cs:List LV}
theorem nm (w:World) (dd:Nat) (h:Ku P t=true) (p:Option Addr):(Op.equalIn (dd+1) t (.pointer p) (.pointer .none)).run P w=.ok p.isNone w:=by
 unfold Ku at h
 split at h
 ·rename_i e hu
  cases p <;> simp [Op.equalIn,run_underlying hu]
 ·cases h
theorem uC (ht:Ku P t=true) (hx:ev x=.nilp) (hy:ev y=.nilp):bR P pr ⟨d,.binOp .eql t x y t',ty,pos,af,gd⟩ ev m (.bool true) m:=by
 refine bR.value fun c a bS hM=>?_
 have h1:=bS x (by simp [Op.operands])
 have h2:=bS y (by simp [Op.operands])
 rw [hx] at h1; rw [hy] at h2
 simp only [ar] at h1 h2
 have heq:=fun w=>nm (P:=P) (t:=t) w 9999 ht .none
 refine ⟨.bool true,c,?_,by simp [ar],hM,Step.refl pr c⟩
 simp [execOp,h1,h2,eqGuard,binOp,Op.equal,Op.maxDepth,heq]
theorem uB {zz:LV} (ht:Ku P t=true) (hx:ev x=.eptr id n i o0) (hy:ev y=.nilp) (hm:m id=some (.nest e0 k os xs)) (hn:n=xs.length) (hz:xs[i]?=some zz):bR P pr ⟨d,.binOp .eql t x y t',ty,pos,af,gd⟩ ev m (.bool false) m:=by
 refine bR.value fun c a bS hM=>?_
 have hv:=bS x (by simp [Op.operands])
 have h2:=bS y (by simp [Op.operands])
 rw [hx] at hv; rw [hy] at h2
 simp only [ar] at h2
 obtain ⟨gg,cap,cur,v,bs,ins,hB,_⟩:=hM.uo (pr:=pr) hm hz
 have he:=iE hv hB hn
 have heq:=fun w p=>nm (P:=P) (t:=t) w 9999 ht (some p)
 refine ⟨.bool false,c,?_,by simp [ar],hM,Step.refl pr c⟩
 simp [execOp,he,h2,eqGuard,binOp,Op.equal,Op.maxDepth,heq]
theorem Jj {el:Nat} {xs:List α} (he:telem P t=some el) (hx:ev x=.arr id n) (hm:m id=some (.nest e0 k os (xs.map f))) (hn:n=xs.length):bR P pr ⟨d,.call ⟨.builtin .len,#[x],#[t]⟩,ty,pos,af,gd⟩ ev m (.int .i64 (n:Int)) m:=by
 refine bR.value fun c a bS hM=>?_
 have hv:=bS x (by simp [Op.operands,Call.operands])
 rw [hx] at hv
 have gM:=hM.gH id
 rw [hm] at gM
 simp only [bJ] at gM
 obtain ⟨u,vs,bs,hB,hk,bN,hN,hc,hnd,sR⟩:=gM
 simp only [ar] at hv
 obtain ⟨_,u',k',lO,lL,kA,zF,iR⟩:=hv
 rw [hB] at kA; cases kA
 have iR:=iR (by simp [hn])
 obtain ⟨ad,R0,Iw⟩:=ef bN
 have hu:=fX he
 refine ⟨.int .i64 (n:Int),c,?_,by simp [ar],hM,Step.refl pr c⟩
 rw [Iw] at iR
 simp [execOp,resolve,invoke,builtin,Builtin.len_,iR,hn,run_underlying hu,goInt]
theorem oG {e' k' id2:Nat} {ys:List β} {ls:List LV} (hx:ev x=.eptr id n i o0) (hm:m id=some (.nest e0 k os (ls.set i (.agg cs)))) (hn:n=ls.length) (hz:(ls.set i (.agg cs))[i]?=some (.agg cs)) (hc:cs[o0]?=some (.lst k' (ys.map g))) (hl:os.lookup o0=some (e',k')) (cj:m id2=.none) (ht:tok P t=true) (ha:tagg P t=false) {dL:List LV} (hcs:cs.set o0 .fg=dL) :
  bR P pr ⟨d,.load t x,ty,pos,af,gd⟩ ev m (.arr id2 ys.length) ((m.put id (.de e0 k os (ls.set i (.agg dL)) i o0 id2 ys.length)).put id2 (.arr e' k' (ys.map g))):=by
 subst hcs
 have:=Jo (pr:=pr) (d:=d) (ty:=ty) (pos:=pos) (af:=af) (gd:=gd) hx hm (by simpa using hn) hz hc hl cj ht ha
 rwa [List.length_map,List.set_set] at this
theorem Wk.td {e:Env} {n2 e' k' id2:Nat} {ys:List β} {ls:List LV} (hm:m id=some (.de e0 k os (ls.set i (.agg cs)) i o0 id2 n2)) (hz:(ls.set i (.agg cs))[i]?=some (.agg cs)) (hc:cs[o0]?=some .fg) (hl:os.lookup o0=some (e',k')) (lp:m id2=some (.arr e' k' (ys.map g))) (Lt:n2=ys.length) (ud:¬ pr id2) {dL:List LV} (hcs:cs.set o0 (.lst k' (ys.map g))=dL) :
  Wk pr e m e ((m.put id (.nest e0 k os (ls.set i (.agg dL)))).put id2 .dead):=by
 subst hcs
 have:=Wk.unlink (pr:=pr) (e:=e) hm hz hc hl lp (by simpa using Lt) ud
 rwa [List.set_set] at this
end
section
variable {P:Program} {pr:Nat→Prop} {ev:Operand→LV} {m:Mem} {α β:Type} [DecidableEq α] {f:α→LV} {g:β→LV}
theorem G4 {β:Type} {a k:Int} {b:β} {r:List (Int × β)} (h:(k == a)=false) (h':ib r k=.none):ib ((a,b) :: r) k=.none:=by
 have eE:¬ a=k:=fun e=>by subst e; simp at h
 simp [ib,eE,h']
theorem gp {i id:Nat} {t ty:TypeId} {pos:String} {af:Array Edge} {gd:Option (Nat × Bool)} {z:LV} {cs:List LV} (d0:Nat) (hi:100+d0=id) (hz:tzero P t=some z) (hc:z.cells=cs) (cj:m id=.none):cw P pr ⟨some i,.alloc t,ty,pos,af,gd⟩ ev m (.ptr id 0) (m.put id (.box cs)):=by
 subst hi; subst hc
 exact Aa t d0 z rfl hz cj
theorem eY {id kt vt:Nat} {t:TypeId} {d:Option Nat} {x k:Operand} {ty:TypeId} {pos:String} {af:Array Edge} {gd:Option (Nat × Bool)} {S:Value→Prop} {xs:List (α × β)} {key:α} {z:β} {o:Option β} (ht:BM P t=some (kt,vt)) (K:Ms P kt S) (hf:y9 f S) (hx:ev x=.mp id) (cj:m id=some (.map kt vt (je f g xs))) (hk:ev k=f key) (hz:tzero P vt=some (g z)) (ho:ib xs key=o) :
  bR P pr ⟨d,.lookup t x k true,ty,pos,af,gd⟩ ev m (.tup [g (o.getD z),.bool o.isSome]) m:=by
 subst ho
 exact uz ht K hf hx cj hk hz
end
end Go.L
namespace Go.L
section
variable {P:Program} {pr:Nat→Prop} {ev:Operand→LV} {m:Mem} {d:Option Nat} {x y:Operand} {t t' ty:TypeId} {pos:String} {af:Array Edge} {gd:Option (Nat × Bool)} {k:IntKind} {u w:Int}
end
end Go.L
namespace Go.L
section
variable {P:Program} {N:Nat} {pr:Nat→Prop} {ev:Operand→LV} {m m1 m':Mem} {d:Option Nat} {x y z:Operand} {t t' ty:TypeId} {pos:String} {af:Array Edge} {gd:Option (Nat × Bool)} {lv:LV} {α β:Type} {f:α→LV} {g:β→LV} {e0 k id n i o0:Nat} {os:List (Nat × Nat × Nat)} {xs cs:List LV}
abbrev Oi (l:List Int):LV:=.agg [.L l]
def Kc (x n:Int):Option (List Int):=if 0≤n∧n≤1000000 then some (List.replicate n.toNat x) else .none
theorem eO {f : Nat} {Hp args eH : List LV} {xs : List Operand} {ts : Array TypeId} {ml cS : List (Nat × LE)} (hx : ev x = .fn f Hp) (hf : ∃ fn, P.funcs[f]? = some fn ∧ (fn.name == "runtime.NumGoroutine") = false ∧ fn.body.isNone = false) (ha : xs.map ev ++ Hp = args) (hs : fl args eH) (hc : aF P f eH (Mem.of ml) lv (Mem.of cS)) (hm : j8 m ml) (oT : ∀ p ∈ cS, (ml.any fun q => q.1 == p.1) = true ∨ m p.1 = .none) (hr : av (args.map fun x => (0, x)) ml = true) :
  bR P pr ⟨d,.call ⟨.value x,xs.toArray,ts⟩,ty,pos,af,gd⟩ ev m lv (m.over (Mem.of cS)):=by
 subst ha
 obtain ⟨Yd,mc,iN,nh,h1,h2,h3,h4,hK⟩:=aF.My (K:=fun l mm=>l=lv∧mm=m.over (Mem.of cS)) (hc.sub hs) hm oT hr ⟨rfl,rfl⟩
 obtain ⟨rfl,hmm⟩:=hK
 obtain ⟨fn,hf,ua,nL⟩:=hf
 intro c a Q bS hM
 have hv:=bS x (by simp [Op.operands,Call.operands])
 rw [hx] at hv
 simp only [ar] at hv
 obtain ⟨us,he,hl⟩:=hv
 have BW:aE c (xs.map ev) (xs.map a.eval):=aE.of (by simp) fun j p q hp hq=>by
  simp only [List.getElem?_map,Option.map_eq_some_iff] at hp hq
  obtain ⟨z,hz,rfl⟩:=hp
  obtain ⟨z',Pu,rfl⟩:=hq
  rw [hz] at Pu; cases Pu
  exact bS z (by simp [Op.operands,Call.operands,List.mem_of_getElem? hz])
 have dt:(execOp a.eval ⟨d,.call ⟨.value x,xs.toArray,ts⟩,ty,pos,af,gd⟩).run P c.w=.ok (.enter f (xs.map a.eval++us).toArray) c.w:=by
  have e1:Array.map a.eval xs.toArray++us.toArray=(xs.map a.eval++us).toArray:=by
   apply Array.ext'; simp
  have px : ¬ fn.name = "runtime.NumGoroutine" := by simpa using ua
  have po:¬ fn.body=.none:=fun hn=>by rw [hn] at nL; cases nL
  simp [execOp,resolve,Deferred.ofValue,he,invoke,callFunc,hf,px,po,e1]
 unfold Oper.wp
 rw [dt]
 simp only [Oper.upon]
 refine (nh.frame (m:=m) h1 h2 h3 h4 pr c _ hM (BW.append hl)).mono ?_
 rintro en w' ⟨v,c',rfl,rfl,j6,sS,hs⟩
 rw [hmm] at j6
 exact ⟨v,c',rfl,rfl,sS,j6,hs⟩
theorem LW {x y:Operand} {t ty:TypeId} {pos:String} {af:Array Edge} {g:Option (Nat × Bool)} {d e0 k id:Nat} {z:LV} {n:Int} (kB:telem P t=some e0) (hz:tzero P e0=some z) (kh:fQ P e0=true) (hs:tsize P e0=k) (hx:ev x=.int .i64 n) (hy:ev y=.int .i64 n) (h0:0≤n) (hb:n≤549755813888) (cj:m id=.none) (hp:z.pure=true) :
  bR P pr ⟨some d,.makeSlice t x y,ty,pos,af,g⟩ ev m (.arr id n.toNat) (m.put id (.arr e0 k (List.replicate n.toNat z))):=by
 have hu:=fX kB
 obtain ⟨i,zv,hi,y2,sV,vU,fe,Lo,rQ⟩:=pJ kh
 subst hs
 refine bR.value fun c a bS hm=>?_
 have oU:=bS x (by simp [Op.operands])
 have lX:=bS y (by simp [Op.operands])
 rw [hx] at oU
 rw [hy] at lX
 simp only [ar] at oU lX
 have Tl:Gd zv=z:=by
  simp only [tzero,hi,y2] at hz
  split at hz
  ·simpa using hz
  ·cases hz
 have tP:(i.bytes:Int) * n≤281474976710656:=by
  have h1:(i.bytes:Int) * n≤256 * n:=Int.mul_le_mul_of_nonneg_right (by omega) h0
  omega
 have dt:=run_make (P:=P) c.w t e0 i zv hu hi y2 .i64 .i64 n n h0 (Int.le_refl _) tP (by omega)
 have hB:=hm.fresh cj
 have kg:(madeCells zv.cells (n.toNat * i.size)).toList=flat (List.replicate n.toNat zv):=by
  apply List.ext_getElem?
  intro j
  rw [flat_get fe (fun v hv=>by rw [List.eq_of_mem_replicate hv]; exact sV)]
  simp only [Array.getElem?_toList,madeCells,Array.getElem?_map,Array.getElem?_range,List.getElem?_replicate,sV]
  by_cases hj:j<n.toNat * i.size
  ·have h1:j / i.size<n.toNat:=(Nat.div_lt_iff_lt_mul fe).2 hj
   have h2:j % i.size<zv.cells.size:=by rw [sV]; exact Nat.mod_lt _ fe
   rw [if_pos hj,if_pos h1]
   simp [h2]
  ·have h1:¬ j / i.size<n.toNat:=fun hh=>hj ((Nat.div_lt_iff_lt_mul fe).1 hh)
   rw [if_neg hj,if_neg h1]
   rfl
 have gm:(madeCells zv.cells (n.toNat * i.size)).size=n.toNat * i.size:=size_madeCells _ _
 obtain ⟨c',hw,iG,h2,h3⟩:=hm.y4 (pr:=pr) id (.arr e0 (tsize P e0) (List.replicate n.toNat z)) (.arr (.slice (some ⟨c.w.heap.size,0,.none⟩) n.toNat n.toNat) (tsize P e0) n.toNat [])
  (c.w.alloc (.cells (madeCells zv.cells (n.toNat * i.size)) e0)) rfl rfl rfl (Nat.le_refl _) (by simp)
  (fun b iG _=>o3 c.w _ b iG) (fun b iG=>by simp [BE.has,Value.ownBlock] at iG; exact .inr (by omega)) (by rw [hB]; trivial) (fun _ dr h0=>by rw [hB] at h0; cases h0)
  (fun c' hw hle hble=>by
   simp only [bJ,rQ,List.length_replicate]
   refine ⟨_,List.replicate n.toNat zv,rfl,fe,⟨by rw [ed (k:=i.size) (fun v hv=>by rw [List.eq_of_mem_replicate hv]; exact sV)]; simp,.inr ⟨c.w.heap.size,n.toNat,_,rfl,Nat.zero_le _,by rw [hw]; exact heap_alloc_new c.w _,Nat.le_refl _,by simp only [maxLen]; omega,gm,?_⟩⟩,?_,?_,?_⟩
   ·rw [List.take_of_length_le (by rw [Array.length_toList,gm]; exact Nat.le_refl _),kg]
   ·refine aE.of (by simp) fun j q r hq hr=>?_
    rw [List.getElem?_replicate] at hq hr
    split at hq
    ·rename_i hj
     rw [if_pos hj] at hr
     cases hq; cases hr; rw [← Tl]; exact lT c' zv
    ·cases hq
   ·intro v hv
    rw [List.eq_of_mem_replicate hv]
    exact ⟨sV,vU⟩
   ·refine c6.2 fun q hq=>?_
    rw [List.eq_of_mem_replicate hq]; exact hp)
 refine ⟨.slice (some ⟨c.w.heap.size,0,.none⟩) n.toNat n.toNat,c',by rw [hw]; simp [execOp,oU,lX,dt],?_,h2,h3⟩
 simp only [ar]
 exact ⟨rfl,_,_,_,_,iG,Nat.le_refl _,fun _=>rfl⟩
theorem QG {d1:Nat} {z:α} {zc:LV} {v:List α} {u:Int} (kB:telem P t=some e0) (hz:tzero P e0=some zc) (kh:fQ P e0=true) (hs:tsize P e0=k) (hx:ev x=.int .i64 u) (hy:ev y=.int .i64 u) (hfz:zc=f z) (hv:vB z u=some v) (cj:m id=.none) (hp:zc.pure=true) :
  bR P pr ⟨some d1,.makeSlice t x y,ty,pos,af,gd⟩ ev m (.arr id v.length) (m.put id (.arr e0 k (v.map f))):=by
 unfold vB at hv
 split at hv
 ·rename_i hb
  cases hv
  have:=LW (pr:=pr) (ty:=ty) (pos:=pos) (af:=af) (g:=gd) (d:=d1) kB hz kh hs hx hy hb.1 hb.2 cj hp
  rw [List.length_replicate,List.map_replicate,← hfz]; exact this
 ·cases hv
theorem Wk.Vs {el:List (Nat × LV)} {ml:List (Nat × LE)} (oq j:Nat) {cs dL:List LV} (hb:Mem.of ml oq=some (.box cs)) (hcs:cs.set j .fg=dL) :
  Wk pr (Env.of el) (Mem.of ml) (Env.of el) ((Mem.of ml).put oq (.box dL)):=by
 subst hcs
 intro N c a cv
 refine ⟨c,rfl,⟨cv.env,⟨fun i=>?_,cv.mem.inj,cv.mem.jT,cv.mem.vu⟩,cv.size,cv.defers⟩,Grow.refl pr c⟩
 by_cases hi:i=oq
 ·subst hi
  have he:=cv.mem.gH i
  rw [hb] at he
  simp only [Mem.put,if_true]
  simp only [bJ] at he ⊢
  obtain ⟨b,vs,e,h1,h2,h3,h4⟩:=he
  refine ⟨b,vs,e,by rw [h1,List.length_set],h2,?_,h4⟩
  refine aE.of (by rw [List.length_set]; exact h3.length) fun q x v hx hv=>?_
  rw [List.getElem?_set] at hx
  split at hx
  ·split at hx
   ·cases hx; simp only [ar]
   ·cases hx
  ·obtain ⟨w,hw,hr⟩:=h3.get hx
   rw [hv] at hw; cases hw; exact hr
 ·simp only [Mem.put,hi,if_false]; exact cv.mem.gH i
theorem Qx {j el kk:Nat} {xs ys r:List α} (he:telem P t=some el) (hr:fQ P el=true) (hs:tsize P el=kk) (hx:ev x=.arr id xs.length) (hm:m id=some (.arr el kk (xs.map f))) (hp:¬ pr id) (hy:ev y=.lst kk (ys.map f)) (hl:app xs ys=some r) :
  cw P pr ⟨some j,.call ⟨.builtin .append,#[x,y],#[t,t]⟩,ty,pos,af,gd⟩ ev m (.arr id r.length) (m.put id (.arr el kk (r.map f))):=by
 obtain ⟨lv,m',⟨rfl,rfl⟩,h⟩:=jY (ro:=[]) (K:=fun lv m'=>lv=.arr id r.length∧m'=m.put id (.arr el kk (r.map f))) (P:=P) (pr:=pr) (o:=⟨some j,.call ⟨.builtin .append,#[x,y],#[t,t]⟩,ty,pos,af,gd⟩) (ev:=ev) (m:=m)
  (rT (f:=f) he hr hs hx hm hp hy hl ⟨rfl,rfl⟩)
 exact h
end
end Go.L
namespace Go.L
open Go.Sort Go.Proofs Go.Shelf Go.Lib
end Go.L
namespace Go.L
section
variable {P:Program} {N:Nat} {pr:Nat→Prop} {ev:Operand→LV} {m m1 m':Mem} {o:Oper}
theorem tj.val {id k n e0:Nat} {ys:List LV} (mi:¬ pr id) (kY:HB id m)
  (W:∀ (c:Cx) (a:Act),(∀ x,ar c (ev x) (a.eval x))→cG c m→∃ u u' fR,c.B id=some (.arr u k n [])∧(execOp a.eval o).run P c.w=.ok (.value u') c.w∧kH c.w c.w e0 k u u' ys.length (flat fR)∧aE c ys fR∧(∀ v ∈ fR,v.cells.size=k∧∀ y ∈ v.cells,y.oneCell'=true)∧LV.bt ys=true∧0<k) :
  tj P pr id o ev m (.arr id ys.length) (m.put id (.arr e0 k ys)):=by
 intro c a Q bS hm
 obtain ⟨u,u',fR,hB,dt,h,hl,hc,hp,hk⟩:=W c a bS hm
 unfold Oper.wp
 rw [dt]
 simp only [Oper.upon]
 obtain ⟨c',hw,hb,h2,h3,h4⟩:=hm.YK (pr:=pr) id (.arr e0 k ys) (.arr u' k ys.length []) c.w h.grown.os h.grown.tape h.grown.output h.drawn h.grown.size
  (fun b hb eE=>h.grown.block b hb (fun hh=>eE _ hB (.inl hh.symm)))
  (fun b hb=>hb.elim (fun hb=>(h.nF b hb).imp (fun hh=>⟨_,hB,.inl hh⟩) (fun hh=>hh)) (fun hh=>by cases hh)) mi kY
  (fun c' hw hle=>by
   simp only [bJ]
   exact ⟨u',fR,rfl,hk,by rw [hw]; exact h.own,aE.mono hle _ _ (fun j hj=>by rw [az _ hp] at hj; cases hj) hl,hc,hp⟩)
 refine ⟨u',c',rfl,hw,?_,h2,h3,h4⟩
 simp only [ar]
 refine ⟨?_,_,_,_,_,hb,Nat.le_refl _,fun _=>rfl⟩
 rcases h.own.2 with ⟨rfl,_⟩ | ⟨g,cap,cur,rfl,_⟩ <;> rfl
def Ht {α:Type} (xs:List α) (n:Int):Option (List α):=if 0≤n∧n≤xs.length then some (xs.take n.toNat) else .none
theorem QC {t ty el e0 kk id:Nat} {x z:Operand} {d:Option Nat} {pos:String} {af:Array Edge} {gd:Option (Nat × Bool)} {α:Type} {g:α→LV} {xs r:List α} {n:Int}
  (he:telem P t=some el) (hk:tok P el=true) (hx:ev x=.arr id xs.length) (cj:m id=some (.arr e0 kk (xs.map g))) (hz:ev z=.int .i64 n) (mi:¬ pr id) (kY:HB id m) (hi:Ht xs n=some r) :
  tj P pr id ⟨d,.slice t x .none (some z) .none,ty,pos,af,gd⟩ ev m (.arr id r.length) (m.put id (.arr e0 kk (r.map g))):=by
 have hu:=fX he
 unfold Ht at hi
 split at hi
 ·rename_i hb
  obtain rfl:=Option.some.inj hi
  obtain ⟨j,rfl⟩:=Int.eq_ofNat_of_zero_le hb.1
  have hj:j≤xs.length:=by omega
  simp only [Int.toNat_natCast]
  have hlen:((xs.take j).map g).length=j:=by simp; omega
  have MN:(xs.take j).length=j:=by simp; omega
  have key:tj P pr id ⟨d,.slice t x .none (some z) .none,ty,pos,af,gd⟩ ev m (.arr id ((xs.take j).map g).length) (m.put id (.arr e0 kk ((xs.take j).map g))):=by
   refine tj.val (n:=xs.length) mi kY fun c a bS hm=>?_
   have h1:=bS x
   have h3:=bS z
   rw [hx] at h1; rw [hz] at h3
   obtain ⟨vs,hB,HV,bN,hl,hc,hp⟩:=gY hm h1 cj (by simp)
   simp only [ar] at h3
   rw [List.length_map] at hB bN
   unfold tok at hk
   cases yi:P.info? el with
   | none=>simp [yi] at hk
   | some ie =>
   have nU:vs.length=xs.length:=by have:=hl.length; simpa using this.symm
   have hft:(flat vs).take (j * kk)=flat (vs.take j):=qY (fun v hv=>(hc v hv).1) j
   have MP:LV.bt ((xs.take j).map g)=true:=c6.2 fun q hq=>c6.1 hp q (by
    rw [List.map_take] at hq; exact List.mem_of_mem_take hq)
   have hlt:aE c ((xs.take j).map g) (vs.take j):=by rw [List.map_take]; exact hl.take j
   have Zf:∀ v ∈ vs.take j,v.cells.size=kk∧∀ y ∈ v.cells,y.oneCell'=true:=fun v hv=>hc v (List.mem_of_mem_take hv)
   rcases bN.2 with ⟨hv,h0⟩ | ⟨b,cap,cur,hv,hbs,hg,mh,hcm,hcs,wE⟩
   ·have hj0:j=0:=by omega
    subst hj0
    refine ⟨a.eval x,.slice .none 0 0,vs.take 0,hB,?_,?_,hlt,Zf,MP,HV⟩
    ·simp [execOp,hv,Instr.sliceAt,run_underlying hu,Instr.slice,Instr.sliceBounds,Instr.sliceBound,asIntOf,sizeOf,typeInfo,yi,h3]
    ·refine ⟨?_,⟨rfl,rfl,rfl,Nat.le_refl _,fun _ _ _=>rfl⟩,fun b hb=>by simp [Value.ownBlock] at hb,Nat.le_refl _⟩
     rw [hlen]
     simpa [flat] using World.ownsRow_nil c.w 0 e0 kk
   ·refine ⟨a.eval x,.slice (some ⟨b,0,.none⟩) j cap,vs.take j,hB,?_,?_,hlt,Zf,MP,HV⟩
    ·have g1:(Instr.sliceBounds true xs.length cap .none (some (a.eval z)) .none).run P c.w=.ok (0,j,cap) c.w:=by
      simp [Instr.sliceBounds,Instr.sliceBound,asIntOf,h3]; omega
     have Ov:(⟨b,0,.none⟩:Addr).add 0=⟨b,0,.none⟩:=by simp [Addr.add]
     simp [execOp,hv,Instr.sliceAt,run_underlying hu,Instr.slice,g1,sizeOf,typeInfo,yi,Ov]
    ·refine ⟨?_,⟨rfl,rfl,rfl,Nat.le_refl _,fun _ _ _=>rfl⟩,fun q hq=>.inl (by rw [hv]; exact hq),Nat.le_refl _⟩
     rw [hlen,← hft]
     have FN:=bN.1
     refine ⟨?_,.inr ⟨b,cap,cur,rfl,hbs,hg,by omega,hcm,hcs,?_⟩⟩
     ·rw [List.length_take,FN]
      exact Nat.min_eq_left (Nat.mul_le_mul_right _ hj)
     ·rw [← wE,List.take_take]
      congr 1
      exact (Nat.min_eq_left (Nat.mul_le_mul_right _ hj)).symm
  rw [hlen] at key
  rw [MN]
  exact key
 ·cases hi
end
end Go.L
namespace Go.L
theorem js.same {be:BE} {y:Option BE} (h:js (some be) y):∃ dK,y=some dK∧be.jE dK:=by
 cases be with
 | box b n=>exact ⟨_,h,rfl⟩
 | arr u k len ins=>obtain ⟨u',lO,lL,h1,h2,h3⟩:=h; exact ⟨_,h1,_,_,_,rfl,h2,h3⟩
 | mp b=>exact ⟨_,h,rfl⟩
theorem Step.any {pr Yo:Nat→Prop} {c c':Cx} (h:Step pr c c'):Step Yo c c' :=
 ⟨⟨h.grow.O,h.grow.os,h.grow.tape,h.grow.output,h.grow.drawn,h.grow.size,h.grow.gT,h.grow.own,fun id be _ hb=>by
  have:=h.ble id
  rw [hb] at this
  exact this.same⟩,h.ble⟩
section
variable {P:Program} {pr Yo:Nat→Prop} {ev:Operand→LV} {m m':Mem} {o:Oper} {x y:Operand} {t ty:TypeId} {pos:String} {af:Array Edge} {gd:Option (Nat × Bool)} {lv:LV} {α:Type} {f:α→LV} {id:Nat}
theorem cw.any (h:cw P pr o ev m lv m'):cw P Yo o ev m lv m':=by
 intro c a Q bS hM
 refine Oper.wp_mono ?_ (h c a Q bS hM)
 rintro a' w' ⟨v,c',h1,h2,h3,h4,h5⟩
 exact ⟨v,c',h1,h2,h3,h4,h5.any⟩
theorem uy {j el kk:Nat} {xs ys r:List α} (he:telem P t=some el) (hr:fQ P el=true) (hs:tsize P el=kk) (hx:ev x=.arr id xs.length) (hm:m id=some (.arr el kk (xs.map f))) (hy:ev y=.lst kk (ys.map f)) (hl:app xs ys=some r) :
  cw P pr ⟨some j,.call ⟨.builtin .append,#[x,y],#[t,t]⟩,ty,pos,af,gd⟩ ev m (.arr id r.length) (m.put id (.arr el kk (r.map f))) :=
 (Qx (pr:=fun _=>False) he hr hs hx hm (fun h=>h) hy hl).any
end
end Go.L
namespace Go.L
theorem bJ.TO {c c':Cx} (hle:c.Le c') {x:Option LE} (hB:∀ le,x=some le→∀ j,le.iU j=false→js (c.B j) (c'.B j)) {y:Option BE} (hh:∀ be b,y=some be→be.has b→c'.w.heap[b]?=c.w.heap[b]?) (h:bJ c x y):bJ c' x y:=by
 match x with
 | .none=>simpa only [bJ] using h
 | some (.box cs) =>
  simp only [bJ] at h ⊢
  obtain ⟨b,vs,e,rfl,h1,h2,h3⟩:=h
  exact ⟨b,vs,e,rfl,(hh _ b rfl rfl).trans h1,aE.mono hle cs vs (fun id cj=>hB _ rfl id cj) h2,h3⟩
 | some (.arr e k xs) =>
  simp only [bJ] at h ⊢
  obtain ⟨u,vs,rfl,h0,h1,h2,h3,h4⟩:=h
  exact ⟨u,vs,rfl,h0,cV h1 (fun b hb=>hh _ b rfl (.inl hb)),aE.mono hle xs vs (fun j hj=>by rw [az xs h4] at hj; cases hj) h2,h3,h4⟩
 | some (.nest e k os xs) =>
  simp only [bJ] at h ⊢
  obtain ⟨u,vs,bs,rfl,h0,h1,h2,h3⟩:=h
  exact ⟨u,vs,bs,rfl,h0,cV h1 (fun b hb=>hh _ b rfl (.inl hb)),h2.mono hle (fun b hb=>hh _ b rfl (.inr hb)),h3⟩
 | some (.de e k os xs i o id2 n2) =>
  simp only [bJ] at h ⊢
  obtain ⟨u,vs,bs,rfl,h0,h1,h2,⟨g,v,q1,q2,q3⟩,h3⟩:=h
  exact ⟨u,vs,bs,rfl,h0,cV h1 (fun b hb=>hh _ b rfl (.inl hb)),h2.mono hle (fun b hb=>hh _ b rfl (.inr hb)),⟨g,v,q1,(qW (hh _ g rfl (.inl q1)) _).trans q2,ar.mono hle (.arr id2 n2) v (fun id cj=>hB _ rfl id cj) q3⟩,h3⟩
 | some .dead=>simpa only [bJ] using h
 | some (.map kt vt es) =>
  simp only [bJ] at h ⊢
  obtain ⟨b,j3,ck,rfl,h1,h2,h3,h4,h5,h6⟩:=h
  exact ⟨b,j3,ck,rfl,(hh _ b rfl rfl).trans h1,aE.mono hle _ _ (fun j hj=>by rw [az _ h4] at hj; cases hj) h2,aE.mono hle _ _ (fun j hj=>by rw [az _ h5] at hj; cases hj) h3,h4,h5,h6⟩
def hU (P:Program) (f:Nat) (args:List LV) (m:Mem) (lv:LV) (m':Mem) (y3:Nat→Prop):Prop :=
 ∀ (c:Cx) (vs:List Value),cG c m→aE c args vs →
  Calls P f vs.toArray c.w fun en w'=>∃ v c',en=.returned v∧c'.w=w'∧cG c' m'∧ar c' lv v∧Grow y3 c c'
theorem hU.sub {P:Program} {f:Nat} {args eH:List LV} {m m':Mem} {lv:LV} {y3:Nat→Prop} (h:hU P f eH m lv m' y3) (hs:fl args eH):hU P f args m lv m' y3:=fun c vs hm ha=>h c vs hm (hs.rep ha)
theorem hU.res {P:Program} {f:Nat} {args:List LV} {m m':Mem} {lv vW:LV} {y3:Nat→Prop} (h:hU P f args m lv m' y3) (hs:Sub lv vW):hU P f args m vW m' y3:=fun c vs hm ha=>(h c vs hm ha).mono fun en w' ⟨v,c',h1,h2,h3,h4,h5⟩=>⟨v,c',h1,h2,h3,hs c' v h4,h5⟩
theorem hU.frame {P:Program} {f:Nat} {args:List LV} {mc iN m:Mem} {lv:LV} {y3:Nat→Prop} {q:Nat} (h:hU P f args mc lv iN y3) (OW:∀ id,mc id ≠ .none→id ≠ q→y3 id) (pS:iN q ≠ .none) (nP:∀ id le,mc id=.none→m id=some le→le.iU q=true)
  (jH:∀ id,mc id ≠ .none→m id=mc id) (oT:∀ id,mc id=.none→iN id ≠ .none→m id=.none)
  (hargs:∀ id,LV.cD id args=false→mc id ≠ .none) (kY:∀ id le,mc id=some le→∀ j,le.iU j=false→mc j ≠ .none)
  (pr:Nat→Prop) (OX:¬ pr q) (c:Cx) (vs:List Value) (hm:cG c m) (ha:aE c args vs) :
  Calls P f vs.toArray c.w fun en w'=>∃ v c',en=.returned v∧c'.w=w'∧cG c' (m.over iN)∧ar c' lv v∧Grow pr c c'∧∀ i,i ≠ q→js (c.B i) (c'.B i):=by
 classical
 let c0:Cx:=⟨c.w,fun id=>if mc id=.none then .none else c.B id,fun b=>c.O b ∨ ∃ id be,mc id=.none∧c.B id=some be∧be.has b⟩
 have hX:∀ b,c0.X b ↔ c.X b:=by
  intro b
  constructor
  ·rintro ((hO | ⟨id,be,_,h2,h3⟩) | ⟨id,be,h2,h3⟩)
   ·exact .inl hO
   ·exact .inr ⟨id,be,h2,h3⟩
   ·by_cases hi:mc id=.none
    ·simp [c0,hi] at h2
    ·simp only [c0,hi,if_false] at h2; exact .inr ⟨id,be,h2,h3⟩
  ·rintro (hO | ⟨id,be,h2,h3⟩)
   ·exact .inl (.inl hO)
   ·by_cases hi:mc id=.none
    ·exact .inl (.inr ⟨id,be,hi,h2,h3⟩)
    ·exact .inr ⟨id,be,by simp [c0,hi,h2],h3⟩
 have nN:c.Le c0:=⟨Nat.le_refl _,fun b _ hx=>⟨rfl,fun oC=>hx ((hX b).1 oC)⟩⟩
 have KM:∀ id,mc id ≠ .none→js (c.B id) (c0.B id):=fun id hi=>by simp only [c0,hi,if_false]; exact js.refl _
 have qb : cG c0 mc := by
  refine ⟨fun id=>?_,?_,?_,?_⟩
  ·by_cases hi:mc id=.none
   ·rw [hi]; simp [bJ,c0,hi]
   ·have he:=hm.gH id
    rw [jH id hi] at he
    have hb:c0.B id=c.B id:=by simp [c0,hi]
    rw [hb]
    cases hx:mc id with
    | none=>exact absurd hx hi
    | some le =>
     rw [hx] at he
     cases le with
     | box cs =>
      simp only [bJ] at he ⊢
      obtain ⟨b,us,e,h1,h2,h3,h4⟩:=he
      exact ⟨b,us,e,h1,h2,aE.mono nN cs us (fun j hj=>KM j (kY id _ hx j hj)) h3,h4⟩
     | arr e k xs =>
      simp only [bJ] at he ⊢
      obtain ⟨u,us,h1,h0,h2,h3,h4,h5⟩:=he
      exact ⟨u,us,h1,h0,h2,aE.mono nN xs us (fun j hj=>by rw [az xs h5] at hj; cases hj) h3,h4,h5⟩
     | nest e k os xs =>
      simp only [bJ] at he ⊢
      obtain ⟨u,us,bs,h1,h0,h2,h3,h4⟩:=he
      exact ⟨u,us,bs,h1,h0,h2,h3.mono nN (fun b _=>rfl),h4⟩
     | de e k os xs i o id2 n2 =>
      simp only [bJ] at he ⊢
      obtain ⟨u,us,bs,h1,h0,h2,h3,⟨ws,v,q1,q2,q3⟩,h4⟩:=he
      exact ⟨u,us,bs,h1,h0,h2,h3.mono nN (fun b _=>rfl),⟨ws,v,q1,q2,ar.mono nN (.arr id2 n2) v (fun j hj=>KM j (kY id _ hx j hj)) q3⟩,h4⟩
     | dead=>simpa only [bJ] using he
     | map kt vt es =>
      simp only [bJ] at he ⊢
      obtain ⟨b,j3,ck,h1,h2,h3,h4,h5,h6,h7⟩:=he
      exact ⟨b,j3,ck,h1,h2,aE.mono nN _ _ (fun j hj=>by rw [az _ h5] at hj; cases hj) h3,aE.mono nN _ _ (fun j hj=>by rw [az _ h6] at hj; cases hj) h4,h5,h6,h7⟩
  ·intro i i' be dK b h1 h2 h3 h4
   by_cases hi:mc i=.none
   ·simp [c0,hi] at h1
   ·by_cases fD:mc i'=.none
    ·simp [c0,fD] at h2
    ·simp only [c0,hi,fD,if_false] at h1 h2; exact hm.inj i i' be dK b h1 h2 h3 h4
  ·rintro b ⟨id,be,h1,h2⟩ hO
   by_cases hi:mc id=.none
   ·simp [c0,hi] at h1
   ·simp only [c0,hi,if_false] at h1
    rcases hO with hO | ⟨j,dK,h3,h4,h5⟩
    ·exact hm.jT b ⟨id,be,h1,h2⟩ hO
    ·have:=hm.inj id j be dK b h1 h4 h2 h5
     subst this; exact hi h3
  ·rintro b (hO | ⟨j,dK,h3,h4,h5⟩)
   ·exact hm.vu b hO
   ·exact hm.yB ⟨j,dK,h4,h5⟩
 have Wt:aE c0 args vs:=aE.mono nN args vs (fun id cj=>KM id (hargs id cj)) ha
 refine (h c0 vs qb Wt).mono ?_
 rintro en w' ⟨v,c1,rfl,rfl,k5,iR,hg⟩
 have tX:∀ id,mc id ≠ .none→id ≠ q→∃ be dK,c.B id=some be∧c1.B id=some dK∧be.jE dK:=by
  intro id hi eE
  have he:=qb.gH id
  cases hx:mc id with
  | none=>exact absurd hx hi
  | some le =>
   have hb:c0.B id=c.B id:=by simp [c0,hi]
   cases Ll:c0.B id with
   | none=>rw [hx,Ll] at he; cases le <;> simp [bJ] at he
   | some be =>
    obtain ⟨dK,h1,h2⟩:=hg.CZ id be (OW id hi eE) Ll
    exact ⟨be,dK,by rw [← hb]; exact Ll,h1,h2⟩
 have kZ:∀ id,mc id ≠ .none→iN id ≠ .none:=by
  intro id hi fD
  by_cases eE:id=q
  ·subst eE; exact pS fD
  have he:=k5.gH id
  rw [fD] at he
  simp only [bJ] at he
  obtain ⟨be,dK,_,h2,_⟩:=tX id hi eE
  rw [he] at h2; cases h2
 have Lq:∀ id be,c.B id=some be→mc id=.none→iN id=.none:=by
  intro id be hb hi
  by_cases fD:iN id=.none
  ·exact fD
  ·have:=hm.fresh (oT id hi fD); rw [this] at hb; cases hb
 let c':Cx:=⟨c1.w,fun id=>if iN id=.none then c.B id else c1.B id,c.O⟩
 have Li : ∀ b, c'.X b ↔ c1.X b := by
  intro b
  constructor
  ·rintro (hO | ⟨id,be,h2,h3⟩)
   ·exact .inl (by rw [hg.O]; exact .inl hO)
   ·by_cases hi:iN id=.none
    ·simp only [c',hi,if_true] at h2
     have hn:mc id=.none:=by
      cases hx:mc id with
      | none=>rfl
      | some le=>exact absurd hi (kZ id (by simp [hx]))
     exact .inl (by rw [hg.O]; exact .inr ⟨id,be,hn,h2,h3⟩)
    ·simp only [c',hi,if_false] at h2; exact .inr ⟨id,be,h2,h3⟩
  ·rintro (hO | ⟨id,be,h2,h3⟩)
   ·rw [hg.O] at hO
    rcases hO with hO | ⟨id,be,h1,h2,h3⟩
    ·exact .inl hO
    ·exact .inr ⟨id,be,by simp [c',Lq id be h2 h1,h2],h3⟩
   ·refine .inr ⟨id,be,?_,h3⟩
    have:iN id ≠ .none:=fun hn=>by have:=k5.fresh hn; rw [this] at h2; cases h2
    simp [c',this,h2]
 have FZ:c1.Le c':=⟨Nat.le_refl _,fun b _ hx=>⟨rfl,fun oC=>hx ((Li b).1 oC)⟩⟩
 have Lf:∀ id,js (c1.B id) (c'.B id):=by
  intro id
  by_cases hi:iN id=.none
  ·rw [k5.fresh hi]; trivial
  ·simp only [c',hi,if_false]; exact js.refl _
 have Sa:∀ id be,id ≠ q→c.B id=some be→∃ dK,c'.B id=some dK∧be.jE dK:=by
  intro id be eE hb
  by_cases hi:iN id=.none
  ·exact ⟨be,by simp [c',hi,hb],.refl be⟩
  ·simp only [c',hi,if_false]
   by_cases hc:mc id=.none
   ·have:=Lq id be hb hc; exact absurd this hi
   ·obtain ⟨RX,dK,h1,h2,h3⟩:=tX id hc eE
    rw [hb] at h1; cases h1
    exact ⟨dK,h2,h3⟩
 have eK:Grow pr c c':=by
  refine ⟨rfl,hg.os,hg.tape,hg.output,hg.drawn,hg.size,fun b hb ho=>hg.gT b hb ?_,?_,fun id be hp hb=>Sa id be (fun h9=>OX (h9 ▸ hp)) hb⟩
  ·rintro ⟨id,be,h1,h2⟩
   by_cases hi:mc id=.none
   ·simp [c0,hi] at h1
   ·simp only [c0,hi,if_false] at h1; exact ho ⟨id,be,h1,h2⟩
  ·rintro b ⟨id,be,h1,h2⟩
   by_cases hi:iN id=.none
   ·simp only [c',hi,if_true] at h1; exact .inl ⟨id,be,h1,h2⟩
   ·simp only [c',hi,if_false] at h1
    rcases hg.own b ⟨id,be,h1,h2⟩ with ⟨j,dK,h3,h4⟩ | hs
    ·by_cases hj:mc j=.none
     ·simp [c0,hj] at h3
     ·simp only [c0,hj,if_false] at h3; exact .inl ⟨j,dK,h3,h4⟩
    ·exact .inr hs
 have hble:∀ id,id ≠ q→js (c.B id) (c'.B id):=by
  intro id eE
  cases hb:c.B id with
  | none=>trivial
  | some be =>
   obtain ⟨dK,h1,h2⟩:=Sa id be eE hb
   rw [h1]
   cases be with
   | box b n=>simp only [BE.jE] at h2; subst h2; exact js.refl _
   | arr u k len ins=>simp only [BE.jE] at h2; obtain ⟨u',lO,lL,rfl,h3,h4⟩:=h2; exact ⟨_,_,_,rfl,h3,h4⟩
   | mp b=>simp only [BE.jE] at h2; subst h2; exact js.refl _
 refine ⟨v,c',rfl,rfl,⟨fun id=>?_,?_,?_,?_⟩,ar.mono FZ lv v (fun id _=>Lf id) iR,eK,hble⟩
 ·by_cases hi:iN id=.none
  ·have hb:c'.B id=c.B id:=by simp [c',hi]
   have OT:m.over iN id=m id:=by simp [Mem.over,hi]
   rw [OT,hb]
   have mh:mc id=.none:=by
    cases hx:mc id with
    | none=>rfl
    | some le=>exact absurd hi (kZ id (by simp [hx]))
   refine (hm.gH id).TO eK.le (fun le hl j hj=>hble j (fun h9=>by subst h9; rw [nP id le mh hl] at hj; cases hj)) fun be b h1 h2=>?_
   refine hg.gT b ((hm.gH id).lt h1 h2) ?_
   rintro ⟨j,dK,h3,h4⟩
   by_cases hj:mc j=.none
   ·simp [c0,hj] at h3
   ·simp only [c0,hj,if_false] at h3
    have:=hm.inj id j be dK b h1 h3 h2 h4
    subst this
    exact absurd hi (kZ id hj)
  ·have hb:c'.B id=c1.B id:=by simp [c',hi]
   cases hx:iN id with
   | none=>exact absurd hx hi
   | some le =>
    have OT:m.over iN id=iN id:=by simp [Mem.over,hx]
    rw [OT,hb]
    exact (k5.gH id).mono FZ Lf fun _ _ _ _=>rfl
 ·intro i i' be dK b h1 h2 h3 h4
  by_cases hi:iN i=.none <;> by_cases fD:iN i'=.none
  ·simp only [c',hi,fD,if_true] at h1 h2; exact hm.inj i i' be dK b h1 h2 h3 h4
  ·simp only [c',hi,if_true] at h1
   simp only [c',fD,if_false] at h2
   refine absurd ?_ (k5.jT b ⟨i',dK,h2,h4⟩)
   rw [hg.O]
   refine .inr ⟨i,be,?_,h1,h3⟩
   cases hx:mc i with
   | none=>rfl
   | some le=>exact absurd hi (kZ i (by simp [hx]))
  ·simp only [c',hi,if_false] at h1
   simp only [c',fD,if_true] at h2
   refine absurd ?_ (k5.jT b ⟨i,be,h1,h3⟩)
   rw [hg.O]
   refine .inr ⟨i',dK,?_,h2,h4⟩
   cases hx:mc i' with
   | none=>rfl
   | some le=>exact absurd fD (kZ i' (by simp [hx]))
  ·simp only [c',hi,fD,if_false] at h1 h2; exact k5.inj i i' be dK b h1 h2 h3 h4
 ·rintro b ⟨id,be,h1,h2⟩ hO
  by_cases hi:iN id=.none
  ·simp only [c',hi,if_true] at h1; exact hm.jT b ⟨id,be,h1,h2⟩ hO
  ·simp only [c',hi,if_false] at h1; exact k5.jT b ⟨id,be,h1,h2⟩ (by rw [hg.O]; exact .inl hO)
 ·intro b hO; exact Nat.lt_of_lt_of_le (hm.vu b hO) hg.size
theorem hU.yw {P:Program} {f:Nat} {fn:Func} {code:Code} {args:List LV} {m:Mem} {R:LV→Mem→Prop} {y3:Nat→Prop} (hf:P.funcs[f]?=some fn) (hb:fn.body=some code) (hn:args.length≤fn.ntmps)
  (h:LH P fn.ntmps y3 code (Gx P fn y3 R) (Env.args args) m):∃ lv m',hU P f args m lv m' y3∧R lv m':=by
 obtain ⟨ex,e',m1,hx,hq⟩:=h
 have main:(iS P e' m1 fn.results.toList fun l=>∃ ml,(∀ p ∈ ml,m1 p.1=some p.2)∧av [(0,oneOf l)] ml=true∧(∀ id,y3 id→m1 id=.none ∨ Mem.of ml id ≠ .none)∧R (oneOf l) (Mem.of ml))→(ex=.ret ∨ ex=.normal)→∃ lv m',hU P f args m lv m' y3∧R lv m':=by
  intro O9 hex
  obtain ⟨l,⟨ml,h1,h2,h3,hR⟩,hl⟩:=mo _ _ O9
  refine ⟨oneOf l,Mem.of ml,fun c vs hm ha=>?_,hR⟩
  refine calls_of_wp hf hb ?_
  have hlen:=ha.length
  have cv:mZ fn.ntmps c (Env.args args) m { tmps:=vs.toArray++Array.replicate (fn.ntmps - vs.toArray.size) undef,defers:=[] }:=by
   refine ⟨fun i=>?_,hm,by simp; omega,rfl⟩
   simp only [Env.args,List.getD_eq_getElem?_getD]
   cases hi:args[i]? with
   | none=>simp [ar]
   | some x =>
    obtain ⟨v,hv,hr⟩:=ha.get hi
    have rP:i<vs.length:=(List.getElem?_eq_some_iff.1 hv).1
    have:(vs.toArray++Array.replicate (fn.ntmps - vs.toArray.size) undef).getD i undef=v:=by
     rw [Array.getD_eq_getD_getElem?,Array.getElem?_append_left (by simpa using rP)]
     simp [hv]
    rw [this]; exact hr
  refine wp_mono (hx c _ cv) ?_
  rintro x a' w' ⟨rfl,c1,rfl,dR,yW⟩
  obtain ⟨us,G0,ra⟩:=hl _ c1 a' dR
  have H9:(results fn a'.tmps).run P c1.w=.ok (if h:us.toArray.size=1 then us.toArray[0] else .tuple us.toArray) c1.w:=by
   have e1:results fn a'.tmps=(do let vs ← fn.results.mapM (rA a'.tmps); pure (if h:vs.size=1 then vs[0] else .tuple vs)):=by
    unfold results
    congr 2
   rw [e1,Array.mapM_eq_mapM_toList]
   simp only [Sem.run_bind,Sem.run_map,G0,Result.andThen_ok,Sem.run_pure]
  have Xs:ar c1 (oneOf l) (if h:us.toArray.size=1 then us.toArray[0] else .tuple us.toArray):=by
   have hll:=ra.length
   match l,us,ra with
   | [],us,ra=>simp only [aE] at ra; subst ra; simp [oneOf,ar,aE]
   | [x],us,ra =>
    simp only [aE] at ra
    obtain ⟨v,fR,rfl,hv,rfl⟩:=ra
    simpa [oneOf] using hv
   | x :: y :: l,us,ra =>
    have fe:¬ us.toArray.size=1:=by have:=ra.length; simp at this ⊢; omega
    rw [dif_neg fe]
    simp only [oneOf,ar]
    exact ⟨us,rfl,ra⟩
  obtain ⟨c2,qf,⟨HP,lp,_,_⟩,hg2⟩:=Wk.cut (pr:=y3) (e:=Env.of [(0,oneOf l)]) (m:=m1) [(0,oneOf l)] ml (by simp [Env.of]) h1 h2 (fun id hp=>h3 id hp) 1 c1 { tmps:=#[if h:us.toArray.size=1 then us.toArray[0] else .tuple us.toArray],defers:=[] }
   ⟨fun i=>by
    by_cases hi:i=0
    ·subst hi; simpa [Env.of] using Xs
    ·simp [Env.of,hi,ar],dR.mem,rfl,rfl⟩
  have hv2:=HP 0
  simp only [Env.of,if_true] at hv2
  have zH:a'.defers=[]∧∃ v,(results fn a'.tmps).run P c1.w=.ok v c1.w∧∃ v' c',Ending.returned v=.returned v'∧c'.w=c1.w∧cG c' (Mem.of ml)∧ar c' (oneOf l) v'∧Grow y3 c c' :=
   ⟨dR.defers,_,H9,_,c2,rfl,qf,lp,by simpa using hv2,yW.trans hg2⟩
  rcases hex with rfl | rfl
  ·exact zH
  ·exact zH
 cases ex with
 | ret=>exact main hq (.inl rfl)
 | normal=>exact main hq (.inr rfl)
 | _=>exact hq.elim
theorem RY {P:Program} {f:Nat} {fn:Func} {code:Code} {args:List LV} {qJ rj:List (Nat × LE)} (Qt:List (Nat × LE)) {Ce:LV} (hf:P.funcs[f]?=some fn) (hb:fn.body=some code) (hn:args.length≤fn.ntmps)
  (h:LH P fn.ntmps (fun id=>Mem.of Qt id ≠ .none) code (Gx P fn (fun id=>Mem.of Qt id ≠ .none) (Ends Ce rj)) (Env.args args) (Mem.of qJ)):hU P f args (Mem.of qJ) Ce (Mem.of rj) (fun id=>Mem.of Qt id ≠ .none):=by
 obtain ⟨lv,m',h1,h2,rfl⟩:=hU.yw (R:=Ends Ce rj) hf hb hn h
 exact h1.res h2
end Go.L
namespace Go.L
variable {P:Program} {pr:Nat→Prop} {ev:Operand→LV} {m m':Mem} {x:Operand} {ty:TypeId} {pos:String} {af:Array Edge} {gd:Option (Nat × Bool)} {d:Option Nat} {lv:LV}
theorem M8 {ml ZK:List (Nat × LE)} {q:Nat} (h:(ZK.all fun p=>(ml.any fun z=>z.1 == p.1) || p.2.iU q)=true):∀ id le,Mem.of ml id=.none→Mem.of ZK id=some le→le.iU q=true:=by
 intro id le h1 h2
 have h3:=List.all_eq_true.1 h _ (dS h2)
 simp only [Bool.or_eq_true] at h3
 rcases h3 with h3 | h3
 ·exact absurd h1 (eL h3)
 ·exact h3
theorem Fq {args:List LV} {ml cS:List (Nat × LE)} (hm:j8 m ml) (oT:∀ p ∈ cS,(ml.any fun q=>q.1 == p.1)=true ∨ m p.1=.none) (hargs:av (args.map fun x=>(0,x)) ml=true) :
  (∀ id,Mem.of ml id ≠ .none→m id=Mem.of ml id)∧(∀ id,Mem.of ml id=.none→Mem.of cS id ≠ .none→m id=.none)∧(∀ id,LV.cD id args=false→Mem.of ml id ≠ .none)∧(∀ id le,Mem.of ml id=some le→∀ j,le.iU j=false→Mem.of ml j ≠ .none):=by
 simp only [av,Bool.and_eq_true,List.all_eq_true] at hargs
 refine ⟨fun i hi=>?_,fun i hi fD=>?_,fun i hi=>?_,fun i cs hi j hj=>?_⟩
 ·cases hq:Mem.of ml i with
  | none=>exact absurd hq hi
  | some le=>exact hm.all _ (dS hq)
 ·cases hq:Mem.of cS i with
  | none=>exact absurd hq fD
  | some le =>
   rcases oT _ (dS hq) with h1 | h1
   ·exact absurd hi (eL h1)
   ·exact h1
 ·have key:∀ (l:List LV),LV.cD i l=false→∃ x ∈ l,i ∈ x.refs:=by
   intro l
   induction l with
   | nil=>intro h; simp [LV.cD] at h
   | cons x l ih =>
    intro h
    simp only [LV.cD,Bool.and_eq_false_iff] at h
    rcases h with h | h
    ·exact ⟨x,by simp,jm x h⟩
    ·obtain ⟨y,hy,hr⟩:=ih h
     exact ⟨y,by simp [hy],hr⟩
  obtain ⟨x,hx,hr⟩:=key args hi
  exact eL (hargs.1 (0,x) (List.mem_map.2 ⟨x,hx,rfl⟩) i hr)
 ·have h2:=hargs.2 _ (dS hi)
  cases cs with
  | box cs =>
   simp only [List.all_eq_true] at h2
   exact eL (h2 j (dw cs hj))
  | de _ _ _ _ _ _ id2 _ =>
   simp only [LE.iU,bne_eq_false_iff_eq] at hj
   subst hj
   exact eL h2
  | _=>simp [LE.iU] at hj
theorem Ab {f q : Nat} {Hp args eH : List LV} {xs : List Operand} {ts : Array TypeId} {ml cS Qt : List (Nat × LE)} (hx : ev x = .fn f Hp) (hf : ∃ fn, P.funcs[f]? = some fn ∧ (fn.name == "runtime.NumGoroutine") = false ∧ fn.body.isNone = false) (ha : xs.map ev ++ Hp = args) (hs : fl args eH) (hc : hU P f eH (Mem.of ml) lv (Mem.of cS) (fun id => Mem.of Qt id ≠ .none)) (hm : j8 m ml) (oT : ∀ p ∈ cS, (ml.any fun q => q.1 == p.1) = true ∨ m p.1 = .none) (hr : av (args.map fun x => (0, x)) ml = true)
  (hp:(ml.all fun p=>p.1 == q || Qt.any fun z=>z.1 == p.1)=true) (hq:(cS.any fun z=>z.1 == q)=true) (OX:¬ pr q) (nP:∀ id le,Mem.of ml id=.none→m id=some le→le.iU q=true) :
  tj P pr q ⟨d,.call ⟨.value x,xs.toArray,ts⟩,ty,pos,af,gd⟩ ev m lv (m.over (Mem.of cS)):=by
 subst ha
 obtain ⟨h1,h2,h3,h4⟩:=Fq hm oT hr
 obtain ⟨fn,hf,ua,nL⟩:=hf
 intro c a Q bS hM
 have hv:=bS x
 rw [hx] at hv
 simp only [ar] at hv
 obtain ⟨us,he,hl⟩:=hv
 have BW:aE c (xs.map ev) (xs.map a.eval):=aE.of (by simp) fun j p q hp hq=>by
  simp only [List.getElem?_map,Option.map_eq_some_iff] at hp hq
  obtain ⟨z,hz,rfl⟩:=hp
  obtain ⟨z',Pu,rfl⟩:=hq
  rw [hz] at Pu; cases Pu
  exact bS z
 have dt:(execOp a.eval ⟨d,.call ⟨.value x,xs.toArray,ts⟩,ty,pos,af,gd⟩).run P c.w=.ok (.enter f (xs.map a.eval++us).toArray) c.w:=by
  have e1:Array.map a.eval xs.toArray++us.toArray=(xs.map a.eval++us).toArray:=by
   apply Array.ext'; simp
  have px : ¬ fn.name = "runtime.NumGoroutine" := by simpa using ua
  have po:¬ fn.body=.none:=fun hn=>by rw [hn] at nL; cases nL
  simp [execOp,resolve,Deferred.ofValue,he,invoke,callFunc,hf,px,po,e1]
 unfold Oper.wp
 rw [dt]
 simp only [Oper.upon]
 have OW:∀ id,Mem.of ml id ≠ .none→id ≠ q→(fun id=>Mem.of Qt id ≠ .none) id:=fun id hi eE=>by
  cases hx:Mem.of ml id with
  | none=>exact absurd hx hi
  | some le =>
   have h9:=List.all_eq_true.1 hp _ (dS hx)
   simp only [Bool.or_eq_true,beq_iff_eq] at h9
   exact h9.elim (fun h=>absurd h eE) eL
 refine ((hc.sub hs).frame (m:=m) OW (eL hq) nP h1 h2 h3 h4 pr OX c _ hM (BW.append hl)).mono ?_
 rintro en w' ⟨v,c',rfl,rfl,j6,sS,hg,hb⟩
 exact ⟨v,c',rfl,rfl,sS,j6,hg,hb⟩
end Go.L
namespace Go.L
def sQ (n:Nat) (ops:Array Oper) (ey:List Nat):Bool :=
 (List.range ops.size).all fun i=>match ops[i]? with
  | some o=>(o.after.toList.all fun e=>!Region.binds .any e || decide (e.on<i)) && (List.range i).all fun k=>match ops[k]? with
   | some q=>(Nat.blt i n && BJ ops (q,ey.getD k 2) (o,ey.getD i 2)) || ahead ops 8 k i
   | .none=>true
  | .none=>true
section
variable {P:Program} {N:Nat} {pr:Nat→Prop}
theorem kM {ops:Array Oper} {n:Nat} {ey:List Nat} (gP:sQ n ops ey=true) {aR:Array Bool} (fe:aR.size=ops.size)
  (hcl:∀ i o,ops[i]?=some o→aR.getD i true=true→∀ e ∈ o.after,Region.binds .any e=true→aR.getD e.on false=true) :
  (∀ i ∈ Region.ready .any ops aR,i ∈ left ops aR∧∀ o,ops[i]?=some o→∀ e ∈ o.after,Region.binds .any e=true→aR.getD e.on false=true) ∧
  (∀ i ∈ Region.ready .any ops aR,n≤i→∀ k,k<i→k ∉ left ops aR) ∧
  (Region.ready .any ops aR=[]→left ops aR=[]):=by
 have zB:=List.all_eq_true.1 gP
 have jH:∀ i ∈ Region.ready .any ops aR,i ∈ left ops aR∧∀ o,ops[i]?=some o→∀ e ∈ o.after,Region.binds .any e=true→aR.getD e.on false=true:=by
  intro i hi
  unfold Region.ready at hi
  simp only [List.mem_filter,Bool.and_eq_true] at hi
  refine ⟨by unfold left; exact List.mem_filter.2 ⟨hi.1,hi.2.1⟩,fun o ho e he hb=>?_⟩
  have h2:=hi.2.2
  rw [ho] at h2
  simp only [Option.map_some,Option.getD_some] at h2
  have:=(Array.all_eq_true_iff_forall_mem.1 h2) e he
  simpa [hb] using this
 refine ⟨jH,fun i hi Zr k wC hk=>?_,fun qc=>?_⟩
 ·obtain ⟨rP,py⟩:=jH i hi
  have fw:=rP
  unfold left at fw
  simp only [List.mem_filter,List.mem_range] at fw
  have hlt:=fw.1
  have ub:ops[i]?=some (ops[i]'hlt):=by simp [hlt]
  have h1:=zB i (by simpa using hlt)
  rw [ub] at h1
  simp only [Bool.and_eq_true,List.all_eq_true] at h1
  have h2:=h1.2 k (by simpa using wC)
  have H7:ops[k]?=some (ops[k]'(by omega)):=by simp [show k<ops.size by omega]
  rw [H7] at h2
  have W5:Nat.blt i n=false:=by
   cases hb:Nat.blt i n with
   | false=>rfl
   | true=>have:=Nat.le_of_ble_eq_true hb; omega
  simp only [W5,Bool.false_and,Bool.false_or] at h2
  have h3:=jP hcl fe 8 k i _ ub (py _ ub) h2
  unfold left at hk
  simp only [List.mem_filter,List.mem_range] at hk
  have h5:k<aR.size:=by omega
  have h6:=hk.2
  simp [h5] at h3 h6
  rw [h3] at h6; cases h6
 ·have Ie:(left ops aR).Pairwise (·<·):=by unfold left; exact List.Pairwise.filter _ List.pairwise_lt_range
  cases hl:left ops aR with
  | nil=>rfl
  | cons i r =>
   exfalso
   have rP:i ∈ left ops aR:=by rw [hl]; simp
   have fw:=rP
   unfold left at fw
   simp only [List.mem_filter,List.mem_range] at fw
   have hlt:=fw.1
   have ub:ops[i]?=some (ops[i]'hlt):=by simp [hlt]
   have Sy:i ∈ Region.ready .any ops aR:=by
    unfold Region.ready
    simp only [List.mem_filter,List.mem_range,Bool.and_eq_true]
    refine ⟨hlt,fw.2,?_⟩
    rw [ub]
    simp only [Option.map_some,Option.getD_some]
    rw [Array.all_eq_true_iff_forall_mem]
    intro e he
    by_cases hb:Region.binds .any e=true
    ·have h1:=zB i (by simpa using hlt)
     rw [ub] at h1
     simp only [Bool.and_eq_true,List.all_eq_true] at h1
     have h2:=h1.1 e (by simpa using he)
     simp only [hb,Bool.not_true,Bool.false_or,decide_eq_true_eq] at h2
     have h3:e.on ∉ left ops aR:=by
      rw [hl]
      intro hm
      rw [hl] at Ie
      rcases List.mem_cons.1 hm with h4 | h4
      ·omega
      ·have:=(List.pairwise_cons.1 Ie).1 _ h4; omega
     unfold left at h3
     simp only [List.mem_filter,List.mem_range,not_and] at h3
     have h4:=h3 (by omega)
     have h5:e.on<aR.size:=by omega
     simp only [hb,Bool.not_true,Bool.false_or]
     simpa [h5] using h4
    ·simp [hb]
   rw [qc] at Sy; cases Sy
theorem zV {ops:Array Oper} {aR:Array Bool} (fe:aR.size=ops.size) (i:Nat):left ops (aR.setIfInBounds i true)=(left ops aR).filter fun k=>k != i:=by
 unfold left
 rw [List.filter_filter]
 apply List.filter_congr
 intro k hk
 have hk:=List.mem_range.1 hk
 by_cases wC:k=i
 ·subst wC
  have:k<aR.size:=by omega
  simp [this]
 ·simp [Array.getElem?_setIfInBounds_ne (Ne.symm wC),wC]
theorem tx {ops:Array Oper} {aR:Array Bool} (fe:aR.size=ops.size) (hcl:∀ i o,ops[i]?=some o→aR.getD i true=true→∀ e ∈ o.after,Region.binds .any e=true→aR.getD e.on false=true) {i:Nat} (py:∀ o,ops[i]?=some o→∀ e ∈ o.after,Region.binds .any e=true→aR.getD e.on false=true) (hi:i<ops.size) :
  ∀ j o,ops[j]?=some o→(aR.setIfInBounds i true).getD j true=true→∀ e ∈ o.after,Region.binds .any e=true→(aR.setIfInBounds i true).getD e.on false=true:=by
 intro j o SJ hj e he hb
 have jd:∀ q,aR.getD q false=true→(aR.setIfInBounds i true).getD q false=true:=by
  intro q hq
  by_cases LA:q=i
  ·subst LA
   have:q<aR.size:=by omega
   simp [this]
  ·simpa [Array.getElem?_setIfInBounds_ne (Ne.symm LA)] using hq
 apply jd
 by_cases Eg:j=i
 ·subst Eg; exact py o SJ e he hb
 ·refine hcl j o SJ ?_ e he hb
  simpa [Array.getElem?_setIfInBounds_ne (Ne.symm Eg)] using hj
theorem vr {n:Nat} {ops:Array Oper} {ey:List Nat} (gP:sQ n ops ey=true) {Q:Exit→Act→World→Prop}:∀ (s:List Oper) (j fuel:Nat) (aR:Array Bool) (a:Act) (w:World),n≤j→j+s.length=ops.size→(∀ i,s[i]?=ops[j+i]?)→aR.size=ops.size→s.length≤fuel→left ops aR=(List.range' j s.length) →
  (∀ i o,ops[i]?=some o→aR.getD i true=true→∀ e ∈ o.after,Region.binds .any e=true→aR.getD e.on false=true)→wpList P ops Q s a w→wpAny P .any ops Q fuel aR a w
 | [],j,fuel,aR,a,w,hj,hs,Xw,fe,hf,hl,hcl,h=>by
  obtain ⟨g1,g2,g3⟩:=kM gP fe hcl
  have eE:Region.ready .any ops aR=[]:=by
   rw [List.eq_nil_iff_forall_not_mem]
   intro i hi
   have:=(g1 i hi).1
   rw [hl] at this; cases this
  cases fuel with
  | zero=>exact ⟨eE,h⟩
  | succ fuel=>exact ⟨fun _=>h,fun i hi=>by rw [eE] at hi; cases hi⟩
 | o :: s,j,fuel,aR,a,w,hj,hs,Xw,fe,hf,hl,hcl,h=>by
  obtain ⟨g1,g2,g3⟩:=kM gP fe hcl
  cases fuel with
  | zero=>simp at hf
  | succ fuel =>
   refine ⟨fun qc=>?_,fun i hi=>?_⟩
   ·have:=g3 qc
    rw [hl] at this; simp [List.range'] at this
   ·obtain ⟨rP,py⟩:=g1 i hi
    rw [hl] at rP
    simp only [List.mem_range'_1,List.length_cons] at rP
    have tW:i=j:=by
     rcases Nat.lt_or_ge j i with hlt | WM
     ·exact absurd (by rw [hl]; simp [List.mem_range'_1]) (g2 i hi (by omega) j hlt)
     ·omega
    subst tW
    have ub:ops[i]?=some o:=by have:=Xw 0; simpa using this.symm
    have hlt:i<ops.size:=by simp only [List.length_cons] at hs; omega
    have jM:∀ a w,wpList P ops Q s a w→wpAny P .any ops Q fuel (aR.setIfInBounds i true) a w:=fun a w h' =>
     vr gP s (i+1) fuel (aR.setIfInBounds i true) a w (by omega) (by simp only [List.length_cons] at hs; omega) (fun k=>by have:=Xw (k+1); simp only [List.getElem?_cons_succ] at this; rw [this]; congr 1; omega) (by simpa using fe) (by simp only [List.length_cons] at hf; omega) (by
      rw [zV fe,hl,List.length_cons,List.range'_succ,List.filter_cons]
      simp only [bne_self_eq_false,Bool.false_eq_true,if_false]
      rw [List.filter_eq_self.2]
      intro k hk
      have:=(List.mem_range'_1.1 hk).1
      simp; omega) (tx fe hcl py hlt) h'
    simp only [wpList] at h
    unfold wpOp
    rw [ub]
    simp only
    split
    ·rename_i hw
     rw [if_pos hw] at h
     exact h.imp (Oper.wp_mono jM) (fun h=>h)
    ·rename_i hw
     rw [if_neg hw] at h
     exact jM _ _ h
theorem LH.TJ {Gy n:Nat} {l:List Oper} {Q:Exit→Env→Mem→Prop} {e:Env} {m:Mem} (yj:P.follows .mixedOrders=true) (ro:List Nat) (ey:List Nat) (Oi:List (Nat × LV)) (rj:List (Nat × LE)) (el:List (Nat × LV)) (ml:List (Nat × LE)) (hlen:ey.length=n) (hn:n≤l.length) (hd:kX N l=true) (gP:sQ n l.toArray ey=true)
  (h:cQ P pr ro l.toArray ((l.take n).zip ey) (fun e m=>Wk pr e m (Env.of Oi) (Mem.of rj)) e m) (h2:cJ P N pr l.toArray (l.drop n) (fun e m=>Wk pr e m (Env.of el) (Mem.of ml)) (Env.of Oi) (Mem.of rj)) (hr:Q .normal (Env.of el) (Mem.of ml)):LH P N pr (.region Gy l.toArray true) Q e m:=by
 obtain ⟨e1,m1,Y6,hc⟩:=kF _ h
 obtain ⟨e2,m2,Y7,dt⟩:=h2 (p5 hd) (fun o ho=>by simp only [List.mem_toArray]; exact List.mem_of_mem_drop ho)
 refine ⟨.normal,_,_,fun c a hr=>?_,hr⟩
 have X4:((List.range n).map fun i=>(l.getD i default,ey.getD i 2))=(l.take n).zip ey:=by
  have:=rG (l.take n) ey (by rw [hlen,List.length_take,Nat.min_eq_left hn])
  rw [← this,List.length_take,Nat.min_eq_left hn]
  apply List.map_congr_left
  intro i hi
  have hi:=List.mem_range.1 hi
  simp [List.getElem?_take,hi]
 rw [← X4] at hc
 refine wp_region_any yj ?_
 have Sr:=p5 hd
 have zB:=List.all_eq_true.1 gP
 have key : ∀ (fuel : Nat) (aR : Array Bool) (A : List Nat) (e0 : Env) (m0 : Mem) (c0 : Cx) (a0 : Act), aR.size = l.toArray.size → left l.toArray aR = A ++ List.range' n (l.length - n) → (∀ k ∈ A, k < n) → (left l.toArray aR).length ≤ fuel →
   (∀ i o,l.toArray[i]?=some o→aR.getD i true=true→∀ e ∈ o.after,Region.binds .any e=true→aR.getD e.on false=true) →
   o2 P pr ro l.toArray (A.map fun i=>(l.getD i default,ey.getD i 2)) e0 m0 e1 m1→mZ N c0 e0 m0 a0→Grow pr c c0 →
   wpAny P .any l.toArray (fun x a' w'=>x=.normal∧∃ c':Cx,c'.w=w'∧mZ N c' (Env.of el) (Mem.of ml) a'∧Grow pr c c') fuel aR a0 c0.w:=by
  intro fuel
  induction fuel with
  | zero =>
   intro aR A e0 m0 c0 a0 fe iI hA FN hcl BT Ih yh
   have MM:left l.toArray aR=[]:=List.eq_nil_of_length_eq_zero (by omega)
   rw [MM] at iI
   have hA0:A=[]:=by cases A with | nil=>rfl | cons x A=>simp at iI
   subst hA0
   obtain ⟨rfl,rfl⟩:=BT
   obtain ⟨c1,hw1,dR,yW⟩:=Y6 N c0 a0 Ih
   have hz:l.length - n=0:=by have:=congrArg List.length iI; simpa using this.symm
   have Sq:l.drop n=[]:=List.eq_nil_of_length_eq_zero (by simpa using hz)
   have zJ:=dt c1 a0 dR
   rw [Sq] at zJ
   obtain ⟨_,c2,qf,hr2,hg2⟩:=zJ
   obtain ⟨c3,VM,hr3,hg3⟩:=Y7 N c2 a0 hr2
   refine ⟨?_,rfl,c3,by rw [VM,qf,hw1],hr3,((yh.trans yW).trans hg2).trans hg3⟩
   obtain ⟨g1,g2,g3⟩:=kM gP fe hcl
   rw [List.eq_nil_iff_forall_not_mem]
   intro i hi
   have:=(g1 i hi).1
   rw [MM] at this; cases this
  | succ fuel ih =>
   intro aR A e0 m0 c0 a0 fe iI hA FN hcl BT Ih yh
   obtain ⟨g1,g2,g3⟩:=kM gP fe hcl
   by_cases hA0:A=[]
   ·subst hA0
    obtain ⟨rfl,rfl⟩:=BT
    obtain ⟨c1,hw1,dR,yW⟩:=Y6 N c0 a0 Ih
    have zJ:=dt c1 a0 dR
    rw [hw1] at zJ
    rw [List.nil_append] at iI
    refine vr gP (l.drop n) n (fuel+1) aR a0 c0.w (Nat.le_refl _) (by simp; omega) (fun i=>by simp [List.getElem?_drop]) fe (by rw [iI] at FN; simpa using FN) (by rw [iI,List.length_drop]) hcl ?_
    refine gz _ _ _ _ _ ?_ zJ
    rintro x a' w' ⟨rfl,c2,rfl,hr2,hg2⟩
    obtain ⟨c3,VM,hr3,hg3⟩:=Y7 N c2 a' hr2
    exact ⟨rfl,c3,VM,hr3,((yh.trans yW).trans hg2).trans hg3⟩
   ·have Ie:(left l.toArray aR).Pairwise (·<·):=by unfold left; exact List.Pairwise.filter _ List.pairwise_lt_range
    refine ⟨fun qc=>?_,fun i hi=>?_⟩
    ·exfalso
     have:=g3 qc
     rw [iI] at this
     exact hA0 (List.append_eq_nil_iff.1 this).1
    ·obtain ⟨rP,py⟩:=g1 i hi
     have hin:i<n:=by
      rcases Nat.lt_or_ge i n with h' | h'
      ·exact h'
      ·exfalso
       obtain ⟨k,hk⟩:=List.exists_mem_of_ne_nil A hA0
       exact g2 i hi h' k (by have:=hA k hk; omega) (by rw [iI]; simp [hk])
     have hiA:i ∈ A:=by
      rw [iI] at rP
      rcases List.mem_append.1 rP with h' | h'
      ·exact h'
      ·have:=(List.mem_range'_1.1 h').1; omega
     have fw:=rP
     unfold left at fw
     simp only [List.mem_filter,List.mem_range] at fw
     have hlt:=fw.1
     have OP:i<l.length:=by simpa using hlt
     have ub:l.toArray[i]?=some (l.getD i default):=by simp [OP]
     obtain ⟨pre,post,jG⟩:=List.append_of_mem hiA
     have OZ:A.Pairwise (·<·):=by rw [iI] at Ie; exact (List.pairwise_append.1 Ie).1
     rw [jG] at OZ
     have ue:∀ k ∈ pre,k<i:=fun k hk=>(List.pairwise_append.1 OZ).2.2 k hk i (by simp)
     have yl:∀ k ∈ post,i<k:=fun k hk=>(List.pairwise_cons.1 (List.pairwise_append.1 OZ).2.1).1 k hk
     have tY:left l.toArray (aR.setIfInBounds i true)=(pre++post)++List.range' n (l.length - n):=by
      rw [zV fe,iI,jG,List.filter_append,List.filter_append,List.filter_cons]
      simp only [bne_self_eq_false,Bool.false_eq_true,if_false]
      rw [List.filter_eq_self.2 (fun k hk=>by have:=ue k hk; simp; omega),List.filter_eq_self.2 (fun k hk=>by have:=yl k hk; simp; omega),List.filter_eq_self.2 (fun k hk=>by have:=(List.mem_range'_1.1 hk).1; simp; omega)]
     rw [jG,List.map_append,List.map_cons] at BT
     have Cy:=pF _ _ (by
      intro x hx
      simp only [List.mem_map] at hx
      obtain ⟨k,hk,rfl⟩:=hx
      have h1:=zB i (by simpa using hlt)
      rw [ub] at h1
      simp only [Bool.and_eq_true,List.all_eq_true] at h1
      have wC:=ue k hk
      have h2:=h1.2 k (by simpa using wC)
      have H7:l.toArray[k]?=some (l.getD k default):=by simp [show k<l.length by omega]
      rw [H7] at h2
      simp only [Bool.or_eq_true,Bool.and_eq_true] at h2
      rcases h2 with h2 | h2
      ·exact h2.2
      ·exfalso
       have h3:=jP hcl fe 8 k i _ ub (py _ ub) h2
       have h4:k ∈ left l.toArray aR:=by rw [iI,jG]; simp [hk]
       unfold left at h4
       simp only [List.mem_filter,List.mem_range] at h4
       have h5:k<aR.size:=by omega
       have h6:=h4.2
       simp [h5] at h3 h6
       rw [h3] at h6; cases h6) BT
     obtain ⟨lv,mm,nP,jM⟩:=Cy
     unfold wpOp
     rw [ub]
     simp only
     refine zd Sr (Sr _ (Array.mem_of_getElem? ub)) nP c0 a0 _ _ Ih ?_
     intro a' c' kJ Iq
     refine ih (aR.setIfInBounds i true) (pre++post) _ mm c' a' (by simpa using fe) tY ?_ ?_ (tx fe hcl py hlt) ?_ kJ (yh.trans Iq.grow)
     ·intro k hk
      refine hA k ?_
      rw [jG]
      rcases List.mem_append.1 hk with h' | h' <;> simp [h']
     ·rw [tY]
      rw [iI,jG] at FN
      simp at FN ⊢; omega
     ·rw [List.map_append]; exact jM
 have iI:left l.toArray (Array.replicate l.toArray.size false)=List.range n++List.range' n (l.length - n):=by
  unfold left
  rw [List.filter_eq_self.2]
  ·have hh:=List.range'_append_1 (s:=0) (m:=n) (n:=l.length - n)
   rw [Nat.zero_add] at hh
   rw [List.size_toArray,List.range_eq_range',List.range_eq_range',hh]
   congr 1; omega
  ·intro i hi
   simp at hi
   simp [hi]
 have kJ:mZ N ⟨{ c.w with drawn:=c.w.drawn+1 },c.B,c.O⟩ e m a:=by
  obtain ⟨k5,Pa⟩:=hr.mem.ext (pr:=pr) { c.w with drawn:=c.w.drawn+1 } rfl rfl rfl (Nat.le_succ _) (Nat.le_refl _) (fun _ _=>rfl)
  exact ⟨fun i=>Pa.yJ (hr.env i),k5,hr.size,hr.defers⟩
 have vO:Grow pr c ⟨{ c.w with drawn:=c.w.drawn+1 },c.B,c.O⟩:=(hr.mem.ext (pr:=pr) { c.w with drawn:=c.w.drawn+1 } rfl rfl rfl (Nat.le_succ _) (Nat.le_refl _) (fun _ _=>rfl)).2.grow
 refine key l.toArray.size (Array.replicate l.toArray.size false) (List.range n) e m ⟨{ c.w with drawn:=c.w.drawn+1 },c.B,c.O⟩ a (by simp) iI (fun k hk=>List.mem_range.1 hk) ?_ ?_ hc kJ vO
 ·unfold left
  exact Nat.le_trans (List.length_filter_le _ _) (by simp)
 ·intro i o ho hl
  have:i<l.toArray.size:=by
   rcases Nat.lt_or_ge i l.toArray.size with h' | h'
   ·exact h'
   ·simp at h'; simp [List.getElem?_eq_none h'] at ho
  simp at this
  simp [this] at hl
theorem LH.Yv {Gy n:Nat} {l:List Oper} {yc:Code} {Q:Exit→Env→Mem→Prop} {e:Env} {m:Mem} (yj:P.follows .mixedOrders=true) (ro:List Nat) (ey:List Nat) (Oi:List (Nat × LV)) (rj:List (Nat × LE)) (el:List (Nat × LV)) (ml:List (Nat × LE)) (hlen:ey.length=n) (hn:n≤l.length) (hd:kX N l=true) (gP:sQ n l.toArray ey=true)
  (h:cQ P pr ro l.toArray ((l.take n).zip ey) (fun e m=>Wk pr e m (Env.of Oi) (Mem.of rj)) e m) (h2:cJ P N pr l.toArray (l.drop n) (fun e m=>Wk pr e m (Env.of el) (Mem.of ml)) (Env.of Oi) (Mem.of rj)) (hr:LH P N pr yc Q (Env.of el) (Mem.of ml)):LH P N pr (.seq (.region Gy l.toArray true) yc) Q e m :=
 LH.seq (LH.TJ yj ro ey Oi rj el ml hlen hn hd gP h h2 hr)
end
end Go.L
namespace Go.L
section
variable {P:Program} {N:Nat} {pr:Nat→Prop} {e:Env} {m:Mem} {α β:Type} {f:α→LV} {g:β→LV}
end
end Go.L
namespace Go.L
open Go.RowKit
abbrev Wd (w:World):Cx:=⟨w,fun _=>.none,fun _=>False⟩
theorem rpN {c:Cx}:aE c [] []:=by simp [aE]
theorem rpC {c:Cx} {x:LV} {v:Value} {xs:List LV} {vs:List Value} (h:ar c x v) (hr:aE c xs vs):aE c (x :: xs) (v :: vs):=by simp only [aE]; exact ⟨v,vs,rfl,h,hr⟩
theorem rpI {c:Cx} {k:IntKind} {n:Int}:ar c (.int k n) (.int k n):=by simp [ar]
theorem noX (w:World) (b:Nat):¬ (Wd w).X b:=by
 rintro (h | ⟨_,_,h,_⟩)
 ·exact h
 ·cases h
theorem EW {c:Cx} {k:IntKind}:∀ (zs:List Int),aE c (zs.map (LV.int k)) (zs.map (Value.int k))
 | []=>by simp [aE]
 | z :: zs=>rpC rpI (EW zs)
theorem zm {k:IntKind}:∀ (zs:List Int),flat (zs.map (Value.int k))=zs.map (Value.int k)
 | []=>rfl
 | z :: zs=>by
  have:=zm (k:=k) zs
  simp only [flat,List.map_cons,List.flatMap_cons,Value.cells] at this ⊢
  rw [this]; rfl
theorem rpR {k:IntKind} {w:World} {a:Option Addr} {len cap:Nat} {zs:List Int} (h:(a=.none∧len=0∧cap=0∧zs=[]) ∨ ∃ x,a=some x∧len≤cap∧cap≤maxLen∧zs.length=cap∧(∀ i,i<zs.length→w.cell? (x.add i)=some (.int k (zs.getD i 0)))∧∀ n ∈ zs,(Lit.int k n).wf=true) :
  ar (Wd w) (.lst 1 (List.map (LV.int k) (zs.take len))) (.slice a len cap):=by
 rcases h with ⟨rfl,rfl,rfl,rfl⟩ | ⟨x,rfl,hl,hm,hz,hcell,_⟩
 ·simp only [ar]
  exact ⟨.none,0,rfl,Nat.le_refl _,fun _=>rfl,rfl,.inl rfl⟩
 ·simp only [ar]
  have hlen:(List.map (LV.int k) (zs.take len)).length=len:=by simp; omega
  refine ⟨some x,cap,by rw [hlen],by omega,(fun h=>by cases h),c6.2 fun y hy=>?_,?_⟩
  ·obtain ⟨n,_,rfl⟩:=List.mem_map.1 hy; rfl
  ·by_cases h0:len=0
   ·left; subst h0; simp
   ·right
    obtain ⟨b,off,spot⟩:=x
    have hc:=hcell 0 (by omega)
    have SR:spot=.none:=by simpa [Addr.add] using World.cell?_spot hc
    subst SR
    refine ⟨b,off,(zs.take len).map (Value.int k),rfl,?_,noX w b,EW _,?_,?_⟩
    ·by_cases hlt:b<w.heap.size
     ·exact hlt
     ·have:w.heap[b]?=.none:=by simp; omega
      simp [World.cell?,Addr.add,this] at hc
    ·intro u hu
     obtain ⟨n,_,rfl⟩:=List.mem_map.1 hu
     exact ⟨rfl,fun y hy=>by simp [Value.cells] at hy; subst hy; rfl⟩
    ·rw [zm]
     intro j v hv
     simp only [List.getElem?_map,List.getElem?_take] at hv
     split at hv
     ·rename_i hj
      have HU:j<zs.length:=by omega
      have:=hcell j HU
      simp [HU] at hv
      have Ov:(Addr.mk b off .none).add j=Addr.mk b (off+j) .none:=by
       simp only [Addr.add]; split
       ·rename_i h; subst h; rfl
       ·rfl
      rw [Ov] at this
      rw [this,← hv]; simp [HU]
     ·cases hv
theorem VR {P:Program} {f:Nat} {args:List LV} (h:aF P f args (Mem.of []) (.bool true) (Mem.of [])) (w:World) (vs:List Value) (ha:aE (Wd w) args vs) :
  Calls P f vs.toArray w fun e w'=>e=.returned (.bool true)∧Below w.heap.size w w':=by
 refine (tm.calls h w vs ha).mono ?_
 rintro en w' ⟨⟨v,c',rfl,rfl,hv⟩,hb⟩
 simp only [ar] at hv
 subst hv
 exact ⟨rfl,hb⟩
end Go.L
