import Derived.Test.YtmollikhdbaikaaGreatZLb
import Derived.Maps.RangeRun
import Derived.Below
set_option linter.unusedVariables false
set_option linter.unusedSimpArgs false
namespace Go.L
theorem Wk.ownBxN {pr:Nat→Prop} {el:List (Nat × LV)} {ml:List (Nat × LE)} (id e k:Nat) (os:List (Nat × Nat × Nat)) (bid j:Nat) {cs cs':List LV} (hid:Mem.of ml id=.none) (hk:Nat.ble 1 k=true) (hb:Mem.of ml bid=some (.box cs)) (hj:cs[j]?=some .nil) (hcs:cs.set j (.arr id 0)=cs') (hpr:¬ pr id) :
  Wk pr (Env.of el) (Mem.of ml) (Env.of el) (((Mem.of ml).put id (.nest e k os [])).put bid (.box cs')):=by
 intro N c a hrep
 have hne:bid ≠ id:=fun h=>by rw [h,hid] at hb; cases hb
 have hB:=hrep.mem.fresh hid
 obtain ⟨c',hw,hb',h2,h3⟩:=hrep.mem.upd (pr:=pr) id (.nest e k os []) (.arr (.slice .none 0 0) k 0 []) c.w rfl rfl rfl (Nat.le_refl _) (Nat.le_refl _)
  (fun b _ _=>rfl) (fun b hb=>by simp [BE.has,Value.ownBlock] at hb) (by rw [hB]; trivial) (fun h=>absurd h hpr)
  (fun c' hw hle hble=>by
   simp only [RepE]
   exact ⟨.slice .none 0 0,[],[],rfl,Nat.le_of_ble_eq_true hk,by rw [hw]; exact World.ownsRow_nil c.w 0 e k,by simp [RepN],by simp,by simp,by simp [Value.ownBlock]⟩)
 have hb2:((Mem.of ml).put id (.nest e k os [])) bid=some (.box cs):=by simp only [Mem.put,hne,if_false]; exact hb
 obtain ⟨b,vs,e1,hBb,hh,hl,h1⟩:=cell_box h2 hb2
 have hset:∀ (cs:List LV) (vs:List Value) (j:Nat),RepL c' cs vs→cs[j]?=some .nil→RepL c' (cs.set j (.arr id 0)) vs:=by
  intro cs
  induction cs with
  | nil=>intro vs j _ h; simp at h
  | cons x xs ih =>
   intro vs j hl hj
   simp only [RepL] at hl
   obtain ⟨v,vs',rfl,hv,hl'⟩:=hl
   cases j with
   | zero =>
    simp at hj; subst hj
    simp only [RepV] at hv
    simp only [List.set_cons_zero,RepL]
    refine ⟨v,vs',rfl,?_,hl'⟩
    simp only [RepV]
    exact ⟨by rw [hv]; rfl,_,_,_,_,hb',Nat.le_refl _,fun _=>hv⟩
   | succ j =>
    simp only [List.set_cons_succ,RepL]
    exact ⟨v,vs',rfl,hv,ih vs' j hl' (by simpa using hj)⟩
 have hm2:=h2.re (cs':=cs') hb2 hBb hh (by rw [← hcs]; exact hset cs vs j hl hj) h1 (by rw [← hcs]; simp)
 exact ⟨c',hw,⟨fun i=>h3.repV (hrep.env i),hm2,hrep.size,hrep.defers⟩,h3.grow⟩
theorem RepN.split {c:Cx} {os:List (Nat × Nat × Nat)}:∀ {i:Nat} {xs:List LV} {vs:List Value} {bs:List Nat},RepN c os xs vs bs→∃ b1 b2,bs=b1++b2∧RepN c os (xs.take i) (vs.take i) b1∧RepN c os (xs.drop i) (vs.drop i) b2
 | 0,xs,vs,bs,h=>⟨[],bs,rfl,by simp [RepN],by simpa using h⟩
 | i+1,[],vs,bs,h=>by
  simp only [RepN] at h
  obtain ⟨rfl,rfl⟩:=h
  exact ⟨[],[],rfl,by simp [RepN],by simp [RepN]⟩
 | i+1,x :: xs,vs,bs,h=>by
  simp only [RepN] at h
  obtain ⟨v,vs',b1,b2,rfl,rfl,h1,h2⟩:=h
  obtain ⟨c1,c2,rfl,h3,h4⟩:=RepN.split (i:=i) h2
  refine ⟨b1++c1,c2,by simp,?_,by simpa using h4⟩
  simp only [List.take_succ_cons,RepN]
  exact ⟨v,_,b1,c1,rfl,rfl,h1,h3⟩
theorem RepN.app {c:Cx} {os:List (Nat × Nat × Nat)}:∀ {xs ys:List LV} {vs us:List Value} {b1 b2:List Nat},RepN c os xs vs b1→RepN c os ys us b2→RepN c os (xs++ys) (vs++us) (b1++b2)
 | [],ys,vs,us,b1,b2,h,h'=>by
  simp only [RepN] at h
  obtain ⟨rfl,rfl⟩:=h
  simpa using h'
 | x :: xs,ys,vs,us,b1,b2,h,h'=>by
  simp only [RepN] at h
  obtain ⟨v,vs',c1,c2,rfl,rfl,h1,h2⟩:=h
  simp only [List.cons_append,RepN]
  exact ⟨v,vs'++us,c1,c2++b2,rfl,by simp,h1,RepN.app h2 h'⟩
section
variable {P:Program} {N:Nat} {pr:Nat→Prop} {ev:Operand→LV} {m m':Mem} {d:Option Nat} {x y z:Operand} {t ty:TypeId} {pos:String} {af:Array Edge} {gd:Option (Nat × Bool)} {lv:LV} {α β:Type} {f:α→LV} {g:β→LV} {e0 k id n:Nat} {os:List (Nat × Nat × Nat)}
theorem ok_bsN {d0 kk:Nat} {el:TypeId} {cs cs':List LV} {S:List Nat} (he:telem P t=some el) (hrow:trow P el=true) (hk:tsize P el=kk) (hsm0:Nat.ble kk 16777216=true) (hx:ev x=.agg cs) (hl0:cs.length=kk) (hsc:cs.all LV.scalar=true) (hid:m id=.none) (hab:AbsC m os 0 cs cs' S) (hS:S.Nodup) (hSp:∀ j ∈ S,¬ pr j) :
  OpOkR P pr ⟨some d0,.buildSlice t 1 #[(0,x)],ty,pos,af,gd⟩ ev m (.arr id 1) (m.gone id (.nest el kk os [.agg cs']) S):=by
 subst hk
 have hsm:=Nat.le_of_ble_eq_true hsm0
 have hu:=elem_of he
 obtain ⟨i,zv,hi,hzv,hzs,hz1,hsz,hby,hts⟩:=row_of hrow
 refine OpOkR.value fun c a hev hM=>?_
 have hvx:=hev x (by simp [Op.operands])
 rw [hx] at hvx
 obtain ⟨hyl,hy1⟩:=hvx.cellsOf (by simpa [LV.cells] using hsc)
 simp only [RepV] at hvx
 obtain ⟨ws,hye,hrl⟩:=hvx
 have hwl:ws.length=i.size:=by rw [← hrl.length,hl0,hts]
 have hyc:(a.eval x).cells.size=i.size:=by rw [hye]; simp [Value.cells,hwl]
 have hfl:flat [a.eval x]=ws:=by rw [hye]; simp [flat,Value.cells]
 obtain ⟨cells,hfill,hflat⟩:∃ cells,Instr.fill (fun i'=>some (i' * i.size,i.size)) ((Array.range (1 * i.size)).map (zv.cells[· % zv.cells.size]!)) [(0,a.eval x)]=some cells∧cells.toList=flat [a.eval x]:=by
  obtain ⟨r,hr,hrs,hrk⟩:=Great.fill_dense hsz [a.eval x] 0 ((Array.range (1 * i.size)).map (zv.cells[· % zv.cells.size]!)) (fun v hv=>by simp at hv; rw [hv]; exact hyc) (by simp)
  refine ⟨r,by simpa using hr,?_⟩
  apply List.ext_getElem?
  intro j
  rw [flat_get hsz (fun v hv=>by simp at hv; rw [hv]; exact hyc),Array.getElem?_toList,hrk j]
  simp only [Nat.zero_mul,Nat.zero_le,true_and,Nat.zero_add,Nat.sub_zero,List.length_singleton]
  by_cases hj:j<1 * i.size
  ·rw [if_pos hj]
  ·rw [if_neg hj]
   have h1:¬ j / i.size<1:=fun hh=>hj ((Nat.div_lt_iff_lt_mul hsz).1 hh)
   rw [List.getElem?_eq_none (by simp; omega:[a.eval x].length≤j / i.size)]
   simp; omega
 have hcells:cells=ws.toArray:=by rw [← hfl,← hflat]
 subst hcells
 have hrun:(execOp a.eval ⟨some d0,.buildSlice t 1 #[(0,x)],ty,pos,af,gd⟩).run P c.w=.ok (.value (.slice (some ⟨c.w.heap.size,0,.none⟩) 1 1)) (c.w.alloc (.cells ws.toArray el)):=by
  have hb:=run_buildSlice (P:=P) c.w t el 1 #[(0,a.eval x)] ws.toArray i zv hu hi hzv (by rw [hts] at hsm; omega) (by omega) (by simpa using hfill)
  simp [execOp,hb]
 have hidS:id ∉ S:=fun h=>by
  obtain ⟨e,k',ys,h'⟩:=hab.ids id h
  rw [hid] at h'; cases h'
 have hSB:∀ j ∈ S,∃ u k len ins,c.B j=some (.arr u k len ins):=fun j hj=>by
  obtain ⟨e,k',ys,h'⟩:=hab.ids j hj
  have:=hM.ent j
  rw [h'] at this
  simp only [RepE] at this
  obtain ⟨u,vs,hb,_⟩:=this
  exact ⟨u,k',_,_,hb⟩
 have hold:∀ b ∈ blks c S,b<c.w.heap.size:=fun b hb=>by
  obtain ⟨j,hj,be,q1,q2⟩:=blks_has hb
  exact (hM.ent j).lt q1 q2
 have hB:=hM.fresh hid
 have hown:(c.w.alloc (.cells ws.toArray el)).ownsRow 0 el i.size (.slice (some ⟨c.w.heap.size,0,.none⟩) 1 1) 1 (flat [a.eval x]):=by
  rw [hfl]
  exact ⟨by omega,.inr ⟨c.w.heap.size,1,ws.toArray,rfl,Nat.zero_le _,heap_alloc_new c.w _,Nat.le_refl _,by
   simp only [maxLen]; omega,by simp [hwl],by rw [Nat.one_mul,← hwl]; simp⟩⟩
 obtain ⟨c',hw,hb,h2,h3⟩:=hM.updS (pr:=pr) id S hidS hSB hSp (.nest el (tsize P el) os [.agg cs']) (.arr (.slice (some ⟨c.w.heap.size,0,.none⟩) 1 1) (tsize P el) 1 (blks c S)) (c.w.alloc (.cells ws.toArray el)) rfl rfl rfl (Nat.le_refl _) (by simp)
  (fun b hb _=>hpOld c.w _ b hb)
  (fun b hb=>by
   rcases hb with hb | hb
   ·simp [Value.ownBlock] at hb; exact .inr (.inr (by omega))
   ·exact .inr (.inl (blks_has hb)))
  (by rw [hB]; trivial) (fun _ be0 h0=>by rw [hB] at h0; cases h0)
  (fun c' hw hle hble hO hown2=>by
   simp only [RepE]
   refine ⟨_,[a.eval x],blks c S,rfl,by rw [hts]; exact hsz,by rw [hw,hts]; exact hown,?_,fun v hv=>by simp at hv; subst hv; exact ⟨by rw [hyc,hts],hy1⟩,blks_nodup hM hS,fun b hb hb2=>?_⟩
   ·simp only [RepN]
    exact ⟨_,[],blks c S,[],rfl,by simp,⟨cs',ws,rfl,hye,hab.rep hM hle hrl (fun b hb=>by rw [hw]; exact hpOld c.w _ b (hold b hb))⟩,rfl,rfl⟩
   ·simp [Value.ownBlock] at hb
    have:=hold b hb2
    omega)
 refine ⟨_,c',by rw [hw]; exact hrun,?_,h2,h3⟩
 simp only [RepV]
 exact ⟨rfl,_,_,_,_,hb,Nat.le_refl _,fun _=>rfl⟩
theorem ok_insN {ff id2:Nat} {ts:Array TypeId} {xs r:List α} {z0:α} {i:Int}
  (hf : ∃ fn, P.funcs[ff]? = some fn ∧ (fn.name == "runtime.NumGoroutine") = false ∧ fn.body.isNone = false) (W : InsW P ff e0 k) (hx : ev x = .arr id xs.length) (hid : m id = some (.nest e0 k os (xs.map f))) (hy : ev y = .int .i64 i) (hz : ev z = .arr id2 1) (hid2 : m id2 = some (.nest e0 k os ([z0].map f))) (hne : id2 ≠ id) (hpr : ¬ pr id2) (hi : insF xs i z0 = some r) :
  OpOkR P pr ⟨d,.call ⟨.value (.func ff),#[x,y,z],ts⟩,ty,pos,af,gd⟩ ev m (.arr id r.length) (m.gone id (.nest e0 k os (r.map f)) [id2]):=by
 unfold insF at hi
 split at hi
 ·rename_i hb
  obtain rfl:=Option.some.inj hi
  intro c a Q hev hM
  have h1:=hev x (by simp [Op.operands,Call.operands])
  have h2:=hev y (by simp [Op.operands,Call.operands])
  have h3:=hev z (by simp [Op.operands,Call.operands])
  rw [hx] at h1; rw [hy] at h2; rw [hz] at h3
  have hent:=hM.ent id
  rw [hid] at hent
  simp only [RepE] at hent
  obtain ⟨u,vs,bs,hB,hk,hown,hn,hc,hnd,hno⟩:=hent
  have hent2:=hM.ent id2
  rw [hid2] at hent2
  simp only [RepE] at hent2
  obtain ⟨u2,zs,bz,hBz,_,hownz,hnz,hcz,hndz,hnoz⟩:=hent2
  simp only [RepV] at h1 h2 h3
  obtain ⟨_,u',k',len',ins',hB',hle',hv1⟩:=h1
  rw [hB] at hB'; cases hB'
  have hv1:=hv1 (by simp)
  obtain ⟨_,u',k',len',ins',hB',hle2',hv3⟩:=h3
  rw [hBz] at hB'; cases hB'
  have hv3:=hv3 (by simp)
  unfold Oper.wp
  rw [enterF hf a c.w]
  simp only [Oper.upon]
  have hi':a.eval y=.int .i64 ((i.toNat:Nat):Int):=by rw [h2,Int.toNat_of_nonneg hb.1]
  have e1:(#[x,y,z]:Array Operand).map a.eval=#[u,.int .i64 ((i.toNat:Nat):Int),u2]:=by simp [hi',hv1,hv3]
  rw [e1]
  have hzb:∀ b,b ∈ bz ∨ u2.ownBlock=some b→b ∉ bs∧u.ownBlock ≠ some b:=fun b hb=>⟨fun h=>hne (hM.inj id2 id _ _ b hBz hB (hb.elim .inr .inl) (.inr h)),fun h=>hne (hM.inj id2 id _ _ b hBz hB (hb.elim .inr .inl) (.inl h))⟩
  have hvl:vs.length=xs.length:=by have:=hn.length; simpa using this.symm
  have:=W u xs.length i.toNat (flat vs) u2 (flat zs) c.w (by simpa using hown) (flat_one fun v hv=>(hc v hv).2) (by omega) hb.2.2 (by simpa using hownz) (flat_one fun v hv=>(hcz v hv).2) (fun b hb1=>(hzb b (.inr hb1)).2)
  refine this.mono ?_
  rintro en w' ⟨u',rfl,hr⟩
  have e2:((xs.take i.toNat++[z0]++xs.drop i.toNat).map f).length=xs.length+1:=by simp; omega
  have e3:(xs.take i.toNat++[z0]++xs.drop i.toNat).length=xs.length+1:=by simp; omega
  obtain ⟨b1,b2,rfl,n1,n2⟩:=hn.split (i:=i.toNat)
  have hltb:∀ b,b ∈ b1++b2 ∨ b ∈ bz→b<c.w.heap.size:=fun b hb=>hb.elim (fun h=>(hM.ent id).lt hB (.inr h)) (fun h=>(hM.ent id2).lt hBz (.inr h))
  have hsame:∀ b,b ∈ b1++b2 ∨ b ∈ bz→w'.heap[b]?=c.w.heap[b]?:=fun b hb=>hr.grown.block b (hltb b hb) (fun h=>by
   rcases hb with hb | hb
   ·exact hno b h.symm hb
   ·exact (hzb b (.inl hb)).2 h.symm)
  obtain ⟨c',hw,eb,hm2,hst⟩:=hM.updS (pr:=pr) id [id2] (by simp; exact fun h=>hne h.symm) (fun j hj=>by simp at hj; subst hj; exact ⟨_,_,_,_,hBz⟩) (fun j hj=>by simp at hj; subst hj; exact hpr) (.nest e0 k os ((xs.take i.toNat++[z0]++xs.drop i.toNat).map f)) (.arr u' k (xs.length+1) (b1++bz++b2)) w' hr.grown.os hr.grown.tape hr.grown.output hr.drawn hr.grown.size
   (fun b hb hne=>hr.grown.block b hb (fun hh=>hne _ hB (.inl hh.symm)))
   (fun b hb=>by
    rcases hb with hb | hb
    ·exact (hr.blk b hb).imp (fun h=>⟨_,hB,.inl h⟩) (fun h=>.inr h)
    ·simp only [List.mem_append] at hb
     rcases hb with (h | h) | h
     ·exact .inl ⟨_,hB,.inr (by simp [h])⟩
     ·exact .inr (.inl ⟨id2,by simp,_,hBz,.inr h⟩)
     ·exact .inl ⟨_,hB,.inr (by simp [h])⟩)
   (by rw [hB]; exact ⟨_,_,_,rfl,by simp,fun h=>by simp at h⟩)
   (fun _ be0 h0=>by rw [hB] at h0; cases h0; exact ⟨_,_,_,rfl,by simp,fun h=>by simp at h⟩)
   (fun c' hw hle hble hO hown2=>by
    simp only [RepE]
    refine ⟨u',vs.take i.toNat++zs++vs.drop i.toNat,b1++bz++b2,by rw [e2],hk,?_,?_,?_,?_,?_⟩
    ·have h4:=hr.own
     rw [flat_take (fun v hv=>(hc v hv).1),flat_drop (fun v hv=>(hc v hv).1),← flat_append,← flat_append] at h4
     rw [e2,hw]; exact h4
    ·rw [List.map_append,List.map_append,List.map_take,List.map_drop]
     exact ((n1.mono hle (fun b hb=>by rw [hw]; exact hsame b (.inl (by simp [hb])))).app (hnz.mono hle (fun b hb=>by rw [hw]; exact hsame b (.inr hb)))).app (n2.mono hle (fun b hb=>by rw [hw]; exact hsame b (.inl (by simp [hb]))))
    ·intro v hv
     rcases List.mem_append.1 hv with hv | hv
     ·rcases List.mem_append.1 hv with hv | hv
      ·exact hc v (List.mem_of_mem_take hv)
      ·exact hcz v hv
     ·exact hc v (List.mem_of_mem_drop hv)
    ·have q:=List.nodup_append.1 hnd
     rw [List.append_assoc,List.nodup_append]
     refine ⟨q.1,?_,?_⟩
     ·rw [List.nodup_append]
      exact ⟨hndz,q.2.1,fun p hp p' hp' hpp=>(hzb p (.inl hp)).1 (by rw [hpp]; simp [hp'])⟩
     ·intro p hp p' hp' hpp
      rcases List.mem_append.1 hp' with h | h
      ·exact (hzb p' (.inl h)).1 (by rw [← hpp]; simp [hp])
      ·exact q.2.2 p hp p' h hpp
    ·intro b hb hbb
     have hbb':b ∈ b1++b2 ∨ b ∈ bz:=by
      simp only [List.mem_append] at hbb ⊢
      rcases hbb with (h | h) | h
      ·exact .inl (.inl h)
      ·exact .inr h
      ·exact .inl (.inr h)
     rcases hr.blk b hb with h | h
     ·rcases hbb' with q | q
      ·exact hno b h q
      ·exact (hzb b (.inl q)).2 h
     ·have:=hltb b hbb'
      omega)
  refine ⟨u',c',rfl,hw,?_,hm2,hst⟩
  rw [e3]
  simp only [RepV]
  refine ⟨?_,_,_,_,_,eb,Nat.le_refl _,fun _=>rfl⟩
  rcases hr.own.2 with ⟨rfl,_⟩ | ⟨g,cap,cur,rfl,_⟩ <;> rfl
 ·cases hi
theorem Foot.fresh {o:Oper} {ids:List Nat} {i:Nat} {le:LE} (hids:ids=[i]) (hm:m i=.none) (h:∀ m0:Mem,m0 i=.none→OpOkR P pr o ev m0 lv (m0.put i le)):Foot P pr o ev ids m lv (m.put i le):=by
 subst hids
 refine ⟨fun j hj=>by simp at hj; simp [Mem.put,hj],fun m0 hm0=>?_⟩
 have:=h m0 (by rw [hm0 i (by simp)]; exact hm)
 refine Eq.mp (congrArg _ ?_) this
 funext j
 by_cases hj:j=i <;> simp [Mem.put,hj]
theorem Foot.gone {o:Oper} {ids:List Nat} {i:Nat} {le:LE} {S:List Nat} (hids0:ids=i :: S) (h:∀ m0:Mem,(∀ j,j ∈ i :: S→m0 j=m j)→OpOkR P pr o ev m0 lv (m0.gone i le S)):Foot P pr o ev ids m lv (m.gone i le S):=by
 have hids:∀ j,j ∈ ids ↔ (j=i ∨ j ∈ S):=fun j=>by rw [hids0]; simp
 refine ⟨fun j hj=>?_,fun m0 hm0=>?_⟩
 ·rw [hids] at hj
  simp only [not_or] at hj
  simp [Mem.gone,hj.1,hj.2]
 ·refine Eq.mp (congrArg _ ?_) (h m0 (fun j hj=>hm0 j (by rw [hids0]; exact hj)))
  funext j
  by_cases hj:j ∈ ids
  ·simp only [hj,if_true]
   rw [hids] at hj
   simp only [Mem.gone]
   rcases hj with hj | hj
   ·simp [hj]
   ·by_cases h1:j=i <;> simp [h1,hj]
  ·simp only [hj,if_false]
   rw [hids] at hj
   simp only [not_or] at hj
   simp [Mem.gone,hj.1,hj.2]
end
end Go.L
set_option linter.unusedVariables false
set_option linter.unusedSimpArgs false
namespace Go.L
def optP (id n:Nat):Option Int→LV
 | .none=>.nilp
 | some j=>.eptr id n j.toNat 0
def optC {β:Type} (r:Option Int) (a:Option β) (b:Int→Option β):Option β:=match r with | .none=>a | some j=>b j
theorem optN {β:Type} {a:Option β} {b:Int→Option β} {r:β} (h:optC .none a b=some r):a=some r:=h
theorem optS {β:Type} {j:Int} {a:Option β} {b:Int→Option β} {r:β} (h:optC (some j) a b=some r):b j=some r:=h
def tptr (P:Program) (t:TypeId):Bool:=match P.underlying t with | some (.pointer _)=>true | _=>false
section
variable {P:Program} {N:Nat} {pr:Nat→Prop} {ev:Operand→LV} {m m':Mem} {d:Option Nat} {x y z:Operand} {t t' ty:TypeId} {pos:String} {af:Array Edge} {gd:Option (Nat × Bool)} {lv:LV} {α β:Type} {f:α→LV} {g:β→LV} {e0 k id n i o0:Nat} {os:List (Nat × Nat × Nat)} {xs cs:List LV}
theorem run_equalIn_ptr (w:World) (dd:Nat) (h:tptr P t=true) (p:Option Addr):(Op.equalIn (dd+1) t (.pointer p) (.pointer .none)).run P w=.ok p.isNone w:=by
 unfold tptr at h
 split at h
 ·rename_i e hu
  cases p <;> simp [Op.equalIn,run_underlying hu]
 ·cases h
theorem ok_pNN (ht:tptr P t=true) (hx:ev x=.nilp) (hy:ev y=.nilp):OpOkR P pr ⟨d,.binOp .eql t x y t',ty,pos,af,gd⟩ ev m (.bool true) m:=by
 refine OpOkR.value fun c a hev hM=>?_
 have h1:=hev x (by simp [Op.operands])
 have h2:=hev y (by simp [Op.operands])
 rw [hx] at h1; rw [hy] at h2
 simp only [RepV] at h1 h2
 have heq:=fun w=>run_equalIn_ptr (P:=P) (t:=t) w 9999 ht .none
 refine ⟨.bool true,c,?_,by simp [RepV],hM,Step.refl pr c⟩
 simp [execOp,h1,h2,eqGuard,binOp,Op.equal,Op.maxDepth,heq]
theorem ok_pEN {zz:LV} (ht:tptr P t=true) (hx:ev x=.eptr id n i o0) (hy:ev y=.nilp) (hm:m id=some (.nest e0 k os xs)) (hn:n=xs.length) (hz:xs[i]?=some zz):OpOkR P pr ⟨d,.binOp .eql t x y t',ty,pos,af,gd⟩ ev m (.bool false) m:=by
 refine OpOkR.value fun c a hev hM=>?_
 have hv:=hev x (by simp [Op.operands])
 have h2:=hev y (by simp [Op.operands])
 rw [hx] at hv; rw [hy] at h2
 simp only [RepV] at h2
 obtain ⟨gg,cap,cur,v,bs,ins,hB,_⟩:=hM.nestAt (pr:=pr) hm hz
 have he:=eptr_now hv hB hn
 have heq:=fun w p=>run_equalIn_ptr (P:=P) (t:=t) w 9999 ht (some p)
 refine ⟨.bool false,c,?_,by simp [RepV],hM,Step.refl pr c⟩
 simp [execOp,he,h2,eqGuard,binOp,Op.equal,Op.maxDepth,heq]
theorem ok_lenNe {el:Nat} {xs:List α} (he:telem P t=some el) (hx:ev x=.arr id n) (hm:m id=some (.nest e0 k os (xs.map f))) (hn:n=xs.length):OpOkR P pr ⟨d,.call ⟨.builtin .len,#[x],#[t]⟩,ty,pos,af,gd⟩ ev m (.int .i64 (n:Int)) m:=by
 refine OpOkR.value fun c a hev hM=>?_
 have hv:=hev x (by simp [Op.operands,Call.operands])
 rw [hx] at hv
 have hent:=hM.ent id
 rw [hm] at hent
 simp only [RepE] at hent
 obtain ⟨u,vs,bs,hB,hk,hown,hN,hc,hnd,hno⟩:=hent
 simp only [RepV] at hv
 obtain ⟨_,u',k',len',ins',hB',hle',hv1⟩:=hv
 rw [hB] at hB'; cases hB'
 have hv1:=hv1 (by simp [hn])
 obtain ⟨ad,cpp,hww⟩:=ownsRow_len hown
 have hu:=elem_of he
 refine ⟨.int .i64 (n:Int),c,?_,by simp [RepV],hM,Step.refl pr c⟩
 rw [hww] at hv1
 simp [execOp,resolve,invoke,builtin,Builtin.len_,hv1,hn,run_underlying hu,goInt]
theorem ok_takeLF {e' k' id2:Nat} {ys:List β} {ls:List LV} (hx:ev x=.eptr id n i o0) (hm:m id=some (.nest e0 k os (ls.set i (.agg cs)))) (hn:n=ls.length) (hz:(ls.set i (.agg cs))[i]?=some (.agg cs)) (hc:cs[o0]?=some (.lst k' (ys.map g))) (hl:os.lookup o0=some (e',k')) (hid:m id2=.none) (ht:tok P t=true) (ha:tagg P t=false) {cs':List LV} (hcs:cs.set o0 .und=cs') :
  OpOkR P pr ⟨d,.load t x,ty,pos,af,gd⟩ ev m (.arr id2 ys.length) ((m.put id (.nesth e0 k os (ls.set i (.agg cs')) i o0 id2 ys.length)).put id2 (.arr e' k' (ys.map g))):=by
 subst hcs
 have:=ok_takeL (pr:=pr) (d:=d) (ty:=ty) (pos:=pos) (af:=af) (gd:=gd) hx hm (by simpa using hn) hz hc hl hid ht ha
 rwa [List.length_map,List.set_set] at this
theorem Wk.unlinkF {e:Env} {n2 e' k' id2:Nat} {ys:List β} {ls:List LV} (hm:m id=some (.nesth e0 k os (ls.set i (.agg cs)) i o0 id2 n2)) (hz:(ls.set i (.agg cs))[i]?=some (.agg cs)) (hc:cs[o0]?=some .und) (hl:os.lookup o0=some (e',k')) (hm2:m id2=some (.arr e' k' (ys.map g))) (hn2:n2=ys.length) (hpr2:¬ pr id2) {cs':List LV} (hcs:cs.set o0 (.lst k' (ys.map g))=cs') :
  Wk pr e m e ((m.put id (.nest e0 k os (ls.set i (.agg cs')))).put id2 .dead):=by
 subst hcs
 have:=Wk.unlink (pr:=pr) (e:=e) hm hz hc hl hm2 (by simpa using hn2) hpr2
 rwa [List.set_set] at this
end
section
variable {P:Program} {pr:Nat→Prop} {ev:Operand→LV} {m:Mem} {α β:Type} [DecidableEq α] {f:α→LV} {g:β→LV}
theorem mgN {β:Type} {a k:Int} {b:β} {r:List (Int × β)} (h:(k == a)=false) (h':mget r k=.none):mget ((a,b) :: r) k=.none:=by
 have hne:¬ a=k:=fun e=>by subst e; simp at h
 simp [mget,hne,h']
theorem ok_alI {i id:Nat} {t ty:TypeId} {pos:String} {af:Array Edge} {gd:Option (Nat × Bool)} {z:LV} {cs:List LV} (d0:Nat) (hi:100+d0=id) (hz:tzero P t=some z) (hc:z.cells=cs) (hid:m id=.none):OpOk P pr ⟨some i,.alloc t,ty,pos,af,gd⟩ ev m (.ptr id 0) (m.put id (.box cs)):=by
 subst hi; subst hc
 exact ok_alloc t d0 z rfl hz hid
theorem ok_lookK {id kt vt:Nat} {t:TypeId} {d:Option Nat} {x k:Operand} {ty:TypeId} {pos:String} {af:Array Edge} {gd:Option (Nat × Bool)} {S:Value→Prop} {xs:List (α × β)} {key:α} {z:β} {o:Option β} (ht:tmap P t=some (kt,vt)) (K:KOk P kt S) (hf:KeyF f S) (hx:ev x=.mp id) (hid:m id=some (.map kt vt (mlv f g xs))) (hk:ev k=f key) (hz:tzero P vt=some (g z)) (ho:mget xs key=o) :
  OpOkR P pr ⟨d,.lookup t x k true,ty,pos,af,gd⟩ ev m (.tup [g (o.getD z),.bool o.isSome]) m:=by
 subst ho
 exact ok_lookup2 ht K hf hx hid hk hz
end
end Go.L
set_option linter.unusedVariables false
set_option linter.unusedSimpArgs false
namespace Go.L
def pickL {α:Type} (xs:List α) (es:List MapEntry) (seen:Array Nat):List α:=((xs.zip es).filter fun p=>!seen.contains p.2.born).map (·.1)
section
variable {P:Program} {N:Nat} {pr:Nat→Prop} {e:Env} {m:Mem} {α β:Type} {f:α→LV} {g:β→LV}
def LHD (P:Program) (N:Nat) (pr:Nat→Prop) (code:Code) (Q:Exit→Env→Mem→Prop) (e:Env) (m:Mem):Prop :=
 ∀ (c:Cx) (a:Act),Rep N c e m a→code.wp P (fun x a' w'=>∃ e' m',∃ c':Cx,c'.w=w'∧Rep N c' e' m' a'∧Grow pr c c'∧Q x e' m') a c.w
theorem LH.toD {code:Code} {Q:Exit→Env→Mem→Prop} (h:LH P N pr code Q e m):LHD P N pr code Q e m:=by
 obtain ⟨ex,e',m',h1,h2⟩:=h
 intro c a hr
 refine wp_mono (h1 c a hr) ?_
 rintro x a' w' ⟨rfl,c',hw,hr',hg⟩
 exact ⟨e',m',c',hw,hr',hg,h2⟩
theorem LHD.wk {code:Code} {Q:Exit→Env→Mem→Prop} {e':Env} {m':Mem} (hw:Wk pr e m e' m') (h:LHD P N pr code Q e' m'):LHD P N pr code Q e m:=by
 intro c a hr
 obtain ⟨c1,hw1,hr1,hg1⟩:=hw N c a hr
 rw [← hw1]
 refine wp_mono (h c1 a hr1) ?_
 rintro x a' w' ⟨e2,m2,c2,hw2,hr2,hg2,hq⟩
 exact ⟨e2,m2,c2,hw2,hr2,hg1.trans hg2,hq⟩
theorem LHD.seq {x y:Code} {Q:Exit→Env→Mem→Prop} (h:LHD P N pr x (thenQ (LHD P N pr y Q) Q) e m):LHD P N pr (.seq x y) Q e m:=by
 intro c a hr
 refine wp_seq (wp_mono (h c a hr) ?_)
 rintro x a' w' ⟨e',m',c',rfl,hr',hg,hq⟩
 cases x with
 | normal =>
  refine wp_mono (hq c' a' hr') ?_
  rintro x a2 w2 ⟨e2,m2,c2,hw2,hr2,hg2,hq2⟩
  exact ⟨e2,m2,c2,hw2,hr2,hg.trans hg2,hq2⟩
 | exit id=>exact ⟨e',m',c',rfl,hr',hg,hq⟩
 | goto l=>exact ⟨e',m',c',rfl,hr',hg,hq⟩
 | ret=>exact ⟨e',m',c',rfl,hr',hg,hq⟩
 | panic ch=>exact ⟨e',m',c',rfl,hr',hg,hq⟩
 | outgrown=>exact ⟨e',m',c',rfl,hr',hg,hq⟩
theorem LHD.seqT {l:List Oper} {rid:Nat} {yc:Code} {Q:Exit→Env→Mem→Prop} (el:List (Nat × LV)) (ml:List (Nat × LE)) (hd:dstsOk N l=true) (h:SOps P N pr l.toArray l (fun e m=>Wk pr e m (Env.of el) (Mem.of ml)) e m) (hr:LHD P N pr yc Q (Env.of el) (Mem.of ml)):LHD P N pr (.seq (.region rid l.toArray false) yc) Q e m :=
 LHD.seq (LH.toD (LH.loneT el ml hd h hr))
def Iter (f:α→LV) (g:β→LV) (xs:List (α × β)) (r:Nat) (left:List (α × β)) (cur:Option (α × β)) (c:Cx):Prop :=
 ∃ b since seen last es ck,c.O r∧(b<c.w.heap.size∧¬ c.own b)∧c.w.heap[r]?=some (.mapIter (some b) since seen last)∧c.w.heap[b]?=some (.map es ck)∧BornOk es ck∧(∀ x ∈ es.toList,x.born<since)∧since≤last∧since≤ck∧es.toList.length=xs.length ∧
  (∀ (j:Nat) z,xs[j]?=some z→∃ en,es.toList[j]?=some en∧RepV c (f z.1) en.key∧RepV c (g z.2) en.val)∧left=pickL xs es.toList seen ∧
  ∀ z,cur=some z→∃ (seen0:Array Nat) (en:MapEntry) (j:Nat),seen=seen0.push en.born∧last=ck∧xs[j]?=some z∧es.toList[j]?=some en
theorem Iter.grow {xs left:List (α × β)} {r:Nat} {cur:Option (α × β)} {c c':Cx} (hf:∀ z,(f z).pure=true) (hg:∀ z,(g z).pure=true) (h:Iter f g xs r left cur c) (hm:RepM c m) (hgr:Grow pr c c'):Iter f g xs r left cur c':=by
 obtain ⟨b,since,seen,last,es,ck,h1,h2,h3,h4,h5,h6,h7,h7',h8,h9,h10,h11⟩:=h
 have k:∀ q,c.O q→c'.w.heap[q]?=c.w.heap[q]?:=fun q hq=>hgr.keep q (hm.Olt q hq) fun ho=>hm.notO q ho hq
 refine ⟨b,since,seen,last,es,ck,by rw [hgr.O]; exact h1,⟨Nat.lt_of_lt_of_le h2.1 hgr.size,fun ho=>(hgr.own b ho).elim h2.2 fun hl=>absurd h2.1 (Nat.not_lt.2 hl)⟩,(k r h1).trans h3,(hgr.keep b h2.1 h2.2).trans h4,h5,h6,h7,h7',h8,fun j z hz=>?_,h10,h11⟩
 obtain ⟨en,e1,e2,e3⟩:=h9 j z hz
 exact ⟨en,e1,RepV.mono hgr.le _ _ (fun id hid=>by rw [noref_of_pure _ (hf _)] at hid; cases hid) e2,RepV.mono hgr.le _ _ (fun id hid=>by rw [noref_of_pure _ (hg _)] at hid; cases hid) e3⟩
structure GI (pr:Nat→Prop) (S:Nat→Prop) (c0 c:Cx):Prop where
 O:c.O=fun x=>c0.O x ∨ S x
 os:c.w.os=c0.w.os
 tape:c.w.tape=c0.w.tape
 output:c.w.output=c0.w.output
 drawn:c0.w.drawn≤c.w.drawn
 size:c0.w.heap.size≤c.w.heap.size
 keep:∀ b,b<c0.w.heap.size→¬ c0.own b→c.w.heap[b]?=c0.w.heap[b]?
 own:∀ b,c.own b→c0.own b ∨ c0.w.heap.size≤b
 prot:∀ id be,pr id→c0.B id=some be→∃ be',c.B id=some be'∧be.Same be'
theorem GI.grow {S:Nat→Prop} {c0 c c':Cx} (h:GI pr S c0 c) (k:Grow pr c c'):GI pr S c0 c' where
 O:=by rw [k.O,h.O]
 os:=k.os.trans h.os
 tape:=k.tape.trans h.tape
 output:=k.output.trans h.output
 drawn:=Nat.le_trans h.drawn k.drawn
 size:=Nat.le_trans h.size k.size
 keep b hb ho:=(k.keep b (Nat.lt_of_lt_of_le hb h.size) fun hc=>(h.own b hc).elim ho fun hl=>absurd hb (Nat.not_lt.2 hl)).trans (h.keep b hb ho)
 own b hb:=(k.own b hb).elim (h.own b) fun hl=>.inr (Nat.le_trans h.size hl)
 prot id be hp hb:=by
  obtain ⟨be1,h1,h2⟩:=h.prot id be hp hb
  obtain ⟨be2,h3,h4⟩:=k.prot id be1 hp h1
  exact ⟨be2,h3,h2.trans h4⟩
theorem GI.done {S:Nat→Prop} {c0 c:Cx} {a:Act} (h:GI pr S c0 c) (hr:Rep N c e m a):∃ c':Cx,c'.w=c.w∧Rep N c' e m a∧Grow pr c0 c':=by
 let c':Cx:=⟨c.w,c.B,c0.O⟩
 have hO:∀ x,c0.O x→c.O x:=fun x hx=>by rw [h.O]; exact .inl hx
 have hle:c.Le c':=⟨Nat.le_refl _,fun b _ hX=>⟨rfl,fun hX'=>hX (hX'.imp (hO b) (fun q=>q))⟩⟩
 refine ⟨c',rfl,⟨fun i=>RepV.mono hle _ _ (fun id _=>BLe.refl _) (hr.env i),⟨fun id=>RepE.mono hle (fun id=>BLe.refl _) (fun be b _ _=>rfl) (hr.mem.ent id),hr.mem.inj,fun b ho hO'=>hr.mem.notO b ho (hO b hO'),fun b hb=>hr.mem.Olt b (hO b hb)⟩,hr.size,hr.defers⟩,⟨rfl,h.os,h.tape,h.output,h.drawn,h.size,h.keep,h.own,h.prot⟩⟩
end
end Go.L
set_option linter.unusedVariables false
namespace Go.L
open Go.RowKit
abbrev cx0 (w:World):Cx:=⟨w,fun _=>.none,fun _=>False⟩
theorem rpN {c:Cx}:RepL c [] []:=by simp [RepL]
theorem rpC {c:Cx} {x:LV} {v:Value} {xs:List LV} {vs:List Value} (h:RepV c x v) (hr:RepL c xs vs):RepL c (x :: xs) (v :: vs):=by simp only [RepL]; exact ⟨v,vs,rfl,h,hr⟩
theorem rpI {c:Cx} {k:IntKind} {n:Int}:RepV c (.int k n) (.int k n):=by simp [RepV]
theorem noX (w:World) (b:Nat):¬ (cx0 w).X b:=by
 rintro (h | ⟨_,_,h,_⟩)
 ·exact h
 ·cases h
theorem repInts {c:Cx} {k:IntKind}:∀ (zs:List Int),RepL c (zs.map (LV.int k)) (zs.map (Value.int k))
 | []=>by simp [RepL]
 | z :: zs=>rpC rpI (repInts zs)
theorem flatInts {k:IntKind}:∀ (zs:List Int),flat (zs.map (Value.int k))=zs.map (Value.int k)
 | []=>rfl
 | z :: zs=>by
  have:=flatInts (k:=k) zs
  simp only [flat,List.map_cons,List.flatMap_cons,Value.cells] at this ⊢
  rw [this]; rfl
theorem rpR {k:IntKind} {w:World} {a:Option Addr} {len cap:Nat} {zs:List Int} (h:(a=.none∧len=0∧cap=0∧zs=[]) ∨ ∃ x,a=some x∧len≤cap∧cap≤maxLen∧zs.length=cap∧(∀ i,i<zs.length→w.cell? (x.add i)=some (.int k (zs.getD i 0)))∧∀ n ∈ zs,(Lit.int k n).wf=true) :
  RepV (cx0 w) (.lst 1 (List.map (LV.int k) (zs.take len))) (.slice a len cap):=by
 rcases h with ⟨rfl,rfl,rfl,rfl⟩ | ⟨x,rfl,hl,hm,hz,hcell,_⟩
 ·simp only [RepV]
  exact ⟨.none,0,rfl,Nat.le_refl _,fun _=>rfl,rfl,.inl rfl⟩
 ·simp only [RepV]
  have hlen:(List.map (LV.int k) (zs.take len)).length=len:=by simp; omega
  refine ⟨some x,cap,by rw [hlen],by omega,(fun h=>by cases h),pureL_iff.2 fun y hy=>?_,?_⟩
  ·obtain ⟨n,_,rfl⟩:=List.mem_map.1 hy; rfl
  ·by_cases h0:len=0
   ·left; subst h0; simp
   ·right
    obtain ⟨b,off,spot⟩:=x
    have hc:=hcell 0 (by omega)
    have hspot:spot=.none:=by simpa [Addr.add] using World.cell?_spot hc
    subst hspot
    refine ⟨b,off,(zs.take len).map (Value.int k),rfl,?_,noX w b,repInts _,?_,?_⟩
    ·by_cases hlt:b<w.heap.size
     ·exact hlt
     ·have:w.heap[b]?=.none:=by simp; omega
      simp [World.cell?,Addr.add,this] at hc
    ·intro u hu
     obtain ⟨n,_,rfl⟩:=List.mem_map.1 hu
     exact ⟨rfl,fun y hy=>by simp [Value.cells] at hy; subst hy; rfl⟩
    ·rw [flatInts]
     intro j v hv
     simp only [List.getElem?_map,List.getElem?_take] at hv
     split at hv
     ·rename_i hj
      have hj2:j<zs.length:=by omega
      have:=hcell j hj2
      simp [hj2] at hv
      have hadd:(Addr.mk b off .none).add j=Addr.mk b (off+j) .none:=by
       simp only [Addr.add]; split
       ·rename_i h; subst h; rfl
       ·rfl
      rw [hadd] at this
      rw [this,← hv]; simp [hj2]
     ·cases hv
theorem lawWalk {P:Program} {f:Nat} {args:List LV} (h:LCall P f args (Mem.of []) (.bool true) (Mem.of [])) (w:World) (vs:List Value) (ha:RepL (cx0 w) args vs) :
  Calls P f vs.toArray w fun e w'=>e=.returned (.bool true)∧Below w.heap.size w w':=by
 refine (PCall.calls h w vs ha).mono ?_
 rintro en w' ⟨⟨v,c',rfl,rfl,hv⟩,hb⟩
 simp only [RepV] at hv
 subst hv
 exact ⟨rfl,hb⟩
end Go.L
