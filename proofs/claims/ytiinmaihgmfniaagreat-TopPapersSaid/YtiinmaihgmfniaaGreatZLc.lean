import Derived.Test.YtiinmaihgmfniaaGreatZLb
import Derived.Shelf.Sort.Plain
import Derived.Shelf.Slices.In.SortNone
import Derived.Maps.RangeRun
import Derived.Shelf.Slices.CompactI
import Derived.Below
set_option linter.unusedVariables false
set_option linter.unusedSimpArgs false
namespace Go.L
def uz (id n:Nat):Option Int→LV
 | .none=>.nilp
 | some j=>.eptr id n j.toNat 0
def rV {β:Type} (r:Option Int) (a:Option β) (b:Int→Option β):Option β:=match r with | .none=>a | some j=>b j
theorem M1 {β:Type} {a:Option β} {b:Int→Option β} {r:β} (h:rV .none a b=some r):a=some r:=h
theorem M3 {β:Type} {j:Int} {a:Option β} {b:Int→Option β} {r:β} (h:rV (some j) a b=some r):b j=some r:=h
def NR (P:Program) (t:TypeId):Bool:=match P.underlying t with | some (.pointer _)=>true | _=>false
section
variable {P:Program} {N:Nat} {pr:Nat→Prop} {ev:Operand→LV} {m m':Mem} {d:Option Nat} {x y z:Operand} {t t' ty:TypeId} {pos:String} {af:Array Edge} {gd:Option (Nat × Bool)} {lv:LV} {α β:Type} {f:α→LV} {g:β→LV} {e0 k id n i o0:Nat} {os:List (Nat × Nat × Nat)} {xs cs:List LV}
theorem ov (w:World) (dd:Nat) (h:NR P t=true) (p:Option Addr):(Op.equalIn (dd+1) t (.pointer p) (.pointer .none)).run P w=.ok p.isNone w:=by
 unfold NR at h
 split at h
 ·rename_i e hu
  cases p <;> simp [Op.equalIn,run_underlying hu]
 ·cases h
theorem wx (ht:NR P t=true) (hx:ev x=.nilp) (hy:ev y=.nilp):bI P pr ⟨d,.binOp .eql t x y t',ty,pos,af,gd⟩ ev m (.bool true) m:=by
 refine bI.value fun c a bG hM=>?_
 have h1:=bG x (by simp [Op.operands])
 have h2:=bG y (by simp [Op.operands])
 rw [hx] at h1; rw [hy] at h2
 simp only [ao] at h1 h2
 have heq:=fun w=>ov (P:=P) (t:=t) w 9999 ht .none
 refine ⟨.bool true,c,?_,by simp [ao],hM,Step.refl pr c⟩
 simp [execOp,h1,h2,eqGuard,binOp,Op.equal,Op.maxDepth,heq]
theorem wv {zz:LV} (ht:NR P t=true) (hx:ev x=.eptr id n i o0) (hy:ev y=.nilp) (hm:m id=some (.nest e0 k os xs)) (hn:n=xs.length) (hz:xs[i]?=some zz):bI P pr ⟨d,.binOp .eql t x y t',ty,pos,af,gd⟩ ev m (.bool false) m:=by
 refine bI.value fun c a bG hM=>?_
 have hv:=bG x (by simp [Op.operands])
 have h2:=bG y (by simp [Op.operands])
 rw [hx] at hv; rw [hy] at h2
 simp only [ao] at h2
 obtain ⟨gg,cap,cur,v,bs,ins,hB,_⟩:=hM.wi (pr:=pr) hm hz
 have he:=jN hv hB hn
 have heq:=fun w p=>ov (P:=P) (t:=t) w 9999 ht (some p)
 refine ⟨.bool false,c,?_,by simp [ao],hM,Step.refl pr c⟩
 simp [execOp,he,h2,eqGuard,binOp,Op.equal,Op.maxDepth,heq]
theorem MT {el:Nat} {xs:List α} (he:telem P t=some el) (hx:ev x=.arr id n) (hm:m id=some (.nest e0 k os (xs.map f))) (hn:n=xs.length):bI P pr ⟨d,.call ⟨.builtin .len,#[x],#[t]⟩,ty,pos,af,gd⟩ ev m (.int .i64 (n:Int)) m:=by
 refine bI.value fun c a bG hM=>?_
 have hv:=bG x (by simp [Op.operands,Call.operands])
 rw [hx] at hv
 have iQ:=hM.gY id
 rw [hm] at iQ
 simp only [bo] at iQ
 obtain ⟨u,vs,bs,hB,hk,bt,hN,hc,hnd,uO⟩:=iQ
 simp only [ao] at hv
 obtain ⟨_,u',k',nh,nf,kY,Ca,jj⟩:=hv
 rw [hB] at kY; cases kY
 have jj:=jj (by simp [hn])
 obtain ⟨ad,VQ,L5⟩:=ea bt
 have hu:=gN he
 refine ⟨.int .i64 (n:Int),c,?_,by simp [ao],hM,Step.refl pr c⟩
 rw [L5] at jj
 simp [execOp,resolve,invoke,builtin,Builtin.len_,jj,hn,run_underlying hu,goInt]
theorem pY {e' k' id2:Nat} {ys:List β} {ls:List LV} (hx:ev x=.eptr id n i o0) (hm:m id=some (.nest e0 k os (ls.set i (.agg cs)))) (hn:n=ls.length) (hz:(ls.set i (.agg cs))[i]?=some (.agg cs)) (hc:cs[o0]?=some (.lst k' (ys.map g))) (hl:os.lookup o0=some (e',k')) (bX:m id2=.none) (ht:tok P t=true) (ha:tagg P t=false) {eA:List LV} (hcs:cs.set o0 .fp=eA) :
  bI P pr ⟨d,.load t x,ty,pos,af,gd⟩ ev m (.arr id2 ys.length) ((m.put id (.dm e0 k os (ls.set i (.agg eA)) i o0 id2 ys.length)).put id2 (.arr e' k' (ys.map g))):=by
 subst hcs
 have:=MZ (pr:=pr) (d:=d) (ty:=ty) (pos:=pos) (af:=af) (gd:=gd) hx hm (by simpa using hn) hz hc hl bX ht ha
 rwa [List.length_map,List.set_set] at this
theorem Wk.u3 {e:Env} {n2 e' k' id2:Nat} {ys:List β} {ls:List LV} (hm:m id=some (.dm e0 k os (ls.set i (.agg cs)) i o0 id2 n2)) (hz:(ls.set i (.agg cs))[i]?=some (.agg cs)) (hc:cs[o0]?=some .fp) (hl:os.lookup o0=some (e',k')) (mE:m id2=some (.arr e' k' (ys.map g))) (OX:n2=ys.length) (vQ:¬ pr id2) {eA:List LV} (hcs:cs.set o0 (.lst k' (ys.map g))=eA) :
  Wk pr e m e ((m.put id (.nest e0 k os (ls.set i (.agg eA)))).put id2 .dead):=by
 subst hcs
 have:=Wk.unlink (pr:=pr) (e:=e) hm hz hc hl mE (by simpa using OX) vQ
 rwa [List.set_set] at this
end
section
variable {P:Program} {pr:Nat→Prop} {ev:Operand→LV} {m:Mem} {α β:Type} [DecidableEq α] {f:α→LV} {g:β→LV}
theorem Vo {β:Type} {a k:Int} {b:β} {r:List (Int × β)} (h:(k == a)=false) (h':eR r k=.none):eR ((a,b) :: r) k=.none:=by
 have eO:¬ a=k:=fun e=>by subst e; simp at h
 simp [eR,eO,h']
theorem j8 {i id:Nat} {t ty:TypeId} {pos:String} {af:Array Edge} {gd:Option (Nat × Bool)} {z:LV} {cs:List LV} (d0:Nat) (hi:100+d0=id) (hz:tzero P t=some z) (hc:z.cells=cs) (bX:m id=.none):cj P pr ⟨some i,.alloc t,ty,pos,af,gd⟩ ev m (.ptr id 0) (m.put id (.box cs)):=by
 subst hi; subst hc
 exact Cv t d0 z rfl hz bX
theorem k8 {id kt vt:Nat} {t:TypeId} {d:Option Nat} {x k:Operand} {ty:TypeId} {pos:String} {af:Array Edge} {gd:Option (Nat × Bool)} {S:Value→Prop} {xs:List (α × β)} {key:α} {z:β} {o:Option β} (ht:uI P t=some (kt,vt)) (K:Ox P kt S) (hf:Ae f S) (hx:ev x=.mp id) (bX:m id=some (.map kt vt (mv f g xs))) (hk:ev k=f key) (hz:tzero P vt=some (g z)) (ho:eR xs key=o) :
  bI P pr ⟨d,.lookup t x k true,ty,pos,af,gd⟩ ev m (.tup [g (o.getD z),.bool o.isSome]) m:=by
 subst ho
 exact qT ht K hf hx bX hk hz
end
end Go.L
namespace Go.L
section
variable {P:Program} {pr:Nat→Prop} {ev:Operand→LV} {m:Mem} {d:Option Nat} {x y:Operand} {t t' ty:TypeId} {pos:String} {af:Array Edge} {gd:Option (Nat × Bool)} {k:IntKind} {u w:Int}
end
end Go.L
namespace Go.L
section
variable {P:Program} {N:Nat} {pr:Nat→Prop} {ev:Operand→LV} {m m1 m':Mem} {d:Option Nat} {x y z:Operand} {t t' ty:TypeId} {pos:String} {af:Array Edge} {gd:Option (Nat × Bool)} {lv:LV} {α β:Type} {f:α→LV} {g:β→LV} {e0 k id n i o0:Nat} {os:List (Nat × Nat × Nat)} {xs cs:List LV}
abbrev R7 (l:List Int):LV:=.agg [.L l]
def Es (x n:Int):Option (List Int):=if 0≤n∧n≤1000000 then some (List.replicate n.toNat x) else .none
theorem eo {f : Nat} {KR args ew : List LV} {xs : List Operand} {ts : Array TypeId} {ml eD : List (Nat × LE)} (hx : ev x = .fn f KR) (hf : ∃ fn, P.funcs[f]? = some fn ∧ (fn.name == "runtime.NumGoroutine") = false ∧ fn.body.isNone = false) (ha : xs.map ev ++ KR = args) (hs : fc args ew) (hc : aF P f ew (Mem.of ml) lv (Mem.of eD)) (hm : kc m ml) (oG : ∀ p ∈ eD, (ml.any fun q => q.1 == p.1) = true ∨ m p.1 = .none) (hr : aQ (args.map fun x => (0, x)) ml = true) :
  bI P pr ⟨d,.call ⟨.value x,xs.toArray,ts⟩,ty,pos,af,gd⟩ ev m lv (m.over (Mem.of eD)):=by
 subst ha
 obtain ⟨lv0,mc,jb,lI,h1,h2,h3,h4,hK⟩:=aF.Ql (K:=fun l mm=>l=lv∧mm=m.over (Mem.of eD)) (hc.sub hs) hm oG hr ⟨rfl,rfl⟩
 obtain ⟨rfl,hmm⟩:=hK
 obtain ⟨fn,hf,vN,o7⟩:=hf
 intro c a Q bG hM
 have hv:=bG x (by simp [Op.operands,Call.operands])
 rw [hx] at hv
 simp only [ao] at hv
 obtain ⟨us,he,hl⟩:=hv
 have Bm:aD c (xs.map ev) (xs.map a.eval):=aD.of (by simp) fun j p q hp hq=>by
  simp only [List.getElem?_map,Option.map_eq_some_iff] at hp hq
  obtain ⟨z,hz,rfl⟩:=hp
  obtain ⟨z',Th,rfl⟩:=hq
  rw [hz] at Th; cases Th
  exact bG z (by simp [Op.operands,Call.operands,List.mem_of_getElem? hz])
 have dD:(execOp a.eval ⟨d,.call ⟨.value x,xs.toArray,ts⟩,ty,pos,af,gd⟩).run P c.w=.ok (.enter f (xs.map a.eval++us).toArray) c.w:=by
  have e1:Array.map a.eval xs.toArray++us.toArray=(xs.map a.eval++us).toArray:=by
   apply Array.ext'; simp
  have qH : ¬ fn.name = "runtime.NumGoroutine" := by simpa using vN
  have qD:¬ fn.body=.none:=fun hn=>by rw [hn] at o7; cases o7
  simp [execOp,resolve,Deferred.ofValue,he,invoke,callFunc,hf,qH,qD,e1]
 unfold Oper.wp
 rw [dD]
 simp only [Oper.upon]
 refine (lI.frame (m:=m) h1 h2 h3 h4 pr c _ hM (Bm.append hl)).mono ?_
 rintro en w' ⟨v,c',rfl,rfl,kh,uR,hs⟩
 rw [hmm] at kh
 exact ⟨v,c',rfl,rfl,uR,kh,hs⟩
theorem Pt {x y:Operand} {t ty:TypeId} {pos:String} {af:Array Edge} {g:Option (Nat × Bool)} {d e0 k id:Nat} {z:LV} {n:Int} (mH:telem P t=some e0) (hz:tzero P e0=some z) (nI:fP P e0=true) (hs:tsize P e0=k) (hx:ev x=.int .i64 n) (hy:ev y=.int .i64 n) (h0:0≤n) (hb:n≤549755813888) (bX:m id=.none) (hp:z.pure=true) :
  bI P pr ⟨some d,.makeSlice t x y,ty,pos,af,g⟩ ev m (.arr id n.toNat) (m.put id (.arr e0 k (List.replicate n.toNat z))):=by
 have hu:=gN mH
 obtain ⟨i,zv,hi,FX,Bo,Bn,fE,Qr,uQ⟩:=tm nI
 subst hs
 refine bI.value fun c a bG hm=>?_
 have rK:=bG x (by simp [Op.operands])
 have qL:=bG y (by simp [Op.operands])
 rw [hx] at rK
 rw [hy] at qL
 simp only [ao] at rK qL
 have hzz:Ki zv=z:=by
  simp only [tzero,hi,FX] at hz
  split at hz
  ·simpa using hz
  ·cases hz
 have Fy:(i.bytes:Int) * n≤281474976710656:=by
  have h1:(i.bytes:Int) * n≤256 * n:=Int.mul_le_mul_of_nonneg_right (by omega) h0
  omega
 have dD:=run_make (P:=P) c.w t e0 i zv hu hi FX .i64 .i64 n n h0 (Int.le_refl _) Fy (by omega)
 have hB:=hm.fresh bX
 have nH:(madeCells zv.cells (n.toNat * i.size)).toList=flat (List.replicate n.toNat zv):=by
  apply List.ext_getElem?
  intro j
  rw [flat_get fE (fun v hv=>by rw [List.eq_of_mem_replicate hv]; exact Bo)]
  simp only [Array.getElem?_toList,madeCells,Array.getElem?_map,Array.getElem?_range,List.getElem?_replicate,Bo]
  by_cases hj:j<n.toNat * i.size
  ·have h1:j / i.size<n.toNat:=(Nat.div_lt_iff_lt_mul fE).2 hj
   have h2:j % i.size<zv.cells.size:=by rw [Bo]; exact Nat.mod_lt _ fE
   rw [if_pos hj,if_pos h1]
   simp [h2]
  ·have h1:¬ j / i.size<n.toNat:=fun hh=>hj ((Nat.div_lt_iff_lt_mul fE).1 hh)
   rw [if_neg hj,if_neg h1]
   rfl
 have iM:(madeCells zv.cells (n.toNat * i.size)).size=n.toNat * i.size:=size_madeCells _ _
 obtain ⟨c',hw,jP,h2,h3⟩:=hm.Bw (pr:=pr) id (.arr e0 (tsize P e0) (List.replicate n.toNat z)) (.arr (.slice (some ⟨c.w.heap.size,0,.none⟩) n.toNat n.toNat) (tsize P e0) n.toNat [])
  (c.w.alloc (.cells (madeCells zv.cells (n.toNat * i.size)) e0)) rfl rfl rfl (Nat.le_refl _) (by simp)
  (fun b jP _=>rG c.w _ b jP) (fun b jP=>by simp [BE.has,Value.ownBlock] at jP; exact .inr (by omega)) (by rw [hB]; trivial) (fun _ dA h0=>by rw [hB] at h0; cases h0)
  (fun c' hw hle hble=>by
   simp only [bo,uQ,List.length_replicate]
   refine ⟨_,List.replicate n.toNat zv,rfl,fE,⟨by rw [eS (k:=i.size) (fun v hv=>by rw [List.eq_of_mem_replicate hv]; exact Bo)]; simp,.inr ⟨c.w.heap.size,n.toNat,_,rfl,Nat.zero_le _,by rw [hw]; exact heap_alloc_new c.w _,Nat.le_refl _,by simp only [maxLen]; omega,iM,?_⟩⟩,?_,?_,?_⟩
   ·rw [List.take_of_length_le (by rw [Array.length_toList,iM]; exact Nat.le_refl _),nH]
   ·refine aD.of (by simp) fun j q r hq hr=>?_
    rw [List.getElem?_replicate] at hq hr
    split at hq
    ·rename_i hj
     rw [if_pos hj] at hr
     cases hq; cases hr; rw [← hzz]; exact pz c' zv
    ·cases hq
   ·intro v hv
    rw [List.eq_of_mem_replicate hv]
    exact ⟨Bo,Bn⟩
   ·refine dg.2 fun q hq=>?_
    rw [List.eq_of_mem_replicate hq]; exact hp)
 refine ⟨.slice (some ⟨c.w.heap.size,0,.none⟩) n.toNat n.toNat,c',by rw [hw]; simp [execOp,rK,qL,dD],?_,h2,h3⟩
 simp only [ao]
 exact ⟨rfl,_,_,_,_,jP,Nat.le_refl _,fun _=>rfl⟩
theorem MV {d1:Nat} {z:α} {zc:LV} {v:List α} {u:Int} (mH:telem P t=some e0) (hz:tzero P e0=some zc) (nI:fP P e0=true) (hs:tsize P e0=k) (hx:ev x=.int .i64 u) (hy:ev y=.int .i64 u) (hfz:zc=f z) (hv:yo z u=some v) (bX:m id=.none) (hp:zc.pure=true) :
  bI P pr ⟨some d1,.makeSlice t x y,ty,pos,af,gd⟩ ev m (.arr id v.length) (m.put id (.arr e0 k (v.map f))):=by
 unfold yo at hv
 split at hv
 ·rename_i hb
  cases hv
  have:=Pt (pr:=pr) (ty:=ty) (pos:=pos) (af:=af) (g:=gd) (d:=d1) mH hz nI hs hx hy hb.1 hb.2 bX hp
  rw [List.length_replicate,List.map_replicate,← hfz]; exact this
 ·cases hv
theorem Wk.ZF {el:List (Nat × LV)} {ml:List (Nat × LE)} (pI j:Nat) {cs eA:List LV} (hb:Mem.of ml pI=some (.box cs)) (hcs:cs.set j .fp=eA) :
  Wk pr (Env.of el) (Mem.of ml) (Env.of el) ((Mem.of ml).put pI (.box eA)):=by
 subst hcs
 intro N c a cn
 refine ⟨c,rfl,⟨cn.env,⟨fun i=>?_,cn.mem.inj,cn.mem.kB,cn.mem.xR⟩,cn.size,cn.defers⟩,Grow.refl pr c⟩
 by_cases hi:i=pI
 ·subst hi
  have he:=cn.mem.gY i
  rw [hb] at he
  simp only [Mem.put,if_true]
  simp only [bo] at he ⊢
  obtain ⟨b,vs,e,h1,h2,h3,h4⟩:=he
  refine ⟨b,vs,e,by rw [h1,List.length_set],h2,?_,h4⟩
  refine aD.of (by rw [List.length_set]; exact h3.length) fun q x v hx hv=>?_
  rw [List.getElem?_set] at hx
  split at hx
  ·split at hx
   ·cases hx; simp only [ao]
   ·cases hx
  ·obtain ⟨w,hw,hr⟩:=h3.get hx
   rw [hv] at hw; cases hw; exact hr
 ·simp only [Mem.put,hi,if_false]; exact cn.mem.gY i
theorem oW.Uv {o:Oper} {ids:List Nat} {j:Nat} {le:LE} (FE:ids=[j]) (h:∀ m0:Mem,m0 j=m j→bI P pr o ev m0 lv (m0.put j le)):oW P pr o ev ids m lv (m.put j le):=by
 subst FE
 refine ⟨fun q hq=>by simp at hq; simp [Mem.put,hq],fun m0 qG=>?_⟩
 refine Eq.mp (congrArg _ ?_) (h m0 (qG j (by simp)))
 funext q
 by_cases hq:q=j <;> simp [Mem.put,hq]
theorem AM {j el kk:Nat} {xs ys r:List α} (he:telem P t=some el) (hr:fP P el=true) (hs:tsize P el=kk) (hx:ev x=.arr id xs.length) (hm:m id=some (.arr el kk (xs.map f))) (hp:¬ pr id) (hy:ev y=.lst kk (ys.map f)) (hl:app xs ys=some r) :
  cj P pr ⟨some j,.call ⟨.builtin .append,#[x,y],#[t,t]⟩,ty,pos,af,gd⟩ ev m (.arr id r.length) (m.put id (.arr el kk (r.map f))):=by
 obtain ⟨lv,m',⟨rfl,rfl⟩,h⟩:=kM (ro:=[]) (K:=fun lv m'=>lv=.arr id r.length∧m'=m.put id (.arr el kk (r.map f))) (P:=P) (pr:=pr) (o:=⟨some j,.call ⟨.builtin .append,#[x,y],#[t,t]⟩,ty,pos,af,gd⟩) (ev:=ev) (m:=m)
  (oN (f:=f) he hr hs hx hm hp hy hl ⟨rfl,rfl⟩)
 exact h
end
end Go.L
namespace Go.L
open Go.Sort Go.Proofs Go.Shelf Go.Lib
def xl (xs:List Int):Option (List Int):=if xs.length<1000000 then some (xs.mergeSort fun x y=>decide (x≤y)) else .none
theorem zO {xs r:List Int} (h:xl xs=some r):xs.length=r.length:=by
 unfold xl at h
 split at h
 ·cases h; simp
 ·cases h
theorem NI {P:Program} {ρ:Ren} (L:Lays.n189 P ρ) {f:Nat} (hf:ρ.f 189=f) {xs ys:List Int} (id e:Nat) (h:xl xs=some ys) :
  aF P f [.arr id xs.length] (Mem.of [(id,.arr e 1 (xs.map (LV.int .i64)))]) (.tup []) (Mem.of [(id,.arr e 1 (ys.map (LV.int .i64)))]):=by
 subst hf
 have E1:=(zO h).symm
 unfold xl at h
 split at h
 case isFalse=>cases h
 rename_i hlen
 have Vj:(xs.mergeSort fun x y=>decide (x≤y))=ys:=Option.some.inj h
 intro c vs hm ha
 simp only [aD] at ha
 obtain ⟨v0,vs1,rfl,QH,rfl⟩:=ha
 obtain ⟨us,hB,hk,bt,hl,hc,hp⟩:=gi (e:=e) (k:=1) (xs:=xs.map fun x=>LV.int .i64 x) hm QH (by simp [Mem.of]) (by simp)
 have E0:=nN (fun x:Int=>x) hl
 subst E0
 rw [iL (fun x:Int=>x)] at bt
 have Cb:(xs.map fun x=>LV.int .i64 x).length=xs.length:=by simp
 rw [Cb] at bt hB
 by_cases Oe:xs=[]
 ·subst Oe
  have Xf:ys=[]:=by rw [← Vj]; exact List.mergeSort_nil
  subst Xf
  obtain ⟨ad,cp,rfl⟩:=ea bt
  refine (Any.slices_Sort_int_none L ad cp c.w).mono ?_
  rintro Qn w' ⟨rfl,rfl⟩
  exact ⟨_,c,rfl,rfl,hm,by simp only [ao,aD]; exact ⟨[],rfl,rfl⟩,Grow.refl _ c⟩
 ·have vZ : 0 < xs.length := List.length_pos_iff.2 Oe
  rcases bt.2 with ⟨rfl,h0⟩ | ⟨jK,cp,cur,rfl,_,hg,mG,hcm,hcs,uP⟩
  ·omega
  ·have hblk : jK < c.w.heap.size := (Array.getElem?_eq_some_iff.1 hg).1
   have FA:∀ j,j<xs.length→cur[j]?=some (.int .i64 xs[j]!):=by
    intro j hj
    have h1:=congrArg (fun l=>l[j]?) uP
    simp only [List.getElem?_take,Nat.mul_one,List.getElem?_map] at h1
    rw [if_pos hj] at h1
    rw [← Array.getElem?_toList,h1]
    simp [hj]
   have hH:Holds (Value.int .i64) c.w jK 0 xs.toArray:=by
    intro j hj
    have Bh:j<xs.length:=by simpa using hj
    constructor
    ·simp [World.cell?,hg,FA j Bh]
    ·simp [World.frozen?,hg]
   refine (Any.slices_Sort_int L jK 0 cp xs c.w hH hblk (by omega)).mono ?_
   rintro Qn w' ⟨rfl,q,os,rfl⟩
   rw [Vj]
   show ∃ (v:Value) (c':Cx),_∧c'.w=sortWorld (Value.int .i64) c.w jK 0 q ys.toArray os∧_
   obtain ⟨s1,s2,s3,s4,s5⟩:=NN (Value.int .i64) c.w jK q ys.toArray os
   have Wq:=A7 (Value.int .i64) c.w jK q ys.toArray os
   have Si:=RB (Value.int .i64) c.w jK q ys.toArray os hg
   obtain ⟨c',Kc,kY,kh,oH⟩:=hm.Bw (pr:=fun i=>Mem.of [(id,LE.arr e 1 (xs.map (LV.int .i64)))] i ≠ .none) id (.arr e 1 (ys.map (LV.int .i64))) _ (sortWorld (Value.int .i64) c.w jK 0 q ys.toArray os) s1 s2 s3 s4 s5 
    (fun b hb hn=>Wq b hb fun h=>hn _ hB (by rw [h]; simp [BE.has,Value.ownBlock]))
    (fun b hb=>.inl ⟨_,hB,hb⟩) (by rw [hB]; exact jy.refl _) (fun _ dA h=>by rw [hB] at h; cases h; exact .refl _) (by
     intro c1 hc1 FG hBl
     simp only [bo]
     refine ⟨_,ys.map fun x=>Value.int .i64 x,by simp only [List.length_map,E1]; rfl,by decide,?_,pw (fun x:Int=>x) ys,?_,?_⟩
     ·rw [iL (fun x:Int=>x),List.length_map,E1,hc1]
      refine ⟨by simp [E1],.inr ⟨jK,cp,_,rfl,Nat.zero_le _,Si,mG,hcm,?_,?_⟩⟩
      ·simpa [putCells] using hcs
      ·apply List.ext_getElem?
       intro j
       have We:cur.size=cp:=by simpa using hcs
       by_cases hj:j<xs.length
       ·have hj3:j<ys.length:=by omega
        rw [List.getElem?_take,if_pos (by omega),Array.getElem?_toList]
        simp only [putCells,Array.getElem?_mapIdx,Nat.zero_le,Nat.zero_add,Nat.sub_zero,true_and]
        rw [Array.getElem?_eq_getElem (by omega)]
        simp [hj3]
       ·rw [List.getElem?_take,if_neg (by omega),List.getElem?_eq_none (by simp; omega)]
     ·intro v hv
      obtain ⟨y,_,rfl⟩:=List.mem_map.1 hv
      exact ⟨rfl,fun z hz=>by simp [Value.cells] at hz; subst hz; rfl⟩
     ·exact nm (fun x:Int=>x) ys)
   refine ⟨_,c',rfl,Kc,?_,by simp only [ao,aD]; exact ⟨[],rfl,rfl⟩,oH.grow⟩
   have Jd:Mem.put (Mem.of [(id,LE.arr e 1 (xs.map (LV.int .i64)))]) id (.arr e 1 (ys.map (LV.int .i64)))=Mem.of [(id,LE.arr e 1 (ys.map (LV.int .i64)))]:=by
    funext i
    by_cases hi:i=id
    ·subst hi; simp [Mem.put,Mem.of]
    ·simp [Mem.put,Mem.of,hi]
   rwa [Jd] at kh
end Go.L
namespace Go.L
section
variable {P:Program} {N:Nat} {pr:Nat→Prop} {ev:Operand→LV} {m m1 m':Mem} {o:Oper}
theorem oY.val {id k n e0:Nat} {ys:List LV} (kA:¬ pr id) (j3:HB id m)
  (W:∀ (c:Cx) (a:Act),(∀ x,ao c (ev x) (a.eval x))→cA c m→∃ u u' fD,c.B id=some (.arr u k n [])∧(execOp a.eval o).run P c.w=.ok (.value u') c.w∧mJ c.w c.w e0 k u u' ys.length (flat fD)∧aD c ys fD∧(∀ v ∈ fD,v.cells.size=k∧∀ y ∈ v.cells,y.oneCell'=true)∧LV.bf ys=true∧0<k) :
  oY P pr id o ev m (.arr id ys.length) (m.put id (.arr e0 k ys)):=by
 intro c a Q bG hm
 obtain ⟨u,u',fD,hB,dD,h,hl,hc,hp,hk⟩:=W c a bG hm
 unfold Oper.wp
 rw [dD]
 simp only [Oper.upon]
 obtain ⟨c',hw,hb,h2,h3,h4⟩:=hm.ZG (pr:=pr) id (.arr e0 k ys) (.arr u' k ys.length []) c.w h.grown.os h.grown.tape h.grown.output h.drawn h.grown.size
  (fun b hb eO=>h.grown.block b hb (fun hh=>eO _ hB (.inl hh.symm)))
  (fun b hb=>hb.elim (fun hb=>(h.jK b hb).imp (fun hh=>⟨_,hB,.inl hh⟩) (fun hh=>hh)) (fun hh=>by cases hh)) kA j3
  (fun c' hw hle=>by
   simp only [bo]
   exact ⟨u',fD,rfl,hk,by rw [hw]; exact h.own,aD.mono hle _ _ (fun j hj=>by rw [az _ hp] at hj; cases hj) hl,hc,hp⟩)
 refine ⟨u',c',rfl,hw,?_,h2,h3,h4⟩
 simp only [ao]
 refine ⟨?_,_,_,_,_,hb,Nat.le_refl _,fun _=>rfl⟩
 rcases h.own.2 with ⟨rfl,_⟩ | ⟨g,cap,cur,rfl,_⟩ <;> rfl
def KW {α:Type} (xs:List α) (n:Int):Option (List α):=if 0≤n∧n≤xs.length then some (xs.take n.toNat) else .none
theorem Uj {t ty el e0 kk id:Nat} {x z:Operand} {d:Option Nat} {pos:String} {af:Array Edge} {gd:Option (Nat × Bool)} {α:Type} {g:α→LV} {xs r:List α} {n:Int}
  (he:telem P t=some el) (hk:tok P el=true) (hx:ev x=.arr id xs.length) (bX:m id=some (.arr e0 kk (xs.map g))) (hz:ev z=.int .i64 n) (kA:¬ pr id) (j3:HB id m) (hi:KW xs n=some r) :
  oY P pr id ⟨d,.slice t x .none (some z) .none,ty,pos,af,gd⟩ ev m (.arr id r.length) (m.put id (.arr e0 kk (r.map g))):=by
 have hu:=gN he
 unfold KW at hi
 split at hi
 ·rename_i hb
  obtain rfl:=Option.some.inj hi
  obtain ⟨j,rfl⟩:=Int.eq_ofNat_of_zero_le hb.1
  have hj:j≤xs.length:=by omega
  simp only [Int.toNat_natCast]
  have hlen:((xs.take j).map g).length=j:=by simp; omega
  have QC:(xs.take j).length=j:=by simp; omega
  have key:oY P pr id ⟨d,.slice t x .none (some z) .none,ty,pos,af,gd⟩ ev m (.arr id ((xs.take j).map g).length) (m.put id (.arr e0 kk ((xs.take j).map g))):=by
   refine oY.val (n:=xs.length) kA j3 fun c a bG hm=>?_
   have h1:=bG x
   have h3:=bG z
   rw [hx] at h1; rw [hz] at h3
   obtain ⟨vs,hB,Lu,bt,hl,hc,hp⟩:=gi hm h1 bX (by simp)
   simp only [ao] at h3
   rw [List.length_map] at hB bt
   unfold tok at hk
   cases Ax:P.info? el with
   | none=>simp [Ax] at hk
   | some ie =>
   have pg:vs.length=xs.length:=by have:=hl.length; simpa using this.symm
   have hft:(flat vs).take (j * kk)=flat (vs.take j):=sS (fun v hv=>(hc v hv).1) j
   have QE:LV.bf ((xs.take j).map g)=true:=dg.2 fun q hq=>dg.1 hp q (by
    rw [List.map_take] at hq; exact List.mem_of_mem_take hq)
   have hlt:aD c ((xs.take j).map g) (vs.take j):=by rw [List.map_take]; exact hl.take j
   have hct:∀ v ∈ vs.take j,v.cells.size=kk∧∀ y ∈ v.cells,y.oneCell'=true:=fun v hv=>hc v (List.mem_of_mem_take hv)
   rcases bt.2 with ⟨hv,h0⟩ | ⟨b,cap,cur,hv,hbs,hg,mG,hcm,hcs,uP⟩
   ·have hj0:j=0:=by omega
    subst hj0
    refine ⟨a.eval x,.slice .none 0 0,vs.take 0,hB,?_,?_,hlt,hct,QE,Lu⟩
    ·simp [execOp,hv,Instr.sliceAt,run_underlying hu,Instr.slice,Instr.sliceBounds,Instr.sliceBound,asIntOf,sizeOf,typeInfo,Ax,h3]
    ·refine ⟨?_,⟨rfl,rfl,rfl,Nat.le_refl _,fun _ _ _=>rfl⟩,fun b hb=>by simp [Value.ownBlock] at hb,Nat.le_refl _⟩
     rw [hlen]
     simpa [flat] using World.ownsRow_nil c.w 0 e0 kk
   ·refine ⟨a.eval x,.slice (some ⟨b,0,.none⟩) j cap,vs.take j,hB,?_,?_,hlt,hct,QE,Lu⟩
    ·have g1:(Instr.sliceBounds true xs.length cap .none (some (a.eval z)) .none).run P c.w=.ok (0,j,cap) c.w:=by
      simp [Instr.sliceBounds,Instr.sliceBound,asIntOf,h3]; omega
     have Se:(⟨b,0,.none⟩:Addr).add 0=⟨b,0,.none⟩:=by simp [Addr.add]
     simp [execOp,hv,Instr.sliceAt,run_underlying hu,Instr.slice,g1,sizeOf,typeInfo,Ax,Se]
    ·refine ⟨?_,⟨rfl,rfl,rfl,Nat.le_refl _,fun _ _ _=>rfl⟩,fun q hq=>.inl (by rw [hv]; exact hq),Nat.le_refl _⟩
     rw [hlen,← hft]
     have Bf:=bt.1
     refine ⟨?_,.inr ⟨b,cap,cur,rfl,hbs,hg,by omega,hcm,hcs,?_⟩⟩
     ·rw [List.length_take,Bf]
      exact Nat.min_eq_left (Nat.mul_le_mul_right _ hj)
     ·rw [← uP,List.take_take]
      congr 1
      exact (Nat.min_eq_left (Nat.mul_le_mul_right _ hj)).symm
  rw [hlen] at key
  rw [QC]
  exact key
 ·cases hi
end
end Go.L
namespace Go.L
theorem jy.same {be:BE} {y:Option BE} (h:jy (some be) y):∃ ef,y=some ef∧be.jX ef:=by
 cases be with
 | box b n=>exact ⟨_,h,rfl⟩
 | arr u k len ins=>obtain ⟨u',nh,nf,h1,h2,h3⟩:=h; exact ⟨_,h1,_,_,_,rfl,h2,h3⟩
 | mp b=>exact ⟨_,h,rfl⟩
theorem Step.any {pr pr':Nat→Prop} {c c':Cx} (h:Step pr c c'):Step pr' c c' :=
 ⟨⟨h.grow.O,h.grow.os,h.grow.tape,h.grow.output,h.grow.drawn,h.grow.size,h.grow.keep,h.grow.own,fun id be _ hb=>by
  have:=h.ble id
  rw [hb] at this
  exact this.same⟩,h.ble⟩
section
variable {P:Program} {pr pr':Nat→Prop} {ev:Operand→LV} {m m':Mem} {o:Oper} {x y:Operand} {t ty:TypeId} {pos:String} {af:Array Edge} {gd:Option (Nat × Bool)} {lv:LV} {α:Type} {f:α→LV} {id:Nat}
theorem cj.any (h:cj P pr o ev m lv m'):cj P pr' o ev m lv m':=by
 intro c a Q bG hM
 refine Oper.wp_mono ?_ (h c a Q bG hM)
 rintro a' w' ⟨v,c',h1,h2,h3,h4,h5⟩
 exact ⟨v,c',h1,h2,h3,h4,h5.any⟩
theorem wu {j el kk:Nat} {xs ys r:List α} (he:telem P t=some el) (hr:fP P el=true) (hs:tsize P el=kk) (hx:ev x=.arr id xs.length) (hm:m id=some (.arr el kk (xs.map f))) (hy:ev y=.lst kk (ys.map f)) (hl:app xs ys=some r) :
  cj P pr ⟨some j,.call ⟨.builtin .append,#[x,y],#[t,t]⟩,ty,pos,af,gd⟩ ev m (.arr id r.length) (m.put id (.arr el kk (r.map f))) :=
 (AM (pr:=fun _=>False) he hr hs hx hm (fun h=>h) hy hl).any
end
end Go.L
namespace Go.L
theorem bo.XT {c c':Cx} (hle:c.Le c') {x:Option LE} (hB:∀ le,x=some le→∀ j,le.jh j=false→jy (c.B j) (c'.B j)) {y:Option BE} (hh:∀ be b,y=some be→be.has b→c'.w.heap[b]?=c.w.heap[b]?) (h:bo c x y):bo c' x y:=by
 match x with
 | .none=>simpa only [bo] using h
 | some (.box cs) =>
  simp only [bo] at h ⊢
  obtain ⟨b,vs,e,rfl,h1,h2,h3⟩:=h
  exact ⟨b,vs,e,rfl,(hh _ b rfl rfl).trans h1,aD.mono hle cs vs (fun id bX=>hB _ rfl id bX) h2,h3⟩
 | some (.arr e k xs) =>
  simp only [bo] at h ⊢
  obtain ⟨u,vs,rfl,h0,h1,h2,h3,h4⟩:=h
  exact ⟨u,vs,rfl,h0,c9 h1 (fun b hb=>hh _ b rfl (.inl hb)),aD.mono hle xs vs (fun j hj=>by rw [az xs h4] at hj; cases hj) h2,h3,h4⟩
 | some (.nest e k os xs) =>
  simp only [bo] at h ⊢
  obtain ⟨u,vs,bs,rfl,h0,h1,h2,h3⟩:=h
  exact ⟨u,vs,bs,rfl,h0,c9 h1 (fun b hb=>hh _ b rfl (.inl hb)),h2.mono hle (fun b hb=>hh _ b rfl (.inr hb)),h3⟩
 | some (.dm e k os xs i o id2 n2) =>
  simp only [bo] at h ⊢
  obtain ⟨u,vs,bs,rfl,h0,h1,h2,⟨g,v,q1,q2,q3⟩,h3⟩:=h
  exact ⟨u,vs,bs,rfl,h0,c9 h1 (fun b hb=>hh _ b rfl (.inl hb)),h2.mono hle (fun b hb=>hh _ b rfl (.inr hb)),⟨g,v,q1,(sQ (hh _ g rfl (.inl q1)) _).trans q2,ao.mono hle (.arr id2 n2) v (fun id bX=>hB _ rfl id bX) q3⟩,h3⟩
 | some .dead=>simpa only [bo] using h
 | some (.map kt vt es) =>
  simp only [bo] at h ⊢
  obtain ⟨b,kP,ck,rfl,h1,h2,h3,h4,h5,h6⟩:=h
  exact ⟨b,kP,ck,rfl,(hh _ b rfl rfl).trans h1,aD.mono hle _ _ (fun j hj=>by rw [az _ h4] at hj; cases hj) h2,aD.mono hle _ _ (fun j hj=>by rw [az _ h5] at hj; cases hj) h3,h4,h5,h6⟩
def iA (P:Program) (f:Nat) (args:List LV) (m:Mem) (lv:LV) (m':Mem) (Bs:Nat→Prop):Prop :=
 ∀ (c:Cx) (vs:List Value),cA c m→aD c args vs →
  Calls P f vs.toArray c.w fun en w'=>∃ v c',en=.returned v∧c'.w=w'∧cA c' m'∧ao c' lv v∧Grow Bs c c'
theorem iA.sub {P:Program} {f:Nat} {args ew:List LV} {m m':Mem} {lv:LV} {Bs:Nat→Prop} (h:iA P f ew m lv m' Bs) (hs:fc args ew):iA P f args m lv m' Bs:=fun c vs hm ha=>h c vs hm (hs.rep ha)
theorem iA.res {P:Program} {f:Nat} {args:List LV} {m m':Mem} {lv yn:LV} {Bs:Nat→Prop} (h:iA P f args m lv m' Bs) (hs:Sub lv yn):iA P f args m yn m' Bs:=fun c vs hm ha=>(h c vs hm ha).mono fun en w' ⟨v,c',h1,h2,h3,h4,h5⟩=>⟨v,c',h1,h2,h3,hs c' v h4,h5⟩
theorem iA.frame {P:Program} {f:Nat} {args:List LV} {mc jb m:Mem} {lv:LV} {Bs:Nat→Prop} {q:Nat} (h:iA P f args mc lv jb Bs) (SH:∀ id,mc id ≠ .none→id ≠ q→Bs id) (rb:jb q ≠ .none) (pa:∀ id le,mc id=.none→m id=some le→le.jh q=true)
  (pe:∀ id,mc id ≠ .none→m id=mc id) (oG:∀ id,mc id=.none→jb id ≠ .none→m id=.none)
  (hargs:∀ id,LV.cz id args=false→mc id ≠ .none) (j3:∀ id le,mc id=some le→∀ j,le.jh j=false→mc j ≠ .none)
  (pr:Nat→Prop) (SI:¬ pr q) (c:Cx) (vs:List Value) (hm:cA c m) (ha:aD c args vs) :
  Calls P f vs.toArray c.w fun en w'=>∃ v c',en=.returned v∧c'.w=w'∧cA c' (m.over jb)∧ao c' lv v∧Grow pr c c'∧∀ i,i ≠ q→jy (c.B i) (c'.B i):=by
 classical
 let c0:Cx:=⟨c.w,fun id=>if mc id=.none then .none else c.B id,fun b=>c.O b ∨ ∃ id be,mc id=.none∧c.B id=some be∧be.has b⟩
 have hX:∀ b,c0.X b ↔ c.X b:=by
  intro b
  constructor
  ·rintro ((hO | ⟨id,be,_,h2,h3⟩) | ⟨id,be,h2,h3⟩)
   ·exact .inl hO
   ·exact .inr ⟨id,be,h2,h3⟩
   ·by_cases hi:mc id=.none
    ·simp [c0,hi] at h2
    ·simp only [c0,hi,if_false] at h2; exact .inr ⟨id,be,h2,h3⟩
  ·rintro (hO | ⟨id,be,h2,h3⟩)
   ·exact .inl (.inl hO)
   ·by_cases hi:mc id=.none
    ·exact .inl (.inr ⟨id,be,hi,h2,h3⟩)
    ·exact .inr ⟨id,be,by simp [c0,hi,h2],h3⟩
 have o9:c.Le c0:=⟨Nat.le_refl _,fun b _ hx=>⟨rfl,fun pR=>hx ((hX b).1 pR)⟩⟩
 have N8:∀ id,mc id ≠ .none→jy (c.B id) (c0.B id):=fun id hi=>by simp only [c0,hi,if_false]; exact jy.refl _
 have qG : cA c0 mc := by
  refine ⟨fun id=>?_,?_,?_,?_⟩
  ·by_cases hi:mc id=.none
   ·rw [hi]; simp [bo,c0,hi]
   ·have he:=hm.gY id
    rw [pe id hi] at he
    have hb:c0.B id=c.B id:=by simp [c0,hi]
    rw [hb]
    cases hx:mc id with
    | none=>exact absurd hx hi
    | some le =>
     rw [hx] at he
     cases le with
     | box cs =>
      simp only [bo] at he ⊢
      obtain ⟨b,us,e,h1,h2,h3,h4⟩:=he
      exact ⟨b,us,e,h1,h2,aD.mono o9 cs us (fun j hj=>N8 j (j3 id _ hx j hj)) h3,h4⟩
     | arr e k xs =>
      simp only [bo] at he ⊢
      obtain ⟨u,us,h1,h0,h2,h3,h4,h5⟩:=he
      exact ⟨u,us,h1,h0,h2,aD.mono o9 xs us (fun j hj=>by rw [az xs h5] at hj; cases hj) h3,h4,h5⟩
     | nest e k os xs =>
      simp only [bo] at he ⊢
      obtain ⟨u,us,bs,h1,h0,h2,h3,h4⟩:=he
      exact ⟨u,us,bs,h1,h0,h2,h3.mono o9 (fun b _=>rfl),h4⟩
     | dm e k os xs i o id2 n2 =>
      simp only [bo] at he ⊢
      obtain ⟨u,us,bs,h1,h0,h2,h3,⟨ws,v,q1,q2,q3⟩,h4⟩:=he
      exact ⟨u,us,bs,h1,h0,h2,h3.mono o9 (fun b _=>rfl),⟨ws,v,q1,q2,ao.mono o9 (.arr id2 n2) v (fun j hj=>N8 j (j3 id _ hx j hj)) q3⟩,h4⟩
     | dead=>simpa only [bo] using he
     | map kt vt es =>
      simp only [bo] at he ⊢
      obtain ⟨b,kP,ck,h1,h2,h3,h4,h5,h6,h7⟩:=he
      exact ⟨b,kP,ck,h1,h2,aD.mono o9 _ _ (fun j hj=>by rw [az _ h5] at hj; cases hj) h3,aD.mono o9 _ _ (fun j hj=>by rw [az _ h6] at hj; cases hj) h4,h5,h6,h7⟩
  ·intro i i' be ef b h1 h2 h3 h4
   by_cases hi:mc i=.none
   ·simp [c0,hi] at h1
   ·by_cases fQ:mc i'=.none
    ·simp [c0,fQ] at h2
    ·simp only [c0,hi,fQ,if_false] at h1 h2; exact hm.inj i i' be ef b h1 h2 h3 h4
  ·rintro b ⟨id,be,h1,h2⟩ hO
   by_cases hi:mc id=.none
   ·simp [c0,hi] at h1
   ·simp only [c0,hi,if_false] at h1
    rcases hO with hO | ⟨j,ef,h3,h4,h5⟩
    ·exact hm.kB b ⟨id,be,h1,h2⟩ hO
    ·have:=hm.inj id j be ef b h1 h4 h2 h5
     subst this; exact hi h3
  ·rintro b (hO | ⟨j,ef,h3,h4,h5⟩)
   ·exact hm.xR b hO
   ·exact hm.AQ ⟨j,ef,h4,h5⟩
 have ha0:aD c0 args vs:=aD.mono o9 args vs (fun id bX=>N8 id (hargs id bX)) ha
 refine (h c0 vs qG ha0).mono ?_
 rintro en w' ⟨v,c1,rfl,rfl,mr,jj,hg⟩
 have vK:∀ id,mc id ≠ .none→id ≠ q→∃ be ef,c.B id=some be∧c1.B id=some ef∧be.jX ef:=by
  intro id hi eO
  have he:=qG.gY id
  cases hx:mc id with
  | none=>exact absurd hx hi
  | some le =>
   have hb:c0.B id=c.B id:=by simp [c0,hi]
   cases OS:c0.B id with
   | none=>rw [hx,OS] at he; cases le <;> simp [bo] at he
   | some be =>
    obtain ⟨ef,h1,h2⟩:=hg.Gg id be (SH id hi eO) OS
    exact ⟨be,ef,by rw [← hb]; exact OS,h1,h2⟩
 have mq:∀ id,mc id ≠ .none→jb id ≠ .none:=by
  intro id hi fQ
  by_cases eO:id=q
  ·subst eO; exact rb fQ
  have he:=mr.gY id
  rw [fQ] at he
  simp only [bo] at he
  obtain ⟨be,ef,_,h2,_⟩:=vK id hi eO
  rw [he] at h2; cases h2
 have OW:∀ id be,c.B id=some be→mc id=.none→jb id=.none:=by
  intro id be hb hi
  by_cases fQ:jb id=.none
  ·exact fQ
  ·have:=hm.fresh (oG id hi fQ); rw [this] at hb; cases hb
 let c':Cx:=⟨c1.w,fun id=>if jb id=.none then c.B id else c1.B id,c.O⟩
 have OP : ∀ b, c'.X b ↔ c1.X b := by
  intro b
  constructor
  ·rintro (hO | ⟨id,be,h2,h3⟩)
   ·exact .inl (by rw [hg.O]; exact .inl hO)
   ·by_cases hi:jb id=.none
    ·simp only [c',hi,if_true] at h2
     have hn:mc id=.none:=by
      cases hx:mc id with
      | none=>rfl
      | some le=>exact absurd hi (mq id (by simp [hx]))
     exact .inl (by rw [hg.O]; exact .inr ⟨id,be,hn,h2,h3⟩)
    ·simp only [c',hi,if_false] at h2; exact .inr ⟨id,be,h2,h3⟩
  ·rintro (hO | ⟨id,be,h2,h3⟩)
   ·rw [hg.O] at hO
    rcases hO with hO | ⟨id,be,h1,h2,h3⟩
    ·exact .inl hO
    ·exact .inr ⟨id,be,by simp [c',OW id be h2 h1,h2],h3⟩
   ·refine .inr ⟨id,be,?_,h3⟩
    have:jb id ≠ .none:=fun hn=>by have:=mr.fresh hn; rw [this] at h2; cases h2
    simp [c',this,h2]
 have FG:c1.Le c':=⟨Nat.le_refl _,fun b _ hx=>⟨rfl,fun pR=>hx ((OP b).1 pR)⟩⟩
 have ON:∀ id,jy (c1.B id) (c'.B id):=by
  intro id
  by_cases hi:jb id=.none
  ·rw [mr.fresh hi]; trivial
  ·simp only [c',hi,if_false]; exact jy.refl _
 have V0:∀ id be,id ≠ q→c.B id=some be→∃ ef,c'.B id=some ef∧be.jX ef:=by
  intro id be eO hb
  by_cases hi:jb id=.none
  ·exact ⟨be,by simp [c',hi,hb],.refl be⟩
  ·simp only [c',hi,if_false]
   by_cases hc:mc id=.none
   ·have:=OW id be hb hc; exact absurd this hi
   ·obtain ⟨VL,ef,h1,h2,h3⟩:=vK id hc eO
    rw [hb] at h1; cases h1
    exact ⟨ef,h2,h3⟩
 have eW:Grow pr c c':=by
  refine ⟨rfl,hg.os,hg.tape,hg.output,hg.drawn,hg.size,fun b hb ho=>hg.keep b hb ?_,?_,fun id be hp hb=>V0 id be (fun h9=>SI (h9 ▸ hp)) hb⟩
  ·rintro ⟨id,be,h1,h2⟩
   by_cases hi:mc id=.none
   ·simp [c0,hi] at h1
   ·simp only [c0,hi,if_false] at h1; exact ho ⟨id,be,h1,h2⟩
  ·rintro b ⟨id,be,h1,h2⟩
   by_cases hi:jb id=.none
   ·simp only [c',hi,if_true] at h1; exact .inl ⟨id,be,h1,h2⟩
   ·simp only [c',hi,if_false] at h1
    rcases hg.own b ⟨id,be,h1,h2⟩ with ⟨j,ef,h3,h4⟩ | hs
    ·by_cases hj:mc j=.none
     ·simp [c0,hj] at h3
     ·simp only [c0,hj,if_false] at h3; exact .inl ⟨j,ef,h3,h4⟩
    ·exact .inr hs
 have hble:∀ id,id ≠ q→jy (c.B id) (c'.B id):=by
  intro id eO
  cases hb:c.B id with
  | none=>trivial
  | some be =>
   obtain ⟨ef,h1,h2⟩:=V0 id be eO hb
   rw [h1]
   cases be with
   | box b n=>simp only [BE.jX] at h2; subst h2; exact jy.refl _
   | arr u k len ins=>simp only [BE.jX] at h2; obtain ⟨u',nh,nf,rfl,h3,h4⟩:=h2; exact ⟨_,_,_,rfl,h3,h4⟩
   | mp b=>simp only [BE.jX] at h2; subst h2; exact jy.refl _
 refine ⟨v,c',rfl,rfl,⟨fun id=>?_,?_,?_,?_⟩,ao.mono FG lv v (fun id _=>ON id) jj,eW,hble⟩
 ·by_cases hi:jb id=.none
  ·have hb:c'.B id=c.B id:=by simp [c',hi]
   have SC:m.over jb id=m id:=by simp [Mem.over,hi]
   rw [SC,hb]
   have mG:mc id=.none:=by
    cases hx:mc id with
    | none=>rfl
    | some le=>exact absurd hi (mq id (by simp [hx]))
   refine (hm.gY id).XT eW.le (fun le hl j hj=>hble j (fun h9=>by subst h9; rw [pa id le mG hl] at hj; cases hj)) fun be b h1 h2=>?_
   refine hg.keep b ((hm.gY id).lt h1 h2) ?_
   rintro ⟨j,ef,h3,h4⟩
   by_cases hj:mc j=.none
   ·simp [c0,hj] at h3
   ·simp only [c0,hj,if_false] at h3
    have:=hm.inj id j be ef b h1 h3 h2 h4
    subst this
    exact absurd hi (mq id hj)
  ·have hb:c'.B id=c1.B id:=by simp [c',hi]
   cases hx:jb id with
   | none=>exact absurd hx hi
   | some le =>
    have SC:m.over jb id=jb id:=by simp [Mem.over,hx]
    rw [SC,hb]
    exact (mr.gY id).mono FG ON fun _ _ _ _=>rfl
 ·intro i i' be ef b h1 h2 h3 h4
  by_cases hi:jb i=.none <;> by_cases fQ:jb i'=.none
  ·simp only [c',hi,fQ,if_true] at h1 h2; exact hm.inj i i' be ef b h1 h2 h3 h4
  ·simp only [c',hi,if_true] at h1
   simp only [c',fQ,if_false] at h2
   refine absurd ?_ (mr.kB b ⟨i',ef,h2,h4⟩)
   rw [hg.O]
   refine .inr ⟨i,be,?_,h1,h3⟩
   cases hx:mc i with
   | none=>rfl
   | some le=>exact absurd hi (mq i (by simp [hx]))
  ·simp only [c',hi,if_false] at h1
   simp only [c',fQ,if_true] at h2
   refine absurd ?_ (mr.kB b ⟨i,be,h1,h3⟩)
   rw [hg.O]
   refine .inr ⟨i',ef,?_,h2,h4⟩
   cases hx:mc i' with
   | none=>rfl
   | some le=>exact absurd fQ (mq i' (by simp [hx]))
  ·simp only [c',hi,fQ,if_false] at h1 h2; exact mr.inj i i' be ef b h1 h2 h3 h4
 ·rintro b ⟨id,be,h1,h2⟩ hO
  by_cases hi:jb id=.none
  ·simp only [c',hi,if_true] at h1; exact hm.kB b ⟨id,be,h1,h2⟩ hO
  ·simp only [c',hi,if_false] at h1; exact mr.kB b ⟨id,be,h1,h2⟩ (by rw [hg.O]; exact .inl hO)
 ·intro b hO; exact Nat.lt_of_lt_of_le (hm.xR b hO) hg.size
theorem iA.AK {P:Program} {f:Nat} {fn:Func} {code:Code} {args:List LV} {m:Mem} {R:LV→Mem→Prop} {Bs:Nat→Prop} (hf:P.funcs[f]?=some fn) (hb:fn.body=some code) (hn:args.length≤fn.ntmps)
  (h:LH P fn.ntmps Bs code (GX P fn Bs R) (Env.args args) m):∃ lv m',iA P f args m lv m' Bs∧R lv m':=by
 obtain ⟨ex,e',m1,hx,hq⟩:=h
 have main:(jg P e' m1 fn.results.toList fun l=>∃ ml,(∀ p ∈ ml,m1 p.1=some p.2)∧aQ [(0,oneOf l)] ml=true∧(∀ id,Bs id→m1 id=.none ∨ Mem.of ml id ≠ .none)∧R (oneOf l) (Mem.of ml))→(ex=.ret ∨ ex=.normal)→∃ lv m',iA P f args m lv m' Bs∧R lv m':=by
  intro SU hex
  obtain ⟨l,⟨ml,h1,h2,h3,hR⟩,hl⟩:=nL _ _ SU
  refine ⟨oneOf l,Mem.of ml,fun c vs hm ha=>?_,hR⟩
  refine calls_of_wp hf hb ?_
  have hlen:=ha.length
  have cn:oh fn.ntmps c (Env.args args) m { tmps:=vs.toArray++Array.replicate (fn.ntmps - vs.toArray.size) undef,defers:=[] }:=by
   refine ⟨fun i=>?_,hm,by simp; omega,rfl⟩
   simp only [Env.args,List.getD_eq_getElem?_getD]
   cases hi:args[i]? with
   | none=>simp [ao]
   | some x =>
    obtain ⟨v,hv,hr⟩:=ha.get hi
    have uN:i<vs.length:=(List.getElem?_eq_some_iff.1 hv).1
    have:(vs.toArray++Array.replicate (fn.ntmps - vs.toArray.size) undef).getD i undef=v:=by
     rw [Array.getD_eq_getD_getElem?,Array.getElem?_append_left (by simpa using uN)]
     simp [hv]
    rw [this]; exact hr
  refine wp_mono (hx c _ cn) ?_
  rintro x a' w' ⟨rfl,c1,rfl,dI,Bg⟩
  obtain ⟨us,E0,rJ⟩:=hl _ c1 a' dI
  have LB:(results fn a'.tmps).run P c1.w=.ok (if h:us.toArray.size=1 then us.toArray[0] else .tuple us.toArray) c1.w:=by
   have e1:results fn a'.tmps=(do let vs ← fn.results.mapM (tk a'.tmps); pure (if h:vs.size=1 then vs[0] else .tuple vs)):=by
    unfold results
    congr 2
   rw [e1,Array.mapM_eq_mapM_toList]
   simp only [Sem.run_bind,Sem.run_map,E0,Result.andThen_ok,Sem.run_pure]
  have hrv:ao c1 (oneOf l) (if h:us.toArray.size=1 then us.toArray[0] else .tuple us.toArray):=by
   have hll:=rJ.length
   match l,us,rJ with
   | [],us,rJ=>simp only [aD] at rJ; subst rJ; simp [oneOf,ao,aD]
   | [x],us,rJ =>
    simp only [aD] at rJ
    obtain ⟨v,fD,rfl,hv,rfl⟩:=rJ
    simpa [oneOf] using hv
   | x :: y :: l,us,rJ =>
    have fE:¬ us.toArray.size=1:=by have:=rJ.length; simp at this ⊢; omega
    rw [dif_neg fE]
    simp only [oneOf,ao]
    exact ⟨us,rfl,rJ⟩
  obtain ⟨c2,rL,⟨Lp,mE,_,_⟩,hg2⟩:=Wk.cut (pr:=Bs) (e:=Env.of [(0,oneOf l)]) (m:=m1) [(0,oneOf l)] ml (by simp [Env.of]) h1 h2 (fun id hp=>h3 id hp) 1 c1 { tmps:=#[if h:us.toArray.size=1 then us.toArray[0] else .tuple us.toArray],defers:=[] }
   ⟨fun i=>by
    by_cases hi:i=0
    ·subst hi; simpa [Env.of] using hrv
    ·simp [Env.of,hi,ao],dI.mem,rfl,rfl⟩
  have hv2:=Lp 0
  simp only [Env.of,if_true] at hv2
  have Ce:a'.defers=[]∧∃ v,(results fn a'.tmps).run P c1.w=.ok v c1.w∧∃ v' c',Ending.returned v=.returned v'∧c'.w=c1.w∧cA c' (Mem.of ml)∧ao c' (oneOf l) v'∧Grow Bs c c' :=
   ⟨dI.defers,_,LB,_,c2,rfl,rL,mE,by simpa using hv2,Bg.trans hg2⟩
  rcases hex with rfl | rfl
  ·exact Ce
  ·exact Ce
 cases ex with
 | ret=>exact main hq (.inl rfl)
 | normal=>exact main hq (.inr rfl)
 | _=>exact hq.elim
theorem VM {P:Program} {f:Nat} {fn:Func} {code:Code} {args:List LV} {lA tc:List (Nat × LE)} (Ud:List (Nat × LE)) {xQ:LV} (hf:P.funcs[f]?=some fn) (hb:fn.body=some code) (hn:args.length≤fn.ntmps)
  (h:LH P fn.ntmps (fun id=>Mem.of Ud id ≠ .none) code (GX P fn (fun id=>Mem.of Ud id ≠ .none) (Ends xQ tc)) (Env.args args) (Mem.of lA)):iA P f args (Mem.of lA) xQ (Mem.of tc) (fun id=>Mem.of Ud id ≠ .none):=by
 obtain ⟨lv,m',h1,h2,rfl⟩:=iA.AK (R:=Ends xQ tc) hf hb hn h
 exact h1.res h2
end Go.L
namespace Go.L
variable {P:Program} {pr:Nat→Prop} {ev:Operand→LV} {m m':Mem} {x:Operand} {ty:TypeId} {pos:String} {af:Array Edge} {gd:Option (Nat × Bool)} {d:Option Nat} {lv:LV}
theorem QZ {ml mlm:List (Nat × LE)} {q:Nat} (h:(mlm.all fun p=>(ml.any fun z=>z.1 == p.1) || p.2.jh q)=true):∀ id le,Mem.of ml id=.none→Mem.of mlm id=some le→le.jh q=true:=by
 intro id le h1 h2
 have h3:=List.all_eq_true.1 h _ (ep h2)
 simp only [Bool.or_eq_true] at h3
 rcases h3 with h3 | h3
 ·exact absurd h1 (eX h3)
 ·exact h3
theorem IH {args:List LV} {ml eD:List (Nat × LE)} (hm:kc m ml) (oG:∀ p ∈ eD,(ml.any fun q=>q.1 == p.1)=true ∨ m p.1=.none) (hargs:aQ (args.map fun x=>(0,x)) ml=true) :
  (∀ id,Mem.of ml id ≠ .none→m id=Mem.of ml id)∧(∀ id,Mem.of ml id=.none→Mem.of eD id ≠ .none→m id=.none)∧(∀ id,LV.cz id args=false→Mem.of ml id ≠ .none)∧(∀ id le,Mem.of ml id=some le→∀ j,le.jh j=false→Mem.of ml j ≠ .none):=by
 simp only [aQ,Bool.and_eq_true,List.all_eq_true] at hargs
 refine ⟨fun i hi=>?_,fun i hi fQ=>?_,fun i hi=>?_,fun i cs hi j hj=>?_⟩
 ·cases hq:Mem.of ml i with
  | none=>exact absurd hq hi
  | some le=>exact hm.all _ (ep hq)
 ·cases hq:Mem.of eD i with
  | none=>exact absurd hq fQ
  | some le =>
   rcases oG _ (ep hq) with h1 | h1
   ·exact absurd hi (eX h1)
   ·exact h1
 ·have key:∀ (l:List LV),LV.cz i l=false→∃ x ∈ l,i ∈ x.refs:=by
   intro l
   induction l with
   | nil=>intro h; simp [LV.cz] at h
   | cons x l ih =>
    intro h
    simp only [LV.cz,Bool.and_eq_false_iff] at h
    rcases h with h | h
    ·exact ⟨x,by simp,jB x h⟩
    ·obtain ⟨y,hy,hr⟩:=ih h
     exact ⟨y,by simp [hy],hr⟩
  obtain ⟨x,hx,hr⟩:=key args hi
  exact eX (hargs.1 (0,x) (List.mem_map.2 ⟨x,hx,rfl⟩) i hr)
 ·have h2:=hargs.2 _ (ep hi)
  cases cs with
  | box cs =>
   simp only [List.all_eq_true] at h2
   exact eX (h2 j (dE cs hj))
  | dm _ _ _ _ _ _ id2 _ =>
   simp only [LE.jh,bne_eq_false_iff_eq] at hj
   subst hj
   exact eX h2
  | _=>simp [LE.jh] at hj
theorem Cw {f q : Nat} {KR args ew : List LV} {xs : List Operand} {ts : Array TypeId} {ml eD Ud : List (Nat × LE)} (hx : ev x = .fn f KR) (hf : ∃ fn, P.funcs[f]? = some fn ∧ (fn.name == "runtime.NumGoroutine") = false ∧ fn.body.isNone = false) (ha : xs.map ev ++ KR = args) (hs : fc args ew) (hc : iA P f ew (Mem.of ml) lv (Mem.of eD) (fun id => Mem.of Ud id ≠ .none)) (hm : kc m ml) (oG : ∀ p ∈ eD, (ml.any fun q => q.1 == p.1) = true ∨ m p.1 = .none) (hr : aQ (args.map fun x => (0, x)) ml = true)
  (hp:(ml.all fun p=>p.1 == q || Ud.any fun z=>z.1 == p.1)=true) (hq:(eD.any fun z=>z.1 == q)=true) (SI:¬ pr q) (pa:∀ id le,Mem.of ml id=.none→m id=some le→le.jh q=true) :
  oY P pr q ⟨d,.call ⟨.value x,xs.toArray,ts⟩,ty,pos,af,gd⟩ ev m lv (m.over (Mem.of eD)):=by
 subst ha
 obtain ⟨h1,h2,h3,h4⟩:=IH hm oG hr
 obtain ⟨fn,hf,vN,o7⟩:=hf
 intro c a Q bG hM
 have hv:=bG x
 rw [hx] at hv
 simp only [ao] at hv
 obtain ⟨us,he,hl⟩:=hv
 have Bm:aD c (xs.map ev) (xs.map a.eval):=aD.of (by simp) fun j p q hp hq=>by
  simp only [List.getElem?_map,Option.map_eq_some_iff] at hp hq
  obtain ⟨z,hz,rfl⟩:=hp
  obtain ⟨z',Th,rfl⟩:=hq
  rw [hz] at Th; cases Th
  exact bG z
 have dD:(execOp a.eval ⟨d,.call ⟨.value x,xs.toArray,ts⟩,ty,pos,af,gd⟩).run P c.w=.ok (.enter f (xs.map a.eval++us).toArray) c.w:=by
  have e1:Array.map a.eval xs.toArray++us.toArray=(xs.map a.eval++us).toArray:=by
   apply Array.ext'; simp
  have qH : ¬ fn.name = "runtime.NumGoroutine" := by simpa using vN
  have qD:¬ fn.body=.none:=fun hn=>by rw [hn] at o7; cases o7
  simp [execOp,resolve,Deferred.ofValue,he,invoke,callFunc,hf,qH,qD,e1]
 unfold Oper.wp
 rw [dD]
 simp only [Oper.upon]
 have SH:∀ id,Mem.of ml id ≠ .none→id ≠ q→(fun id=>Mem.of Ud id ≠ .none) id:=fun id hi eO=>by
  cases hx:Mem.of ml id with
  | none=>exact absurd hx hi
  | some le =>
   have h9:=List.all_eq_true.1 hp _ (ep hx)
   simp only [Bool.or_eq_true,beq_iff_eq] at h9
   exact h9.elim (fun h=>absurd h eO) eX
 refine ((hc.sub hs).frame (m:=m) SH (eX hq) pa h1 h2 h3 h4 pr SI c _ hM (Bm.append hl)).mono ?_
 rintro en w' ⟨v,c',rfl,rfl,kh,uR,hg,hb⟩
 exact ⟨v,c',rfl,rfl,uR,kh,hg,hb⟩
end Go.L
namespace Go.L
def uM (n:Nat) (ops:Array Oper) (eh:List Nat):Bool :=
 (List.range ops.size).all fun i=>match ops[i]? with
  | some o=>(o.after.toList.all fun e=>!Region.binds .any e || decide (e.on<i)) && (List.range i).all fun k=>match ops[k]? with
   | some q=>(Nat.blt i n && EK ops (q,eh.getD k 2) (o,eh.getD i 2)) || ahead ops 8 k i
   | .none=>true
  | .none=>true
section
variable {P:Program} {N:Nat} {pr:Nat→Prop}
theorem lL {ops:Array Oper} {n:Nat} {eh:List Nat} (iD:uM n ops eh=true) {aP:Array Bool} (fE:aP.size=ops.size)
  (hcl:∀ i o,ops[i]?=some o→aP.getD i true=true→∀ e ∈ o.after,Region.binds .any e=true→aP.getD e.on false=true) :
  (∀ i ∈ Region.ready .any ops aP,i ∈ left ops aP∧∀ o,ops[i]?=some o→∀ e ∈ o.after,Region.binds .any e=true→aP.getD e.on false=true) ∧
  (∀ i ∈ Region.ready .any ops aP,n≤i→∀ k,k<i→k ∉ left ops aP) ∧
  (Region.ready .any ops aP=[]→left ops aP=[]):=by
 have B5:=List.all_eq_true.1 iD
 have pe:∀ i ∈ Region.ready .any ops aP,i ∈ left ops aP∧∀ o,ops[i]?=some o→∀ e ∈ o.after,Region.binds .any e=true→aP.getD e.on false=true:=by
  intro i hi
  unfold Region.ready at hi
  simp only [List.mem_filter,Bool.and_eq_true] at hi
  refine ⟨by unfold left; exact List.mem_filter.2 ⟨hi.1,hi.2.1⟩,fun o ho e he hb=>?_⟩
  have h2:=hi.2.2
  rw [ho] at h2
  simp only [Option.map_some,Option.getD_some] at h2
  have:=(Array.all_eq_true_iff_forall_mem.1 h2) e he
  simpa [hb] using this
 refine ⟨pe,fun i hi hni k xT hk=>?_,fun rF=>?_⟩
 ·obtain ⟨uN,qJ⟩:=pe i hi
  have eP:=uN
  unfold left at eP
  simp only [List.mem_filter,List.mem_range] at eP
  have hlt:=eP.1
  have vO:ops[i]?=some (ops[i]'hlt):=by simp [hlt]
  have h1:=B5 i (by simpa using hlt)
  rw [vO] at h1
  simp only [Bool.and_eq_true,List.all_eq_true] at h1
  have h2:=h1.2 k (by simpa using xT)
  have Lz:ops[k]?=some (ops[k]'(by omega)):=by simp [show k<ops.size by omega]
  rw [Lz] at h2
  have hnb:Nat.blt i n=false:=by
   cases hb:Nat.blt i n with
   | false=>rfl
   | true=>have:=Nat.le_of_ble_eq_true hb; omega
  simp only [hnb,Bool.false_and,Bool.false_or] at h2
  have h3:=kx hcl fE 8 k i _ vO (qJ _ vO) h2
  unfold left at hk
  simp only [List.mem_filter,List.mem_range] at hk
  have h5:k<aP.size:=by omega
  have h6:=hk.2
  simp [h5] at h3 h6
  rw [h3] at h6; cases h6
 ·have LJ:(left ops aP).Pairwise (·<·):=by unfold left; exact List.Pairwise.filter _ List.pairwise_lt_range
  cases hl:left ops aP with
  | nil=>rfl
  | cons i r =>
   exfalso
   have uN:i ∈ left ops aP:=by rw [hl]; simp
   have eP:=uN
   unfold left at eP
   simp only [List.mem_filter,List.mem_range] at eP
   have hlt:=eP.1
   have vO:ops[i]?=some (ops[i]'hlt):=by simp [hlt]
   have Wo:i ∈ Region.ready .any ops aP:=by
    unfold Region.ready
    simp only [List.mem_filter,List.mem_range,Bool.and_eq_true]
    refine ⟨hlt,eP.2,?_⟩
    rw [vO]
    simp only [Option.map_some,Option.getD_some]
    rw [Array.all_eq_true_iff_forall_mem]
    intro e he
    by_cases hb:Region.binds .any e=true
    ·have h1:=B5 i (by simpa using hlt)
     rw [vO] at h1
     simp only [Bool.and_eq_true,List.all_eq_true] at h1
     have h2:=h1.1 e (by simpa using he)
     simp only [hb,Bool.not_true,Bool.false_or,decide_eq_true_eq] at h2
     have h3:e.on ∉ left ops aP:=by
      rw [hl]
      intro hm
      rw [hl] at LJ
      rcases List.mem_cons.1 hm with h4 | h4
      ·omega
      ·have:=(List.pairwise_cons.1 LJ).1 _ h4; omega
     unfold left at h3
     simp only [List.mem_filter,List.mem_range,not_and] at h3
     have h4:=h3 (by omega)
     have h5:e.on<aP.size:=by omega
     simp only [hb,Bool.not_true,Bool.false_or]
     simpa [h5] using h4
    ·simp [hb]
   rw [rF] at Wo; cases Wo
theorem Cp {ops:Array Oper} {aP:Array Bool} (fE:aP.size=ops.size) (i:Nat):left ops (aP.setIfInBounds i true)=(left ops aP).filter fun k=>k != i:=by
 unfold left
 rw [List.filter_filter]
 apply List.filter_congr
 intro k hk
 have hk:=List.mem_range.1 hk
 by_cases xT:k=i
 ·subst xT
  have:k<aP.size:=by omega
  simp [this]
 ·simp [Array.getElem?_setIfInBounds_ne (Ne.symm xT),xT]
theorem vo {ops:Array Oper} {aP:Array Bool} (fE:aP.size=ops.size) (hcl:∀ i o,ops[i]?=some o→aP.getD i true=true→∀ e ∈ o.after,Region.binds .any e=true→aP.getD e.on false=true) {i:Nat} (qJ:∀ o,ops[i]?=some o→∀ e ∈ o.after,Region.binds .any e=true→aP.getD e.on false=true) (hi:i<ops.size) :
  ∀ j o,ops[j]?=some o→(aP.setIfInBounds i true).getD j true=true→∀ e ∈ o.after,Region.binds .any e=true→(aP.setIfInBounds i true).getD e.on false=true:=by
 intro j o Wz hj e he hb
 have ju:∀ q,aP.getD q false=true→(aP.setIfInBounds i true).getD q false=true:=by
  intro q hq
  by_cases O3:q=i
  ·subst O3
   have:q<aP.size:=by omega
   simp [this]
  ·simpa [Array.getElem?_setIfInBounds_ne (Ne.symm O3)] using hq
 apply ju
 by_cases B9:j=i
 ·subst B9; exact qJ o Wz e he hb
 ·refine hcl j o Wz ?_ e he hb
  simpa [Array.getElem?_setIfInBounds_ne (Ne.symm B9)] using hj
theorem xP {n:Nat} {ops:Array Oper} {eh:List Nat} (iD:uM n ops eh=true) {Q:Exit→Act→World→Prop}:∀ (s:List Oper) (j fuel:Nat) (aP:Array Bool) (a:Act) (w:World),n≤j→j+s.length=ops.size→(∀ i,s[i]?=ops[j+i]?)→aP.size=ops.size→s.length≤fuel→left ops aP=(List.range' j s.length) →
  (∀ i o,ops[i]?=some o→aP.getD i true=true→∀ e ∈ o.after,Region.binds .any e=true→aP.getD e.on false=true)→wpList P ops Q s a w→wpAny P .any ops Q fuel aP a w
 | [],j,fuel,aP,a,w,hj,hs,Od,fE,hf,hl,hcl,h=>by
  obtain ⟨g1,g2,g3⟩:=lL iD fE hcl
  have eO:Region.ready .any ops aP=[]:=by
   rw [List.eq_nil_iff_forall_not_mem]
   intro i hi
   have:=(g1 i hi).1
   rw [hl] at this; cases this
  cases fuel with
  | zero=>exact ⟨eO,h⟩
  | succ fuel=>exact ⟨fun _=>h,fun i hi=>by rw [eO] at hi; cases hi⟩
 | o :: s,j,fuel,aP,a,w,hj,hs,Od,fE,hf,hl,hcl,h=>by
  obtain ⟨g1,g2,g3⟩:=lL iD fE hcl
  cases fuel with
  | zero=>simp at hf
  | succ fuel =>
   refine ⟨fun rF=>?_,fun i hi=>?_⟩
   ·have:=g3 rF
    rw [hl] at this; simp [List.range'] at this
   ·obtain ⟨uN,qJ⟩:=g1 i hi
    rw [hl] at uN
    simp only [List.mem_range'_1,List.length_cons] at uN
    have ra:i=j:=by
     rcases Nat.lt_or_ge j i with hlt | Wj
     ·exact absurd (by rw [hl]; simp [List.mem_range'_1]) (g2 i hi (by omega) j hlt)
     ·omega
    subst ra
    have vO:ops[i]?=some o:=by have:=Od 0; simpa using this.symm
    have hlt:i<ops.size:=by simp only [List.length_cons] at hs; omega
    have kj:∀ a w,wpList P ops Q s a w→wpAny P .any ops Q fuel (aP.setIfInBounds i true) a w:=fun a w h' =>
     xP iD s (i+1) fuel (aP.setIfInBounds i true) a w (by omega) (by simp only [List.length_cons] at hs; omega) (fun k=>by have:=Od (k+1); simp only [List.getElem?_cons_succ] at this; rw [this]; congr 1; omega) (by simpa using fE) (by simp only [List.length_cons] at hf; omega) (by
      rw [Cp fE,hl,List.length_cons,List.range'_succ,List.filter_cons]
      simp only [bne_self_eq_false,Bool.false_eq_true,if_false]
      rw [List.filter_eq_self.2]
      intro k hk
      have:=(List.mem_range'_1.1 hk).1
      simp; omega) (vo fE hcl qJ hlt) h'
    simp only [wpList] at h
    unfold wpOp
    rw [vO]
    simp only
    split
    ·rename_i hw
     rw [if_pos hw] at h
     exact h.imp (Oper.wp_mono kj) (fun h=>h)
    ·rename_i hw
     rw [if_neg hw] at h
     exact kj _ _ h
theorem LH.XO {xV n:Nat} {l:List Oper} {Q:Exit→Env→Mem→Prop} {e:Env} {m:Mem} (sZ:P.follows .mixedOrders=true) (ro:List Nat) (eh:List Nat) (R7:List (Nat × LV)) (tc:List (Nat × LE)) (el:List (Nat × LV)) (ml:List (Nat × LE)) (hlen:eh.length=n) (hn:n≤l.length) (hd:gX N l=true) (iD:uM n l.toArray eh=true)
  (h:cE P pr ro l.toArray ((l.take n).zip eh) (fun e m=>Wk pr e m (Env.of R7) (Mem.of tc)) e m) (h2:cH P N pr l.toArray (l.drop n) (fun e m=>Wk pr e m (Env.of el) (Mem.of ml)) (Env.of R7) (Mem.of tc)) (hr:Q .normal (Env.of el) (Mem.of ml)):LH P N pr (.region xV l.toArray true) Q e m:=by
 obtain ⟨e1,m1,hK1,hc⟩:=jJ _ h
 obtain ⟨e2,m2,hK2,dD⟩:=h2 (pN hd) (fun o ho=>by simp only [List.mem_toArray]; exact List.mem_of_mem_drop ho)
 refine ⟨.normal,_,_,fun c a hr=>?_,hr⟩
 have ac2:((List.range n).map fun i=>(l.getD i default,eh.getD i 2))=(l.take n).zip eh:=by
  have:=qb (l.take n) eh (by rw [hlen,List.length_take,Nat.min_eq_left hn])
  rw [← this,List.length_take,Nat.min_eq_left hn]
  apply List.map_congr_left
  intro i hi
  have hi:=List.mem_range.1 hi
  simp [List.getElem?_take,hi]
 rw [← ac2] at hc
 refine wp_region_any sZ ?_
 have Wh:=pN hd
 have B5:=List.all_eq_true.1 iD
 have key : ∀ (fuel : Nat) (aP : Array Bool) (A : List Nat) (e0 : Env) (m0 : Mem) (c0 : Cx) (a0 : Act), aP.size = l.toArray.size → left l.toArray aP = A ++ List.range' n (l.length - n) → (∀ k ∈ A, k < n) → (left l.toArray aP).length ≤ fuel →
   (∀ i o,l.toArray[i]?=some o→aP.getD i true=true→∀ e ∈ o.after,Region.binds .any e=true→aP.getD e.on false=true) →
   qh P pr ro l.toArray (A.map fun i=>(l.getD i default,eh.getD i 2)) e0 m0 e1 m1→oh N c0 e0 m0 a0→Grow pr c c0 →
   wpAny P .any l.toArray (fun x a' w'=>x=.normal∧∃ c':Cx,c'.w=w'∧oh N c' (Env.of el) (Mem.of ml) a'∧Grow pr c c') fuel aP a0 c0.w:=by
  intro fuel
  induction fuel with
  | zero =>
   intro aP A e0 m0 c0 a0 fE iY hA Bf hcl Be LL Aw
   have QB:left l.toArray aP=[]:=List.eq_nil_of_length_eq_zero (by omega)
   rw [QB] at iY
   have hA0:A=[]:=by cases A with | nil=>rfl | cons x A=>simp at iY
   subst hA0
   obtain ⟨rfl,rfl⟩:=Be
   obtain ⟨c1,hw1,dI,Bg⟩:=hK1 N c0 a0 LL
   have hz:l.length - n=0:=by have:=congrArg List.length iY; simpa using this.symm
   have Wg:l.drop n=[]:=List.eq_nil_of_length_eq_zero (by simpa using hz)
   have Ch:=dD c1 a0 dI
   rw [Wg] at Ch
   obtain ⟨_,c2,rL,hr2,hg2⟩:=Ch
   obtain ⟨c3,Z3,hr3,hg3⟩:=hK2 N c2 a0 hr2
   refine ⟨?_,rfl,c3,by rw [Z3,rL,hw1],hr3,((Aw.trans Bg).trans hg2).trans hg3⟩
   obtain ⟨g1,g2,g3⟩:=lL iD fE hcl
   rw [List.eq_nil_iff_forall_not_mem]
   intro i hi
   have:=(g1 i hi).1
   rw [QB] at this; cases this
  | succ fuel ih =>
   intro aP A e0 m0 c0 a0 fE iY hA Bf hcl Be LL Aw
   obtain ⟨g1,g2,g3⟩:=lL iD fE hcl
   by_cases hA0:A=[]
   ·subst hA0
    obtain ⟨rfl,rfl⟩:=Be
    obtain ⟨c1,hw1,dI,Bg⟩:=hK1 N c0 a0 LL
    have Ch:=dD c1 a0 dI
    rw [hw1] at Ch
    rw [List.nil_append] at iY
    refine xP iD (l.drop n) n (fuel+1) aP a0 c0.w (Nat.le_refl _) (by simp; omega) (fun i=>by simp [List.getElem?_drop]) fE (by rw [iY] at Bf; simpa using Bf) (by rw [iY,List.length_drop]) hcl ?_
    refine gJ _ _ _ _ _ ?_ Ch
    rintro x a' w' ⟨rfl,c2,rfl,hr2,hg2⟩
    obtain ⟨c3,Z3,hr3,hg3⟩:=hK2 N c2 a' hr2
    exact ⟨rfl,c3,Z3,hr3,((Aw.trans Bg).trans hg2).trans hg3⟩
   ·have LJ:(left l.toArray aP).Pairwise (·<·):=by unfold left; exact List.Pairwise.filter _ List.pairwise_lt_range
    refine ⟨fun rF=>?_,fun i hi=>?_⟩
    ·exfalso
     have:=g3 rF
     rw [iY] at this
     exact hA0 (List.append_eq_nil_iff.1 this).1
    ·obtain ⟨uN,qJ⟩:=g1 i hi
     have hin:i<n:=by
      rcases Nat.lt_or_ge i n with h' | h'
      ·exact h'
      ·exfalso
       obtain ⟨k,hk⟩:=List.exists_mem_of_ne_nil A hA0
       exact g2 i hi h' k (by have:=hA k hk; omega) (by rw [iY]; simp [hk])
     have hiA:i ∈ A:=by
      rw [iY] at uN
      rcases List.mem_append.1 uN with h' | h'
      ·exact h'
      ·have:=(List.mem_range'_1.1 h').1; omega
     have eP:=uN
     unfold left at eP
     simp only [List.mem_filter,List.mem_range] at eP
     have hlt:=eP.1
     have Sz:i<l.length:=by simpa using hlt
     have vO:l.toArray[i]?=some (l.getD i default):=by simp [Sz]
     obtain ⟨pre,post,j6⟩:=List.append_of_mem hiA
     have SK:A.Pairwise (·<·):=by rw [iY] at LJ; exact (List.pairwise_append.1 LJ).1
     rw [j6] at SK
     have vR:∀ k ∈ pre,k<i:=fun k hk=>(List.pairwise_append.1 SK).2.2 k hk i (by simp)
     have Ay:∀ k ∈ post,i<k:=fun k hk=>(List.pairwise_cons.1 (List.pairwise_append.1 SK).2.1).1 k hk
     have vL:left l.toArray (aP.setIfInBounds i true)=(pre++post)++List.range' n (l.length - n):=by
      rw [Cp fE,iY,j6,List.filter_append,List.filter_append,List.filter_cons]
      simp only [bne_self_eq_false,Bool.false_eq_true,if_false]
      rw [List.filter_eq_self.2 (fun k hk=>by have:=vR k hk; simp; omega),List.filter_eq_self.2 (fun k hk=>by have:=Ay k hk; simp; omega),List.filter_eq_self.2 (fun k hk=>by have:=(List.mem_range'_1.1 hk).1; simp; omega)]
     rw [j6,List.map_append,List.map_cons] at Be
     have FC:=qR _ _ (by
      intro x hx
      simp only [List.mem_map] at hx
      obtain ⟨k,hk,rfl⟩:=hx
      have h1:=B5 i (by simpa using hlt)
      rw [vO] at h1
      simp only [Bool.and_eq_true,List.all_eq_true] at h1
      have xT:=vR k hk
      have h2:=h1.2 k (by simpa using xT)
      have Lz:l.toArray[k]?=some (l.getD k default):=by simp [show k<l.length by omega]
      rw [Lz] at h2
      simp only [Bool.or_eq_true,Bool.and_eq_true] at h2
      rcases h2 with h2 | h2
      ·exact h2.2
      ·exfalso
       have h3:=kx hcl fE 8 k i _ vO (qJ _ vO) h2
       have h4:k ∈ left l.toArray aP:=by rw [iY,j6]; simp [hk]
       unfold left at h4
       simp only [List.mem_filter,List.mem_range] at h4
       have h5:k<aP.size:=by omega
       have h6:=h4.2
       simp [h5] at h3 h6
       rw [h3] at h6; cases h6) Be
     obtain ⟨lv,mm,pa,kj⟩:=FC
     unfold wpOp
     rw [vO]
     simp only
     refine BB Wh (Wh _ (Array.mem_of_getElem? vO)) pa c0 a0 _ _ LL ?_
     intro a' c' om FT
     refine ih (aP.setIfInBounds i true) (pre++post) _ mm c' a' (by simpa using fE) vL ?_ ?_ (vo fE hcl qJ hlt) ?_ om (Aw.trans FT.grow)
     ·intro k hk
      refine hA k ?_
      rw [j6]
      rcases List.mem_append.1 hk with h' | h' <;> simp [h']
     ·rw [vL]
      rw [iY,j6] at Bf
      simp at Bf ⊢; omega
     ·rw [List.map_append]; exact kj
 have iY:left l.toArray (Array.replicate l.toArray.size false)=List.range n++List.range' n (l.length - n):=by
  unfold left
  rw [List.filter_eq_self.2]
  ·have hh:=List.range'_append_1 (s:=0) (m:=n) (n:=l.length - n)
   rw [Nat.zero_add] at hh
   rw [List.size_toArray,List.range_eq_range',List.range_eq_range',hh]
   congr 1; omega
  ·intro i hi
   simp at hi
   simp [hi]
 have om:oh N ⟨{ c.w with drawn:=c.w.drawn+1 },c.B,c.O⟩ e m a:=by
  obtain ⟨mr,SV⟩:=hr.mem.ext (pr:=pr) { c.w with drawn:=c.w.drawn+1 } rfl rfl rfl (Nat.le_succ _) (Nat.le_refl _) (fun _ _=>rfl)
  exact ⟨fun i=>SV.A4 (hr.env i),mr,hr.size,hr.defers⟩
 have ye:Grow pr c ⟨{ c.w with drawn:=c.w.drawn+1 },c.B,c.O⟩:=(hr.mem.ext (pr:=pr) { c.w with drawn:=c.w.drawn+1 } rfl rfl rfl (Nat.le_succ _) (Nat.le_refl _) (fun _ _=>rfl)).2.grow
 refine key l.toArray.size (Array.replicate l.toArray.size false) (List.range n) e m ⟨{ c.w with drawn:=c.w.drawn+1 },c.B,c.O⟩ a (by simp) iY (fun k hk=>List.mem_range.1 hk) ?_ ?_ hc om ye
 ·unfold left
  exact Nat.le_trans (List.length_filter_le _ _) (by simp)
 ·intro i o ho hl
  have:i<l.toArray.size:=by
   rcases Nat.lt_or_ge i l.toArray.size with h' | h'
   ·exact h'
   ·simp at h'; simp [List.getElem?_eq_none h'] at ho
  simp at this
  simp [this] at hl
theorem LH.adz {xV n:Nat} {l:List Oper} {yc:Code} {Q:Exit→Env→Mem→Prop} {e:Env} {m:Mem} (sZ:P.follows .mixedOrders=true) (ro:List Nat) (eh:List Nat) (R7:List (Nat × LV)) (tc:List (Nat × LE)) (el:List (Nat × LV)) (ml:List (Nat × LE)) (hlen:eh.length=n) (hn:n≤l.length) (hd:gX N l=true) (iD:uM n l.toArray eh=true)
  (h:cE P pr ro l.toArray ((l.take n).zip eh) (fun e m=>Wk pr e m (Env.of R7) (Mem.of tc)) e m) (h2:cH P N pr l.toArray (l.drop n) (fun e m=>Wk pr e m (Env.of el) (Mem.of ml)) (Env.of R7) (Mem.of tc)) (hr:LH P N pr yc Q (Env.of el) (Mem.of ml)):LH P N pr (.seq (.region xV l.toArray true) yc) Q e m :=
 LH.seq (LH.XO sZ ro eh R7 tc el ml hlen hn hd iD h h2 hr)
end
end Go.L
namespace Go.L
def OA (e:Env) (ks:List Nat):List (Nat × LV):=ks.map fun k=>(k,e k)
def KN (m:Mem) (is:List Nat):List (Nat × LE):=is.map fun i=>(i,(m i).getD .dead)
theorem Hg {e:Env}:∀ ks:List Nat,jW e (OA e ks)
 | []=>trivial
 | k :: ks=>⟨Sub.rfl,Hg ks⟩
theorem KO {m:Mem}:∀ is:List Nat,(is.all fun i=>(m i).isSome)=true→kc m (KN m is)
 | [],_=>trivial
 | i :: is,h=>by
  rw [List.all_cons,Bool.and_eq_true] at h
  refine ⟨?_,KO is h.2⟩
  cases hm:m i with
  | none=>rw [hm] at h; exact absurd h.1 (by simp)
  | some x=>rfl
theorem bQ {lA:List (Nat × LE)} {e:Env} {m:Mem} (ks is:List Nat) (hm:(is.all fun i=>(m i).isSome)=true:=by exact rfl) (hr:aQ ((OA e ks).map fun p=>(p.1,e p.1)) (KN m is)=true:=by exact rfl) (kA:(lA.all fun p=>(KN m is).any fun q=>q.1 == p.1)=true:=by exact rfl):Wk (fun id=>Mem.of lA id ≠ .none) e m (Env.of (OA e ks)) (Mem.of (KN m is)):=Wk.to (Hg ks) (KO is hm) hr (cF kA)
section
variable {P:Program} {N:Nat} {pr:Nat→Prop} {Q:Exit→Env→Mem→Prop} {e:Env} {m:Mem} {ops:Array Oper} {l:List Oper} {KE:Env→Mem→Prop} {i:Nat} {op:Op} {ty:TypeId} {pos:String} {af:Array Edge} {want:Bool} {j:Nat}
theorem aK {b:Bool} (hb:b=want) (h:LOp P pr [] ⟨some i,op,ty,pos,af,some (j,want)⟩ (dZ e) m fun lv m'=>cH P N pr ops l KE (e.put i lv) m') (hj:∃ q,(ops[j]?).bind (·.dst)=some q∧e q=.bool b:=by exact ⟨_,rfl,rfl⟩):cH P N pr ops (⟨some i,op,ty,pos,af,some (j,want)⟩ :: l) KE e m:=by
 obtain ⟨q,h1,h2⟩:=hj
 exact sT h1 (h2.trans (congrArg LV.bool hb)) h
theorem bl {t:Bool} (hn:t=!want) (h:cH P N pr ops l KE (e.put i (.tup [])) m) (hj:∃ q,(ops[j]?).bind (·.dst)=some q∧e q=.bool t:=by exact ⟨_,rfl,rfl⟩):cH P N pr ops (⟨some i,op,ty,pos,af,some (j,want)⟩ :: l) KE e m:=by
 obtain ⟨q,h1,h2⟩:=hj
 exact sF h1 h2 hn h
end
section
variable {P:Program} {pr:Nat→Prop} {ro:List Nat} {ev:Operand→LV} {m:Mem} {K:LV→Mem→Prop} {d:Option Nat} {ty:TypeId} {pos:String} {af:Array Edge} {g:Option (Nat × Bool)} {x y z:Operand}
theorem df {a u:Bool} (ha:a=true) (hy:ev y=.bool u) (h:K (.bool u) m) (hc:ev x=.bool a:=by exact rfl):LOp P pr ro ⟨d,.pick x y z,ty,pos,af,g⟩ ev m K:=F6 (hc.trans (congrArg LV.bool ha)) hy h
theorem bY {a u:Bool} (ha:a=false) (hz:ev z=.bool u) (h:K (.bool u) m) (hc:ev x=.bool a:=by exact rfl):LOp P pr ro ⟨d,.pick x y z,ty,pos,af,g⟩ ev m K:=Jr (hc.trans (congrArg LV.bool ha)) hz h
end
theorem nX {α:Type} {r:α} {C:Prop} (h:Option.none=some r):C:=by cases h
section
variable {P:Program} {N:Nat} {pr:Nat→Prop} {Q:Exit→Env→Mem→Prop} {e e1:Env} {m m1:Mem} {l:List Oper} {xV:Nat} {yc:Code} {ops:Array Oper}
theorem LH.oq (hd:gX N l=true) (h:cH P N pr l.toArray l (fun e m=>Wk pr e m e1 m1) e m) (hr:Q .normal e1 m1):LH P N pr (.region xV l.toArray false) Q e m:=by
 obtain ⟨e',m',hK,dD⟩:=h (pN hd) (by simp)
 refine ⟨.normal,_,_,og.post (e':=e') (m':=m') (fun c a hr=>?_) hK,hr⟩
 refine wp_region ?_
 rw [List.size_toArray,List.range_eq_range',wpOps_eq_wpList l 0 (by simp)]
 exact dD c a hr
theorem LH.cM (hd:gX N l=true) (h:cH P N pr l.toArray l (fun e m=>Wk pr e m e1 m1) e m) (hr:LH P N pr yc Q e1 m1):LH P N pr (.seq (.region xV l.toArray false) yc) Q e m:=LH.seq (LH.oq hd h hr)
theorem LH.mu (sZ:P.follows .mixedOrders=true) (ro:List Nat) (eh:List Nat) (hlen:eh.length=l.length) (hd:gX N l=true) (iD:vv l.toArray eh=true)
  (h:cE P pr ro l.toArray (l.zip eh) (fun e m=>Wk pr e m e1 m1) e m) (hr:Q .normal e1 m1):LH P N pr (.region xV l.toArray true) Q e m:=by
 obtain ⟨e',m',hK,hc⟩:=jJ _ h
 rw [← qb l eh hlen] at hc
 obtain ⟨ex,e2,m2,h1,h2⟩:=LH.A3 (Q:=fun ex e m=>ex=.normal∧e=e'∧m=m') sZ ro eh hd iD hc ⟨rfl,rfl,rfl⟩
 obtain ⟨rfl,rfl,rfl⟩:=h2
 exact ⟨.normal,_,_,h1.post hK,hr⟩
theorem LH.lN (sZ:P.follows .mixedOrders=true) (ro:List Nat) (eh:List Nat) (hlen:eh.length=l.length) (hd:gX N l=true) (iD:vv l.toArray eh=true)
  (h:cE P pr ro l.toArray (l.zip eh) (fun e m=>Wk pr e m e1 m1) e m) (hr:LH P N pr yc Q e1 m1):LH P N pr (.seq (.region xV l.toArray true) yc) Q e m:=LH.seq (LH.mu sZ ro eh hlen hd iD h hr)
theorem zV {ro:List Nat}:cE P pr ro ops (List.zip [] []) (fun e1 m1=>Wk pr e1 m1 e m) e m:=m0 (Wk.refl pr e m)
theorem LH.bW {el:List (Nat × LV)} {ml lA:List (Nat × LE)} {c:Code} (I:Nat→Env→Mem→Prop) (n:Nat) (h0:I n (Env.of el) (Mem.of ml)) (h:∀ n e m,I n e m→LH P N (fun id=>Mem.of lA id ≠ .none) c (tl (fun id=>Mem.of lA id ≠ .none) I n Q) e m) (he:Env.look e el=el:=by exact rfl) (hm:Mem.look m ml=KI ml:=by exact rfl) (hr:aQ (el.map fun p=>(p.1,e p.1)) ml=true:=by exact rfl) (kA:(lA.all fun p=>ml.any fun q=>q.1 == p.1)=true:=by exact rfl):LH P N (fun id=>Mem.of lA id ≠ .none) (.loop c) Q e m:=LH.wk (Wk.eq he hm hr kA) (LH.loop I n h0 h)
theorem zB {lA:List (Nat × LE)} {cs:List LV} (ks is:List Nat) (id:Nat) (bX:Mem.of (KN m is) id=some (.box cs)) (hm:(is.all fun i=>(m i).isSome)=true:=by exact rfl) (hr:aQ ((OA e ks).map fun p=>(p.1,e p.1)) (KN m is)=true:=by exact rfl) (kA:(lA.all fun p=>(KN m is).any fun q=>q.1 == p.1)=true:=by exact rfl) (hp:LV.bf cs=true:=by exact rfl) (na:tH id (KN m is)=true:=by exact rfl) (hn:Mem.of lA id=.none:=by exact rfl):Wk (fun id=>Mem.of lA id ≠ .none) e m (Env.of ((OA e ks).map fun p=>(p.1,p.2.dz id cs))) (Mem.of ((KN m is).filter fun p=>p.1 != id)):=Wk.trans (bQ ks is hm hr kA) (Wk.dz id cs bX hp na (cv hn))
theorem LH.cd {x:Operand} {y z:Code} {t:Bool} {α:Type} {a b:Option α} {r:α} (h:(if t=true then a else b)=some r) (hx:dZ e x=.bool t) (h1:t=true→a=some r→LH P N pr y Q e m) (h2:t=false→b=some r→LH P N pr z Q e m):LH P N pr (.cond x y z) Q e m:=LH.cond hx (fun q=>h1 q (bO h q)) fun q=>h2 q (bN h q)
end
section
variable {P:Program} {N:Nat} {pr:Nat→Prop} {ops:Array Oper} {KE:Env→Mem→Prop} {m:Mem}
def Vt (ops:Array Oper):List Oper→Env→List Oper × Env
 | ⟨some i,op,ty,pos,af,some (j,w)⟩ :: l,e=>match (ops[j]?).bind (·.dst) with
  | .none=>(⟨some i,op,ty,pos,af,some (j,w)⟩ :: l,e)
  | some q=>match e q,w with
   | .bool true,false=>Vt ops l (e.put i (.tup []))
   | .bool false,true=>Vt ops l (e.put i (.tup []))
   | .tup [],_=>Vt ops l (e.put i (.tup []))
   | _,_=>(⟨some i,op,ty,pos,af,some (j,w)⟩ :: l,e)
 | l,e=>(l,e)
theorem sK:∀ {l:List Oper} {e:Env},cH P N pr ops (Vt ops l e).1 KE (Vt ops l e).2 m→cH P N pr ops l KE e m:=by
 intro l
 induction l with
 | nil=>intro e h; exact h
 | cons o l ih =>
  intro e h
  rcases o with ⟨_ | i,op,ty,pos,af,_ | ⟨j,w⟩⟩ <;> try exact h
  unfold Vt at h
  split at h
  ·exact h
  ·rename_i q hq
   split at h
   ·rename_i hv; exact sF hq hv rfl (ih h)
   ·rename_i hv; exact sF hq hv rfl (ih h)
   ·rename_i hv; exact sU hq hv (ih h)
   ·exact h
end
theorem zA {X:Prop} (h:X:=by repeat (first | exact zS | refine sN (F6 (v:=.bool _) rfl rfl ?_) | refine sN (Jr (v:=.bool _) rfl rfl ?_) | refine sF rfl rfl rfl ?_ | refine sU rfl rfl ?_ | refine bS rfl ?_)):X:=h
theorem LH.dF {P:Program} {N:Nat} {pr:Nat→Prop} {Q:Exit→Env→Mem→Prop} {e:Env} {m:Mem} {l:List Oper} {xV:Nat} {yc:Code} (ks:List Nat) (d:Nat) (b:Bool) (is:List Nat) (hd:gX N l=true) (h:cH P N pr l.toArray l (fun e1 m1=>Wk pr e1 m1 (Env.of (OA e ks++[(d,.bool b)])) (Mem.of (KN m is))) e m) (hr:LH P N pr yc Q (Env.of (OA e ks++[(d,.bool b)])) (Mem.of (KN m is))):LH P N pr (.seq (.region xV l.toArray false) yc) Q e m:=LH.cK _ _ hd h hr
theorem UJ {X:Prop} (h:X:=by repeat (first | exact Sub.rfl | exact fF | refine Sub.tup ?_ | refine Sub.agg ?_ | refine bZ ?_ | refine Oo ?_ | refine UE ?_ ?_)):X:=h
theorem lY {m:Mem} {lA ml:List (Nat × LE)} {v xQ:LV} (hm:Mem.look m ml=KI ml:=by exact rfl) (hk:aQ [(0,v)] ml=true:=by exact rfl) (hp:(lA.all fun p=>ml.any fun q=>q.1 == p.1)=true:=by exact rfl) (hs:Sub v xQ:=by exact UJ):(∀ p ∈ ml,m p.1=some p.2)∧aQ [(0,v)] ml=true∧(∀ id,Mem.of lA id ≠ .none→m id=.none ∨ Mem.of ml id ≠ .none)∧Sub v xQ:=⟨gP (pt hm),hk,cF hp,hs⟩
theorem ba {P:Program} {fn:Func} {i:Nat} {xQ:LV} {e:Env} {m:Mem} {ml lA:List (Nat × LE)} (hr:fn.results.toList=[.tmp i]) (hv:e i=xQ:=by exact rfl) (hm:Mem.look m ml=KI ml:=by exact rfl) (hk:aQ [(0,xQ)] ml=true:=by exact rfl) (hp:(lA.all fun p=>ml.any fun q=>q.1 == p.1)=true:=by exact rfl):GX P fn (fun id=>Mem.of lA id ≠ .none) (Ends xQ ml) .ret e m:=bL hr (dx hv (dN ⟨gP (pt hm),hk,cF hp,Sub.rfl⟩))
section
variable {P:Program} {pr:Nat→Prop} {ro:List Nat} {ev:Operand→LV} {m:Mem} {K:LV→Mem→Prop} {d:Option Nat} {ty:TypeId} {pos:String} {af:Array Edge} {g:Option (Nat × Bool)} {x:Operand} {xs:List Operand} {ts:Array TypeId} {f:Nat} {ew:List LV} {v:LV} {ml eD:List (Nat × LE)}
theorem dh (hf:di P f) (hc:aF P f ew (Mem.of []) v (Mem.of [])) (h:K v m) (hx:∃ cap args,ev x=.fn f cap∧xs.map ev++cap=args∧fc args ew∧LV.bf args=true:=by exact ⟨_,_,rfl,rfl,UJ,rfl⟩):LOp P pr ro ⟨d,.call ⟨.value x,xs.toArray,ts⟩,ty,pos,af,g⟩ ev m K:=by
 obtain ⟨cap,args,h1,h2,h3,h4⟩:=hx
 exact F5 h1 hf h2 h3 hc h4 h
theorem gq (hf:di P f) (hc:aF P f ew (Mem.of ml) v (Mem.of eD)) (h:K v (m.over (Mem.of eD))) (hx:∃ cap args,ev x=.fn f cap∧xs.map ev++cap=args∧fc args ew∧aQ (args.map fun x=>(0,x)) ml=true:=by exact ⟨_,_,rfl,rfl,UJ,rfl⟩) (hm:Mem.look m ml=KI ml:=by exact rfl) (hn:(eD.all fun p=>(ml.any fun q=>q.1 == p.1) || (m p.1).isNone)=true:=by exact rfl):LOp P pr ro ⟨d,.call ⟨.value x,xs.toArray,ts⟩,ty,pos,af,g⟩ ev m K:=by
 obtain ⟨cap,args,h1,h2,h3,h4⟩:=hx
 refine mw h1 hf h2 h3 hc (pt hm) (fun p hp=>?_) h4 h
 have:=List.all_eq_true.1 hn p hp
 rw [Bool.or_eq_true] at this
 exact this.imp id fun q=>by simpa using q
end
theorem LH.tr {P:Program} {N:Nat} {pr:Nat→Prop} {Q:Exit→Env→Mem→Prop} {e:Env} {m:Mem} {l:List Oper} {xV:Nat} {yc:Code} (ks:List Nat) (d:Nat) (b:Bool) (ml:List (Nat × LE)) (hd:gX N l=true) (h:cH P N pr l.toArray l (fun e1 m1=>Wk pr e1 m1 (Env.of (OA e ks++[(d,.bool b)])) (Mem.of ml)) e m) (hr:LH P N pr yc Q (Env.of (OA e ks++[(d,.bool b)])) (Mem.of ml)):LH P N pr (.seq (.region xV l.toArray false) yc) Q e m:=LH.cK _ _ hd h hr
theorem cJ {P:Program} {pr:Nat→Prop} {ro:List Nat} {ops:Array Oper} {KE:Env→Mem→Prop} {e:Env} {m:Mem} {l:List Oper} {eh:List Nat} {i:Nat} {op:Op} {ty:TypeId} {pos:String} {af:Array Edge} {want:Bool} {j md:Nat} {t:Bool} (hn:t=!want) (h:cE P pr ro ops (List.zip l eh) KE (e.put i (.tup [])) m) (hj:∃ q,(ops[j]?).bind (·.dst)=some q∧e q=.bool t:=by exact ⟨_,rfl,rfl⟩):cE P pr ro ops (List.zip (⟨some i,op,ty,pos,af,some (j,want)⟩ :: l) (md :: eh)) KE e m:=by
 obtain ⟨q,h1,h2⟩:=hj
 exact mF h1 h2 hn h
end Go.L
namespace Go.L
section
variable {P:Program} {N:Nat} {pr:Nat→Prop} {e:Env} {m:Mem} {α β:Type} {f:α→LV} {g:β→LV}
end
end Go.L
namespace Go.L
open Go.Sort Go.Proofs Go.Shelf Go.Lib
def KT (xs:List Int):Option (List Int):=if xs.length<1000000 then some (Lib.compact xs) else .none
theorem BM (xs:List Int):(Lib.compact xs).length≤xs.length:=by
 unfold Lib.compact compactUpTo
 rw [List.length_map]
 exact Nat.le_trans (List.length_filter_le _ _) (by simp)
theorem F9 {P:Program} {pr:Nat→Prop} {ev:Operand→LV} {m:Mem} {ρ:Ren} (L:Lays2.n20 P ρ) {f id e0:Nat} (hf:ρ.f 20=f) {x:Operand} {ts:Array TypeId} {d:Option Nat} {ty:TypeId} {pos:String} {af:Array Edge} {gd:Option (Nat × Bool)} {xs r:List Int}
  (hF : ∃ fn, P.funcs[f]? = some fn ∧ (fn.name == "runtime.NumGoroutine") = false ∧ fn.body.isNone = false) (hx : ev x = .arr id xs.length) (bX : m id = some (.arr e0 1 (xs.map (LV.int .i64)))) (kA : ¬ pr id) (j3 : HB id m) (hi : KT xs = some r) :
  oY P pr id ⟨d,.call ⟨.value (.func f),#[x],ts⟩,ty,pos,af,gd⟩ ev m (.arr id r.length) (m.put id (.arr e0 1 (r.map (LV.int .i64)))):=by
 unfold KT at hi
 split at hi
 case isFalse=>cases hi
 rename_i hlen
 obtain rfl:=Option.some.inj hi
 have Cg:=BM xs
 have hL:((Lib.compact xs).map (LV.int .i64)).length=(Lib.compact xs).length:=by simp
 rw [← hL]
 refine oY.of (n:=xs.length) (n':=0) kA j3 fun c a bG hm=>?_
 have h1:=bG x
 rw [hx] at h1
 obtain ⟨us,hB,hk,bt,hl,hc,hp⟩:=gi hm h1 bX (by simp)
 have E0:=nN (fun x:Int=>x) hl
 subst E0
 rw [iL (fun x:Int=>x)] at bt
 have Cb:(xs.map fun x=>LV.int .i64 x).length=xs.length:=by simp
 rw [Cb] at bt hB
 refine ⟨a.eval x,f,_,(Lib.compact xs).map fun x=>Value.int .i64 x,hB,K1 hF a c.w,?_,pw (fun x:Int=>x) _,?_,nm (fun x:Int=>x) _,by decide⟩
 ·subst hf
  rw [iL (fun x:Int=>x),hL]
  rw [show (#[x]:Array Operand).map a.eval=#[a.eval x] from by simp]
  rcases bt.2 with ⟨hv,h0⟩ | ⟨jK,cp,cur,hv,_,hg,mG,hcm,hcs,uP⟩
  ·have Bm:xs=[]:=List.length_eq_zero_iff.1 h0
   subst Bm
   rw [hv]
   refine (Any.slices_Compact_int_empty L none 0 c.w).mono ?_
   rintro Qn w' ⟨rfl,rfl⟩
   refine ⟨_,rfl,?_,⟨rfl,rfl,rfl,Nat.le_refl _,fun _ _ _=>rfl⟩,fun b hb=>.inl hb,Nat.le_refl _⟩
   exact World.ownsRow_nil c.w 0 e0 1
  ·rw [hv]
   have FA:∀ j,j<xs.length→cur[j]?=some (.int .i64 xs[j]!):=by
    intro j hj
    have h1:=congrArg (fun l=>l[j]?) uP
    simp only [List.getElem?_take,Nat.mul_one,List.getElem?_map] at h1
    rw [if_pos hj] at h1
    rw [← Array.getElem?_toList,h1]
    simp [hj]
   have hH:Holds (Value.int .i64) c.w jK 0 xs.toArray:=by
    intro j hj
    have Bh:j<xs.length:=by simpa using hj
    constructor
    ·simp [World.cell?,hg,FA j Bh]
    ·simp [World.frozen?,hg]
   refine (Any.slices_Compact_int L jK 0 cp xs c.w hH (by omega) mG).mono ?_
   rintro Qn w' ⟨rfl,q,rfl⟩
   have afU:cur.size=cp:=by simpa using hcs
   have oG:(putRow (Value.int .i64) (Sort.ahead c.w q) jK 0 (Lib.compact xs++List.replicate (xs.length - (Lib.compact xs).length) 0).toArray).heap[jK]?=some (.cells (putCells (Value.int .i64) 0 (Lib.compact xs++List.replicate (xs.length - (Lib.compact xs).length) 0).toArray cur) e0 (0,0)):=by
    simp only [putRow,mapBlock,ahead]
    rw [Array.getElem?_modify]
    simp [hg,onCells]
   refine ⟨_,rfl,⟨by simp,.inr ⟨jK,cp,_,rfl,Nat.zero_le _,oG,by omega,hcm,by simpa [putCells] using hcs,?_⟩⟩,⟨rfl,rfl,rfl,by simp [putRow,mapBlock,ahead],fun k hk eO=>?_⟩,fun b hb=>.inl hb,Nat.le_add_right _ _⟩
   ·apply List.ext_getElem?
    intro j
    by_cases hj:j<(Lib.compact xs).length
    ·rw [List.getElem?_take,if_pos (by omega),Array.getElem?_toList]
     simp only [putCells,Array.getElem?_mapIdx,Nat.zero_le,Nat.zero_add,Nat.sub_zero,true_and]
     rw [Array.getElem?_eq_getElem (by omega)]
     have h3:j<(Lib.compact xs).length+(xs.length - (Lib.compact xs).length):=by omega
     simp [hj,h3,List.getElem?_append_left hj]
    ·rw [List.getElem?_take,if_neg (by omega),List.getElem?_eq_none (by simp; omega)]
   ·simp only [putRow,mapBlock,ahead]
    rw [Array.getElem?_modify]
    have:jK ≠ k:=fun h=>eO (by simp [Value.ownBlock,h])
    simp [this]
 ·intro v hv
  obtain ⟨y,_,rfl⟩:=List.mem_map.1 hv
  exact ⟨rfl,fun z hz=>by simp [Value.cells] at hz; subst hz; rfl⟩
end Go.L
namespace Go.L
open Go.RowKit
abbrev cx0 (w:World):Cx:=⟨w,fun _=>.none,fun _=>False⟩
theorem rpN {c:Cx}:aD c [] []:=by simp [aD]
theorem rpC {c:Cx} {x:LV} {v:Value} {xs:List LV} {vs:List Value} (h:ao c x v) (hr:aD c xs vs):aD c (x :: xs) (v :: vs):=by simp only [aD]; exact ⟨v,vs,rfl,h,hr⟩
theorem rpI {c:Cx} {k:IntKind} {n:Int}:ao c (.int k n) (.int k n):=by simp [ao]
theorem noX (w:World) (b:Nat):¬ (cx0 w).X b:=by
 rintro (h | ⟨_,_,h,_⟩)
 ·exact h
 ·cases h
theorem Ij {c:Cx} {k:IntKind}:∀ (zs:List Int),aD c (zs.map (LV.int k)) (zs.map (Value.int k))
 | []=>by simp [aD]
 | z :: zs=>rpC rpI (Ij zs)
theorem BQ {k:IntKind}:∀ (zs:List Int),flat (zs.map (Value.int k))=zs.map (Value.int k)
 | []=>rfl
 | z :: zs=>by
  have:=BQ (k:=k) zs
  simp only [flat,List.map_cons,List.flatMap_cons,Value.cells] at this ⊢
  rw [this]; rfl
theorem rpR {k:IntKind} {w:World} {a:Option Addr} {len cap:Nat} {zs:List Int} (h:(a=.none∧len=0∧cap=0∧zs=[]) ∨ ∃ x,a=some x∧len≤cap∧cap≤maxLen∧zs.length=cap∧(∀ i,i<zs.length→w.cell? (x.add i)=some (.int k (zs.getD i 0)))∧∀ n ∈ zs,(Lit.int k n).wf=true) :
  ao (cx0 w) (.lst 1 (List.map (LV.int k) (zs.take len))) (.slice a len cap):=by
 rcases h with ⟨rfl,rfl,rfl,rfl⟩ | ⟨x,rfl,hl,hm,hz,hcell,_⟩
 ·simp only [ao]
  exact ⟨.none,0,rfl,Nat.le_refl _,fun _=>rfl,rfl,.inl rfl⟩
 ·simp only [ao]
  have hlen:(List.map (LV.int k) (zs.take len)).length=len:=by simp; omega
  refine ⟨some x,cap,by rw [hlen],by omega,(fun h=>by cases h),dg.2 fun y hy=>?_,?_⟩
  ·obtain ⟨n,_,rfl⟩:=List.mem_map.1 hy; rfl
  ·by_cases h0:len=0
   ·left; subst h0; simp
   ·right
    obtain ⟨b,off,spot⟩:=x
    have hc:=hcell 0 (by omega)
    have WL:spot=.none:=by simpa [Addr.add] using World.cell?_spot hc
    subst WL
    refine ⟨b,off,(zs.take len).map (Value.int k),rfl,?_,noX w b,Ij _,?_,?_⟩
    ·by_cases hlt:b<w.heap.size
     ·exact hlt
     ·have:w.heap[b]?=.none:=by simp; omega
      simp [World.cell?,Addr.add,this] at hc
    ·intro u hu
     obtain ⟨n,_,rfl⟩:=List.mem_map.1 hu
     exact ⟨rfl,fun y hy=>by simp [Value.cells] at hy; subst hy; rfl⟩
    ·rw [BQ]
     intro j v hv
     simp only [List.getElem?_map,List.getElem?_take] at hv
     split at hv
     ·rename_i hj
      have Lt:j<zs.length:=by omega
      have:=hcell j Lt
      simp [Lt] at hv
      have Se:(Addr.mk b off .none).add j=Addr.mk b (off+j) .none:=by
       simp only [Addr.add]; split
       ·rename_i h; subst h; rfl
       ·rfl
      rw [Se] at this
      rw [this,← hv]; simp [Lt]
     ·cases hv
theorem Z8 {P:Program} {f:Nat} {args:List LV} (h:aF P f args (Mem.of []) (.bool true) (Mem.of [])) (w:World) (vs:List Value) (ha:aD (cx0 w) args vs) :
  Calls P f vs.toArray w fun e w'=>e=.returned (.bool true)∧Below w.heap.size w w':=by
 refine (ve.calls h w vs ha).mono ?_
 rintro en w' ⟨⟨v,c',rfl,rfl,hv⟩,hb⟩
 simp only [ao] at hv
 subst hv
 exact ⟨rfl,hb⟩
end Go.L
