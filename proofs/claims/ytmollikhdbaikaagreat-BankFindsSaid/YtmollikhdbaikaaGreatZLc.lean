import Derived.Test.YtmollikhdbaikaaGreatZLb
import Derived.Shelf.SlSortCmp.NoneTotal
import Derived.Test.YtmollikhdbaikaaGreatZLa
import Derived.Laws.Strings
import Derived.Laws.Concat
import Derived.Laws.BytesString
import Derived.Shelf.Sort.Plain
import Derived.Shelf.Slices.In.SortNone
import Derived.Below
set_option linter.unusedVariables false
set_option linter.unusedSimpArgs false
namespace Go.L
def vL (n:Nat) (ops:Array Oper) (ey:List Nat):Bool :=
 (List.range ops.size).all fun i=>match ops[i]? with
  | some o=>(o.after.toList.all fun e=>!Region.binds .any e || decide (e.on<i)) && (List.range i).all fun k=>match ops[k]? with
   | some q=>(Nat.blt i n && zb ops (q,ey.getD k 2) (o,ey.getD i 2)) || ahead ops 8 k i
   | .none=>true
  | .none=>true
section
variable {P:Program} {N:Nat} {pr:Nat→Prop}
theorem kJ {ops:Array Oper} {n:Nat} {ey:List Nat} (gM:vL n ops ey=true) {aR:Array Bool} (e5:aR.size=ops.size)
  (lA:∀ i o,ops[i]?=some o→aR.getD i true=true→∀ e ∈ o.after,Region.binds .any e=true→aR.getD e.on false=true) :
  (∀ i ∈ Region.ready .any ops aR,i ∈ left ops aR∧∀ o,ops[i]?=some o→∀ e ∈ o.after,Region.binds .any e=true→aR.getD e.on false=true) ∧
  (∀ i ∈ Region.ready .any ops aR,n≤i→∀ k,k<i→k ∉ left ops aR) ∧
  (Region.ready .any ops aR=[]→left ops aR=[]):=by
 have xw:=List.all_eq_true.1 gM
 have oE:∀ i ∈ Region.ready .any ops aR,i ∈ left ops aR∧∀ o,ops[i]?=some o→∀ e ∈ o.after,Region.binds .any e=true→aR.getD e.on false=true:=by
  intro i hi
  unfold Region.ready at hi
  simp only [List.mem_filter,Bool.and_eq_true] at hi
  refine ⟨by unfold left; exact List.mem_filter.2 ⟨hi.1,hi.2.1⟩,fun o ho e he hb=>?_⟩
  have h2:=hi.2.2
  rw [ho] at h2
  simp only [Option.map_some,Option.getD_some] at h2
  have:=(Array.all_eq_true_iff_forall_mem.1 h2) e he
  simpa [hb] using this
 refine ⟨oE,fun i hi Uw k xC hk=>?_,fun py=>?_⟩
 ·obtain ⟨xB,qa⟩:=oE i hi
  have gE:=xB
  unfold left at gE
  simp only [List.mem_filter,List.mem_range] at gE
  have dY:=gE.1
  have sS:ops[i]?=some (ops[i]'dY):=by simp [dY]
  have h1:=xw i (by simpa using dY)
  rw [sS] at h1
  simp only [Bool.and_eq_true,List.all_eq_true] at h1
  have h2:=h1.2 k (by simpa using xC)
  have E6:ops[k]?=some (ops[k]'(by omega)):=by simp [show k<ops.size by omega]
  rw [E6] at h2
  have Sf:Nat.blt i n=false:=by
   cases hb:Nat.blt i n with
   | false=>rfl
   | true=>have:=Nat.le_of_ble_eq_true hb; omega
  simp only [Sf,Bool.false_and,Bool.false_or] at h2
  have h3:=jK lA e5 8 k i _ sS (qa _ sS) h2
  unfold left at hk
  simp only [List.mem_filter,List.mem_range] at hk
  have h5:k<aR.size:=by omega
  have h6:=hk.2
  simp [h5] at h3 h6
  rw [h3] at h6; cases h6
 ·have Fb:(left ops aR).Pairwise (·<·):=by unfold left; exact List.Pairwise.filter _ List.pairwise_lt_range
  cases hl:left ops aR with
  | nil=>rfl
  | cons i r =>
   exfalso
   have xB:i ∈ left ops aR:=by rw [hl]; simp
   have gE:=xB
   unfold left at gE
   simp only [List.mem_filter,List.mem_range] at gE
   have dY:=gE.1
   have sS:ops[i]?=some (ops[i]'dY):=by simp [dY]
   have Nn:i ∈ Region.ready .any ops aR:=by
    unfold Region.ready
    simp only [List.mem_filter,List.mem_range,Bool.and_eq_true]
    refine ⟨dY,gE.2,?_⟩
    rw [sS]
    simp only [Option.map_some,Option.getD_some]
    rw [Array.all_eq_true_iff_forall_mem]
    intro e he
    by_cases hb:Region.binds .any e=true
    ·have h1:=xw i (by simpa using dY)
     rw [sS] at h1
     simp only [Bool.and_eq_true,List.all_eq_true] at h1
     have h2:=h1.1 e (by simpa using he)
     simp only [hb,Bool.not_true,Bool.false_or,decide_eq_true_eq] at h2
     have h3:e.on ∉ left ops aR:=by
      rw [hl]
      intro hm
      rw [hl] at Fb
      rcases List.mem_cons.1 hm with h4 | h4
      ·omega
      ·have:=(List.pairwise_cons.1 Fb).1 _ h4; omega
     unfold left at h3
     simp only [List.mem_filter,List.mem_range,not_and] at h3
     have h4:=h3 (by omega)
     have h5:e.on<aR.size:=by omega
     simp only [hb,Bool.not_true,Bool.false_or]
     simpa [h5] using h4
    ·simp [hb]
   rw [py] at Nn; cases Nn
theorem xO {ops:Array Oper} {aR:Array Bool} (e5:aR.size=ops.size) (i:Nat):left ops (aR.setIfInBounds i true)=(left ops aR).filter fun k=>k != i:=by
 unfold left
 rw [List.filter_filter]
 apply List.filter_congr
 intro k hk
 have hk:=List.mem_range.1 hk
 by_cases xC:k=i
 ·subst xC
  have:k<aR.size:=by omega
  simp [this]
 ·simp [Array.getElem?_setIfInBounds_ne (Ne.symm xC),xC]
theorem sq {ops:Array Oper} {aR:Array Bool} (e5:aR.size=ops.size) (lA:∀ i o,ops[i]?=some o→aR.getD i true=true→∀ e ∈ o.after,Region.binds .any e=true→aR.getD e.on false=true) {i:Nat} (qa:∀ o,ops[i]?=some o→∀ e ∈ o.after,Region.binds .any e=true→aR.getD e.on false=true) (hi:i<ops.size) :
  ∀ j o,ops[j]?=some o→(aR.setIfInBounds i true).getD j true=true→∀ e ∈ o.after,Region.binds .any e=true→(aR.setIfInBounds i true).getD e.on false=true:=by
 intro j o Nz hj e he hb
 have iN:∀ q,aR.getD q false=true→(aR.setIfInBounds i true).getD q false=true:=by
  intro q hq
  by_cases NG:q=i
  ·subst NG
   have:q<aR.size:=by omega
   simp [this]
  ·simpa [Array.getElem?_setIfInBounds_ne (Ne.symm NG)] using hq
 apply iN
 by_cases HQ:j=i
 ·subst HQ; exact qa o Nz e he hb
 ·refine lA j o Nz ?_ e he hb
  simpa [Array.getElem?_setIfInBounds_ne (Ne.symm HQ)] using hj
theorem ua {n:Nat} {ops:Array Oper} {ey:List Nat} (gM:vL n ops ey=true) {Q:Exit→Act→World→Prop}:∀ (s:List Oper) (j fuel:Nat) (aR:Array Bool) (a:Act) (w:World),n≤j→j+s.length=ops.size→(∀ i,s[i]?=ops[j+i]?)→aR.size=ops.size→s.length≤fuel→left ops aR=(List.range' j s.length) →
  (∀ i o,ops[i]?=some o→aR.getD i true=true→∀ e ∈ o.after,Region.binds .any e=true→aR.getD e.on false=true)→wpList P ops Q s a w→wpAny P .any ops Q fuel aR a w
 | [],j,fuel,aR,a,w,hj,hs,SN,e5,hf,hl,lA,h=>by
  obtain ⟨g1,g2,g3⟩:=kJ gM e5 lA
  have ew:Region.ready .any ops aR=[]:=by
   rw [List.eq_nil_iff_forall_not_mem]
   intro i hi
   have:=(g1 i hi).1
   rw [hl] at this; cases this
  cases fuel with
  | zero=>exact ⟨ew,h⟩
  | succ fuel=>exact ⟨fun _=>h,fun i hi=>by rw [ew] at hi; cases hi⟩
 | o :: s,j,fuel,aR,a,w,hj,hs,SN,e5,hf,hl,lA,h=>by
  obtain ⟨g1,g2,g3⟩:=kJ gM e5 lA
  cases fuel with
  | zero=>simp at hf
  | succ fuel =>
   refine ⟨fun py=>?_,fun i hi=>?_⟩
   ·have:=g3 py
    rw [hl] at this; simp [List.range'] at this
   ·obtain ⟨xB,qa⟩:=g1 i hi
    rw [hl] at xB
    simp only [List.mem_range'_1,List.length_cons] at xB
    have rI:i=j:=by
     rcases Nat.lt_or_ge j i with dY | Nf
     ·exact absurd (by rw [hl]; simp [List.mem_range'_1]) (g2 i hi (by omega) j dY)
     ·omega
    subst rI
    have sS:ops[i]?=some o:=by have:=SN 0; simpa using this.symm
    have dY:i<ops.size:=by simp only [List.length_cons] at hs; omega
    have jJ:∀ a w,wpList P ops Q s a w→wpAny P .any ops Q fuel (aR.setIfInBounds i true) a w:=fun a w h' =>
     ua gM s (i+1) fuel (aR.setIfInBounds i true) a w (by omega) (by simp only [List.length_cons] at hs; omega) (fun k=>by have:=SN (k+1); simp only [List.getElem?_cons_succ] at this; rw [this]; congr 1; omega) (by simpa using e5) (by simp only [List.length_cons] at hf; omega) (by
      rw [xO e5,hl,List.length_cons,List.range'_succ,List.filter_cons]
      simp only [bne_self_eq_false,Bool.false_eq_true,if_false]
      rw [List.filter_eq_self.2]
      intro k hk
      have:=(List.mem_range'_1.1 hk).1
      simp; omega) (sq e5 lA qa dY) h'
    simp only [wpList] at h
    unfold wpOp
    rw [sS]
    simp only
    split
    ·rename_i hw
     rw [if_pos hw] at h
     exact h.imp (Oper.wp_mono jJ) (fun h=>h)
    ·rename_i hw
     rw [if_neg hw] at h
     exact jJ _ _ h
theorem LH.Ph {L0 n:Nat} {l:List Oper} {Q:Exit→Env→Mem→Prop} {e:Env} {m:Mem} (Ao:P.follows .mixedOrders=true) (ro:List Nat) (ey:List Nat) (RC:List (Nat × LV)) (uZ:List (Nat × LE)) (el:List (Nat × LV)) (ml:List (Nat × LE)) (hlen:ey.length=n) (hn:n≤l.length) (hd:om N l=true) (gM:vL n l.toArray ey=true)
  (h:cI P pr ro l.toArray ((l.take n).zip ey) (fun e m=>Wk pr e m (Env.of RC) (Mem.of uZ)) e m) (h2:cV P N pr l.toArray (l.drop n) (fun e m=>Wk pr e m (Env.of el) (Mem.of ml)) (Env.of RC) (Mem.of uZ)) (hr:Q .normal (Env.of el) (Mem.of ml)):LH P N pr (.region L0 l.toArray true) Q e m:=by
 obtain ⟨e1,m1,T8,hc⟩:=kE _ h
 obtain ⟨e2,m2,T9,dL⟩:=h2 (rH hd) (fun o ho=>by simp only [List.mem_toArray]; exact List.mem_of_mem_drop ho)
 refine ⟨.normal,_,_,fun c a hr=>?_,hr⟩
 have Tl:((List.range n).map fun i=>(l.getD i default,ey.getD i 2))=(l.take n).zip ey:=by
  have:=qt (l.take n) ey (by rw [hlen,List.length_take,Nat.min_eq_left hn])
  rw [← this,List.length_take,Nat.min_eq_left hn]
  apply List.map_congr_left
  intro i hi
  have hi:=List.mem_range.1 hi
  simp [List.getElem?_take,hi]
 rw [← Tl] at hc
 refine wp_region_any Ao ?_
 have M9:=rH hd
 have xw:=List.all_eq_true.1 gM
 have key : ∀ (fuel : Nat) (aR : Array Bool) (A : List Nat) (e0 : Env) (m0 : Mem) (c0 : Cx) (a0 : Act), aR.size = l.toArray.size → left l.toArray aR = A ++ List.range' n (l.length - n) → (∀ k ∈ A, k < n) → (left l.toArray aR).length ≤ fuel →
   (∀ i o,l.toArray[i]?=some o→aR.getD i true=true→∀ e ∈ o.after,Region.binds .any e=true→aR.getD e.on false=true) →
   nR P pr ro l.toArray (A.map fun i=>(l.getD i default,ey.getD i 2)) e0 m0 e1 m1→l9 N c0 e0 m0 a0→Grow pr c c0 →
   wpAny P .any l.toArray (fun x a' w'=>x=.normal∧∃ c':Cx,c'.w=w'∧l9 N c' (Env.of el) (Mem.of ml) a'∧Grow pr c c') fuel aR a0 c0.w:=by
  intro fuel
  induction fuel with
  | zero =>
   intro aR A e0 m0 c0 a0 e5 iq hA CR lA zy Fe vU
   have I4:left l.toArray aR=[]:=List.eq_nil_of_length_eq_zero (by omega)
   rw [I4] at iq
   have hA0:A=[]:=by cases A with | nil=>rfl | cons x A=>simp at iq
   subst hA0
   obtain ⟨rfl,rfl⟩:=zy
   obtain ⟨c1,Fy,ee,zB⟩:=T8 N c0 a0 Fe
   have hz:l.length - n=0:=by have:=congrArg List.length iq; simpa using this.symm
   have M8:l.drop n=[]:=List.eq_nil_of_length_eq_zero (by simpa using hz)
   have xG:=dL c1 a0 ee
   rw [M8] at xG
   obtain ⟨_,c2,qJ,fD,pw⟩:=xG
   obtain ⟨c3,Q5,nW,R3⟩:=T9 N c2 a0 fD
   refine ⟨?_,rfl,c3,by rw [Q5,qJ,Fy],nW,((vU.trans zB).trans pw).trans R3⟩
   obtain ⟨g1,g2,g3⟩:=kJ gM e5 lA
   rw [List.eq_nil_iff_forall_not_mem]
   intro i hi
   have:=(g1 i hi).1
   rw [I4] at this; cases this
  | succ fuel ih =>
   intro aR A e0 m0 c0 a0 e5 iq hA CR lA zy Fe vU
   obtain ⟨g1,g2,g3⟩:=kJ gM e5 lA
   by_cases hA0:A=[]
   ·subst hA0
    obtain ⟨rfl,rfl⟩:=zy
    obtain ⟨c1,Fy,ee,zB⟩:=T8 N c0 a0 Fe
    have xG:=dL c1 a0 ee
    rw [Fy] at xG
    rw [List.nil_append] at iq
    refine ua gM (l.drop n) n (fuel+1) aR a0 c0.w (Nat.le_refl _) (by simp; omega) (fun i=>by simp [List.getElem?_drop]) e5 (by rw [iq] at CR; simpa using CR) (by rw [iq,List.length_drop]) lA ?_
    refine gk _ _ _ _ _ ?_ xG
    rintro x a' w' ⟨rfl,c2,rfl,fD,pw⟩
    obtain ⟨c3,Q5,nW,R3⟩:=T9 N c2 a' fD
    exact ⟨rfl,c3,Q5,nW,((vU.trans zB).trans pw).trans R3⟩
   ·have Fb:(left l.toArray aR).Pairwise (·<·):=by unfold left; exact List.Pairwise.filter _ List.pairwise_lt_range
    refine ⟨fun py=>?_,fun i hi=>?_⟩
    ·exfalso
     have:=g3 py
     rw [iq] at this
     exact hA0 (List.append_eq_nil_iff.1 this).1
    ·obtain ⟨xB,qa⟩:=g1 i hi
     have D0:i<n:=by
      rcases Nat.lt_or_ge i n with h' | h'
      ·exact h'
      ·exfalso
       obtain ⟨k,hk⟩:=List.exists_mem_of_ne_nil A hA0
       exact g2 i hi h' k (by have:=hA k hk; omega) (by rw [iq]; simp [hk])
     have VF:i ∈ A:=by
      rw [iq] at xB
      rcases List.mem_append.1 xB with h' | h'
      ·exact h'
      ·have:=(List.mem_range'_1.1 h').1; omega
     have gE:=xB
     unfold left at gE
     simp only [List.mem_filter,List.mem_range] at gE
     have dY:=gE.1
     have KH:i<l.length:=by simpa using dY
     have sS:l.toArray[i]?=some (l.getD i default):=by simp [KH]
     obtain ⟨pre,post,jx⟩:=List.append_of_mem VF
     have KX:A.Pairwise (·<·):=by rw [iq] at Fb; exact (List.pairwise_append.1 Fb).1
     rw [jx] at KX
     have sW:∀ k ∈ pre,k<i:=fun k hk=>(List.pairwise_append.1 KX).2.2 k hk i (by simp)
     have vW:∀ k ∈ post,i<k:=fun k hk=>(List.pairwise_cons.1 (List.pairwise_append.1 KX).2.1).1 k hk
     have sQ:left l.toArray (aR.setIfInBounds i true)=(pre++post)++List.range' n (l.length - n):=by
      rw [xO e5,iq,jx,List.filter_append,List.filter_append,List.filter_cons]
      simp only [bne_self_eq_false,Bool.false_eq_true,if_false]
      rw [List.filter_eq_self.2 (fun k hk=>by have:=sW k hk; simp; omega),List.filter_eq_self.2 (fun k hk=>by have:=vW k hk; simp; omega),List.filter_eq_self.2 (fun k hk=>by have:=(List.mem_range'_1.1 hk).1; simp; omega)]
     rw [jx,List.map_append,List.map_cons] at zy
     have Al:=oK _ _ (by
      intro x hx
      simp only [List.mem_map] at hx
      obtain ⟨k,hk,rfl⟩:=hx
      have h1:=xw i (by simpa using dY)
      rw [sS] at h1
      simp only [Bool.and_eq_true,List.all_eq_true] at h1
      have xC:=sW k hk
      have h2:=h1.2 k (by simpa using xC)
      have E6:l.toArray[k]?=some (l.getD k default):=by simp [show k<l.length by omega]
      rw [E6] at h2
      simp only [Bool.or_eq_true,Bool.and_eq_true] at h2
      rcases h2 with h2 | h2
      ·exact h2.2
      ·exfalso
       have h3:=jK lA e5 8 k i _ sS (qa _ sS) h2
       have h4:k ∈ left l.toArray aR:=by rw [iq,jx]; simp [hk]
       unfold left at h4
       simp only [List.mem_filter,List.mem_range] at h4
       have h5:k<aR.size:=by omega
       have h6:=h4.2
       simp [h5] at h3 h6
       rw [h3] at h6; cases h6) zy
     obtain ⟨lv,mm,oC,jJ⟩:=Al
     unfold wpOp
     rw [sS]
     simp only
     refine xh M9 (M9 _ (Array.mem_of_getElem? sS)) oC c0 a0 _ _ Fe ?_
     intro a' c' rr Fk
     refine ih (aR.setIfInBounds i true) (pre++post) _ mm c' a' (by simpa using e5) sQ ?_ ?_ (sq e5 lA qa dY) ?_ rr (vU.trans Fk.grow)
     ·intro k hk
      refine hA k ?_
      rw [jx]
      rcases List.mem_append.1 hk with h' | h' <;> simp [h']
     ·rw [sQ]
      rw [iq,jx] at CR
      simp at CR ⊢; omega
     ·rw [List.map_append]; exact jJ
 have iq:left l.toArray (Array.replicate l.toArray.size false)=List.range n++List.range' n (l.length - n):=by
  unfold left
  rw [List.filter_eq_self.2]
  ·have hh:=List.range'_append_1 (s:=0) (m:=n) (n:=l.length - n)
   rw [Nat.zero_add] at hh
   rw [List.size_toArray,List.range_eq_range',List.range_eq_range',hh]
   congr 1; omega
  ·intro i hi
   simp at hi
   simp [hi]
 have rr:l9 N ⟨{ c.w with drawn:=c.w.drawn+1 },c.B,c.O,c.Q⟩ e m a:=by
  obtain ⟨iD,SL⟩:=hr.mem.ext (pr:=pr) { c.w with drawn:=c.w.drawn+1 } rfl rfl rfl (Nat.le_succ _) (Nat.le_refl _) (fun _ _=>rfl)
  exact ⟨fun i=>SL.wE (hr.env i),iD,hr.size,hr.defers⟩
 have sM:Grow pr c ⟨{ c.w with drawn:=c.w.drawn+1 },c.B,c.O,c.Q⟩:=(hr.mem.ext (pr:=pr) { c.w with drawn:=c.w.drawn+1 } rfl rfl rfl (Nat.le_succ _) (Nat.le_refl _) (fun _ _=>rfl)).2.grow
 refine key l.toArray.size (Array.replicate l.toArray.size false) (List.range n) e m ⟨{ c.w with drawn:=c.w.drawn+1 },c.B,c.O,c.Q⟩ a (by simp) iq (fun k hk=>List.mem_range.1 hk) ?_ ?_ hc rr sM
 ·unfold left
  exact Nat.le_trans (List.length_filter_le _ _) (by simp)
 ·intro i o ho hl
  have:i<l.toArray.size:=by
   rcases Nat.lt_or_ge i l.toArray.size with h' | h'
   ·exact h'
   ·simp at h'; simp [List.getElem?_eq_none h'] at ho
  simp at this
  simp [this] at hl
end
end Go.L
namespace Go.L
theorem Be {α:Type} {cf:α→α→Int} {ys zs:List α} (hp:zs.Perm ys) (hy:ys.Pairwise fun a b=>cf a b<0) (hz:zs.Pairwise fun a b=>¬ cf b a<0):zs=ys:=by
 induction ys generalizing zs with
 | nil=>exact hp.eq_nil
 | cons y ys ih =>
  obtain ⟨uq,Th⟩:=List.pairwise_cons.1 hy
  cases zs with
  | nil=>exact absurd hp.symm.eq_nil (by simp)
  | cons z zs =>
   obtain ⟨D7,Lr⟩:=List.pairwise_cons.1 hz
   have Tn:z=y:=by
    rcases List.mem_cons.1 (hp.mem_iff.1 (List.mem_cons_self)) with h | h
    ·exact h
    ·have h1:=uq z h
     rcases List.mem_cons.1 (hp.mem_iff.2 (List.mem_cons_self:y ∈ y :: ys)) with h2 | h2
     ·exact h2.symm
     ·exact absurd h1 (D7 y h2)
   subst Tn
   rw [ih (List.Perm.cons_inv hp) Th Lr]
def oe {α:Type} (c:α→α→Option Int) (xs ys:List α):Prop :=
 ys.Perm xs∧xs.length<1000000∧∃ cf:α→α→Int,(∀ x ∈ xs,∀ y ∈ xs,c x y=some (cf x y))∧(∀ x ∈ xs,¬ cf x x<0)∧(∀ x ∈ xs,∀ y ∈ xs,∀ z ∈ xs,cf x y<0→cf y z<0→cf x z<0) ∧
  (∀ x ∈ xs,∀ y ∈ xs,∀ z ∈ xs,¬ cf x y<0→¬ cf y z<0→¬ cf x z<0)∧ys.Pairwise fun a b=>cf a b<0
theorem oe.unique {α:Type} {c:α→α→Option Int} {xs ys zs:List α} (h:oe c xs ys) (h':oe c xs zs):ys=zs:=by
 obtain ⟨hp,_,cf,hc,_,ht,_,hs⟩:=h
 obtain ⟨As,_,Rx,wU,gn,_,_,Fk⟩:=h'
 refine Be (cf:=Rx) (hp.trans As.symm) Fk ?_
 refine List.Pairwise.imp_of_mem ?_ hs
 intro a b ha hb o4 Ue
 have ma:=hp.mem_iff.1 ha
 have mb:=hp.mem_iff.1 hb
 have h1:Rx b a=cf b a:=by have:=hc b mb a ma; rw [wU b mb a ma] at this; exact Option.some.inj this
 have h2:Rx a a=cf a a:=by have:=hc a ma a ma; rw [wU a ma a ma] at this; exact Option.some.inj this
 rw [h1] at Ue
 exact gn a ma (by rw [h2]; exact ht a ma b mb a ma o4 Ue)
open Classical in
noncomputable def pT {α:Type} (c:α→α→Option Int) (xs:List α):Option (List α):=if h:∃ ys,oe c xs ys then some h.choose else .none
theorem GZ {α:Type} {c:α→α→Option Int} {xs ys:List α} (h:oe c xs ys):pT c xs=some ys:=by
 have hx:∃ ys,oe c xs ys:=⟨ys,h⟩
 unfold pT
 rw [dif_pos hx]
 exact congrArg some (hx.choose_spec.unique h)
theorem y4 {α:Type} {c:α→α→Option Int} {xs ys:List α} (h:pT c xs=some ys):oe c xs ys:=by
 unfold pT at h
 split at h
 ·rename_i hx; cases h; exact hx.choose_spec
 ·cases h
theorem vv {α:Type} {c:α→α→Option Int} {xs ys:List α} (h:pT c xs=some ys):xs.length=ys.length:=(y4 h).1.length_eq.symm
end Go.L
namespace Go.L
open Go.Sort Go.Proofs Go.Shelf Go.Lib
theorem DM {α:Type} {cf:α→α→Int} {ys zs:List α} (hp:zs.Perm ys) (hy:ys.Pairwise fun a b=>cf a b<0) (hz:zs.Pairwise fun a b=>¬ cf b a<0):zs=ys:=by
 induction ys generalizing zs with
 | nil=>exact hp.eq_nil
 | cons y ys ih =>
  obtain ⟨uq,Th⟩:=List.pairwise_cons.1 hy
  cases zs with
  | nil=>exact absurd hp.symm.eq_nil (by simp)
  | cons z zs =>
   obtain ⟨D7,Lr⟩:=List.pairwise_cons.1 hz
   have Tn:z=y:=by
    rcases List.mem_cons.1 (hp.mem_iff.1 (List.mem_cons_self)) with h | h
    ·exact h
    ·have h1:=uq z h
     rcases List.mem_cons.1 (hp.mem_iff.2 (List.mem_cons_self:y ∈ y :: ys)) with h2 | h2
     ·exact h2.symm
     ·exact absurd h1 (D7 y h2)
   subst Tn
   rw [ih (List.Perm.cons_inv hp) Th Lr]
theorem HG {w w':World} (D3:w'.os=w.os) (ht:w'.tape=w.tape) (ho:w'.output=w.output) (hd:w.drawn≤w'.drawn) (hs:w.heap.size≤w'.heap.size) (hk:∀ b,b<w.heap.size→w'.heap[b]?=w.heap[b]?) :
  w'=grow (w.drewN (w'.drawn - w.drawn)) (w'.heap.extract w.heap.size w'.heap.size):=by
 obtain ⟨h',t',d',o',p'⟩:=w'
 obtain ⟨h,t,d,o,p⟩:=w
 simp only at D3 ht ho hd hs hk
 subst D3; subst ht; subst ho
 simp only [grow,World.drewN,World.mk.injEq,true_and,and_true]
 refine ⟨?_,by omega⟩
 apply Array.ext_getElem?
 intro i
 rw [Array.getElem?_append]
 split
 ·rename_i hi; exact hk i hi
 ·rename_i hi
  rw [Array.getElem?_extract]
  by_cases gn:i<h'.size
  ·rw [if_pos (by omega)]; congr 1; omega
  ·rw [if_neg (by omega),Array.getElem?_eq_none (by omega)]
theorem tf {c:Cx} {α:Type} (en:α→Int):∀ {xs:List α} {us:List Value},aC c (xs.map fun x=>LV.int .i64 (en x)) us→us=xs.map fun x=>Value.int .i64 (en x)
 | [],us,h=>by simpa [aC] using h
 | x :: xs,us,h=>by
  simp only [List.map_cons,aC] at h
  obtain ⟨v,vs,rfl,h1,h2⟩:=h
  simp only [av] at h1
  rw [h1,tf en h2]; rfl
theorem xS {c:Cx} {α:Type} (en:α→Int):∀ (xs:List α),aC c (xs.map fun x=>LV.int .i64 (en x)) (xs.map fun x=>Value.int .i64 (en x))
 | []=>by simp [aC]
 | x :: xs=>by simp only [List.map_cons,aC]; exact ⟨_,_,rfl,by simp [av],xS en xs⟩
theorem p8 {α:Type} (en:α→Int):∀ (xs:List α),flat (xs.map fun x=>Value.int .i64 (en x))=xs.map fun x=>Value.int .i64 (en x)
 | []=>rfl
 | x :: xs=>by rw [List.map_cons,gm,p8 en xs]; rfl
theorem u6 {α:Type} (en:α→Int):∀ (xs:List α),LV.bk (xs.map fun x=>LV.int .i64 (en x))=true
 | []=>rfl
 | x :: xs=>by simp only [List.map_cons,LV.bk,LV.pure,u6 en xs,Bool.and_self]
theorem JU {α:Type} [Inhabited α] (enc:α→Value) (w:World) (nd m:Nat) (d:Array α) (os:Array Obj):(sortWorld enc w nd 0 m d os).os=w.os∧(sortWorld enc w nd 0 m d os).tape=w.tape∧(sortWorld enc w nd 0 m d os).output=w.output∧w.drawn≤(sortWorld enc w nd 0 m d os).drawn∧w.heap.size≤(sortWorld enc w nd 0 m d os).heap.size:=by
 refine ⟨rfl,rfl,rfl,Nat.le_add_right _ _,?_⟩
 simp [sortWorld,grow,putRow,mapBlock,ahead]
theorem Cm {α:Type} [Inhabited α] (enc:α→Value) (w:World) (nd m:Nat) (d:Array α) (os:Array Obj) (b:Nat) (hb:b<w.heap.size) (ew:b ≠ nd):(sortWorld enc w nd 0 m d os).heap[b]?=w.heap[b]?:=by
 simp only [sortWorld,grow,putRow,mapBlock,ahead]
 rw [Array.getElem?_append_left (by simpa using hb),Array.getElem?_modify]
 simp [Ne.symm ew]
theorem Qv {α:Type} [Inhabited α] (enc:α→Value) (w:World) (nd m:Nat) (d:Array α) (os:Array Obj) {cur:Array Value} {e:TypeId} {z:Nat × Nat} (hg:w.heap[nd]?=some (.cells cur e z)):(sortWorld enc w nd 0 m d os).heap[nd]?=some (.cells (putCells enc 0 d cur) e z):=by
 have hb:nd<w.heap.size:=(Array.getElem?_eq_some_iff.1 hg).1
 simp only [sortWorld,grow,putRow,mapBlock,ahead]
 rw [Array.getElem?_append_left (by simpa using hb),Array.getElem?_modify]
 simp [hg,onCells]
theorem G0 {P:Program} {ρ:Ren} (L:SlLaysF.n6 P ρ) {α:Type} (en:α→Int) (cf:α→α→Int) (hO:SWO (ltOf cf)) (g:Nat) (cap:List LV) (mB:LV.bk cap=true)
  (eg:∀ args w,(callFunc g args).run P w=.ok (.enter g args) w) (Kx:∀ x y,sg P g ([.int .i64 (en x),.int .i64 (en y)]++cap) (.int .i64 (cf x y)))
  (xs ys:List α) (E8:ys.Perm xs) (NL:ys.Pairwise fun a b=>cf a b<0) (hlen:xs.length<1000000) (id e:Nat) :
  aM P (ρ.f 6) [.arr id xs.length,.fn g cap] (Mem.of [(id,.arr e 1 (xs.map fun x=>.int .i64 (en x)))]) (.cX []) (Mem.of [(id,.arr e 1 (ys.map fun x=>.int .i64 (en x)))]):=by
 intro c vs hm ha
 simp only [aC] at ha
 obtain ⟨v0,vs1,rfl,Mx,v1,vs2,rfl,kr,rfl⟩:=ha
 obtain ⟨us,hB,hk,bf,hl,hc,hp⟩:=gl (e:=e) (k:=1) (xs:=xs.map fun x=>LV.int .i64 (en x)) hm Mx (by simp [Mem.of]) (by simp)
 simp only [av] at kr
 obtain ⟨cb,rfl,M6⟩:=kr
 have Fq:=tf en hl
 subst Fq
 rw [p8] at bf
 have Nr:(xs.map fun x=>LV.int .i64 (en x)).length=xs.length:=by simp
 rw [Nr] at bf hB
 by_cases Je:xs=[]
 ·subst Je
  have H4:ys=[]:=E8.eq_nil
  subst H4
  obtain ⟨ad,cp,rfl⟩:=dx bf
  refine (AnyF.slices_SortFunc_none { L with } ad cp (.func (.func g) #[] cb.toArray) c.w).mono ?_
  rintro QL w' ⟨rfl,rfl⟩
  exact ⟨_,c,rfl,rfl,hm,by simp only [av,aC]; exact ⟨[],rfl,rfl⟩,Grow.refl _ c⟩
 ·haveI:Inhabited α:=⟨xs.head Je⟩
  have uV:0<xs.length:=List.length_pos_iff.2 Je
  rcases bf.2 with ⟨rfl,h0⟩ | ⟨nd,cp,cur,rfl,_,hg,kq,zA,hcs,wX⟩
  ·omega
  ·have hblk : nd < c.w.heap.size := (Array.getElem?_eq_some_iff.1 hg).1
   have Ky:∀ j,j<xs.length→cur[j]?=some (.int .i64 (en xs[j]!)):=by
    intro j hj
    have h1:=congrArg (fun l=>l[j]?) wX
    simp only [List.getElem?_take,Nat.mul_one,List.getElem?_map] at h1
    rw [if_pos hj] at h1
    rw [← Array.getElem?_toList,h1]
    simp [hj]
   have hH:Holds (fun x=>Value.int .i64 (en x)) c.w nd 0 xs.toArray:=by
    intro j hj
    have EY:j<xs.length:=by simpa using hj
    constructor
    ·simp [World.cell?,hg,Ky j EY]
    ·simp [World.frozen?,hg]
   have M7:CmpLays1 P g cb.toArray (fun x=>Value.int .i64 (en x)) cf nd 0 xs.toArray.size c.w:=by
    intro q os dk WM x y
    obtain ⟨s1,s2,s3,s4,s5⟩:=JU (fun x=>Value.int .i64 (en x)) c.w nd q dk os
    have Q1:=Cm (fun x=>Value.int .i64 (en x)) c.w nd q dk os
    have Ud:c.own nd:=⟨id,_,hB,by simp [BE.has,Value.ownBlock]⟩
    have hX:c.X nd:=.inr Ud
    have hle:c.Le ⟨sortWorld (fun x=>Value.int .i64 (en x)) c.w nd 0 q dk os,fun _=>.none,fun b=>c.O b ∨ c.own b,c.Q⟩:=by
     refine ⟨s5,fun b hb hx=>⟨Q1 b hb (fun h=>hx (h ▸ hX)),?_⟩,fun b n hb=>⟨Q1 b (hm.cQ b (by rw [hb]; simp)).2.2 (fun h=>(hm.cQ b (by rw [hb]; simp)).2.1 (h ▸ Ud)),hb⟩⟩
     rintro (((h | h) | h) | ⟨_,_,h,_⟩)
     ·exact hx (.inl (.inl h))
     ·exact hx (.inr h)
     ·exact hx (.inl (.inr h))
     ·cases h
    have px:bZ ⟨sortWorld (fun x=>Value.int .i64 (en x)) c.w nd 0 q dk os,fun _=>.none,fun b=>c.O b ∨ c.own b,c.Q⟩ Mem.none:=by
     refine ⟨fun _=>by simp [bt,Mem.none],(fun _ _ _ _ _ h=>by cases h),(fun b ⟨_,_,h,_⟩=>by cases h),fun b hb=>?_,fun b hb=>⟨fun h=>h.elim (hm.cQ b hb).1 (hm.cQ b hb).2.1,(fun ⟨_,_,h,_⟩=>by cases h),Nat.lt_of_lt_of_le (hm.cQ b hb).2.2 s5⟩⟩
     rcases hb with hb | hb
     ·exact Nat.lt_of_lt_of_le (hm.pb b hb) s5
     ·exact Nat.lt_of_lt_of_le (hm.kW hb) s5
    have hargs:aC ⟨sortWorld (fun x=>Value.int .i64 (en x)) c.w nd 0 q dk os,fun _=>.none,fun b=>c.O b ∨ c.own b,c.Q⟩ ([.int .i64 (en x),.int .i64 (en y)]++cap) ([.int .i64 (en x),.int .i64 (en y)]++cb):=by
     simp only [List.cons_append,List.nil_append,aC]
     refine ⟨_,_,rfl,by simp [av],_,_,rfl,by simp [av],aC.mono hle cap cb (fun j hj=>?_) M6⟩
     rw [az cap mB] at hj; cases hj
    have nU:=Kx x y _ _ px hargs
    have Kh:(([.int .i64 (en x),.int .i64 (en y)]++cb:List Value)).toArray=#[Value.int .i64 (en x),Value.int .i64 (en y)]++cb.toArray:=by simp
    rw [Kh] at nU
    refine nU.mono ?_
    rintro QL w' ⟨v,c',rfl,rfl,_,hv,KF⟩
    simp only [av] at hv
    refine ⟨by rw [hv],_,_,HG KF.os KF.tape KF.output KF.drawn KF.size fun b hb=>KF.jA b hb ?_ (.inr fun h=>h rfl)⟩
    rintro ⟨_,_,h,_⟩
    cases h
   have hS:=Any.slices_SortFunc L (fun x=>Value.int .i64 (en x)) (fun _=>rfl) cf hO g cb.toArray nd 0 cp xs.toArray c.w eg M7 hH hblk (by simp; omega)
   simp only [List.size_toArray] at hS
   refine hS.mono ?_
   rintro QL w' ⟨rfl,d',q,os,hP,Vo,rfl⟩
   have RY:d'.size=xs.length:=by simpa using hP.1
   have QW:d'.toList=ys:=by
    have Uy:d'.toList.Perm xs:=by
     have:=hP.2.2
     simp only [List.size_toArray,Array.toList_extract,List.extract_eq_take_drop,Nat.sub_zero,List.drop_zero,List.take_length] at this
     rwa [List.take_of_length_le (by simp [RY])] at this
    refine DM (cf:=cf) (Uy.trans E8.symm) NL ?_
    rw [List.pairwise_iff_getElem]
    intro i j hi hj rI
    simp only [Array.length_toList] at hi hj
    have:=Vo i j (Nat.zero_le _) rI (by omega)
    simp only [ltOf,decide_eq_false_iff_not] at this
    rw [getElem!_pos d' j hj,getElem!_pos d' i hi] at this
    simpa using this
   obtain ⟨s1,s2,s3,s4,s5⟩:=JU (fun x=>Value.int .i64 (en x)) c.w nd q d' os
   have Q1:=Cm (fun x=>Value.int .i64 (en x)) c.w nd q d' os
   have RS:=Qv (fun x=>Value.int .i64 (en x)) c.w nd q d' os hg
   have D6:ys.length=xs.length:=E8.length_eq
   obtain ⟨c',Hq,iB,iM,kA⟩:=hm.Bo (pr:=fun i=>Mem.of [(id,LE.arr e 1 (xs.map fun x=>LV.int .i64 (en x)))] i ≠ .none) id (.arr e 1 (ys.map fun x=>LV.int .i64 (en x))) _ (sortWorld (fun x=>Value.int .i64 (en x)) c.w nd 0 q d' os) s1 s2 s3 s4 s5 
    (fun b hb hn=>Q1 b hb fun h=>hn _ hB (by rw [h]; simp [BE.has,Value.ownBlock]))
    (fun b hb=>.inl ⟨_,hB,hb⟩) (by rw [hB]; exact js.refl _) (fun _ dn h=>by rw [hB] at h; cases h; exact .refl _) (by
     intro c1 jF Am WK
     simp only [bt]
     refine ⟨_,ys.map fun x=>Value.int .i64 (en x),by simp only [List.length_map,D6]; rfl,by decide,?_,xS en ys,?_,?_⟩
     ·rw [p8,List.length_map,D6,jF]
      refine ⟨by simp [D6],.inr ⟨nd,cp,_,rfl,Nat.zero_le _,RS,kq,zA,?_,?_⟩⟩
      ·simpa [putCells] using hcs
      ·apply List.ext_getElem?
       intro j
       have Ui:cur.size=cp:=by simpa using hcs
       by_cases hj:j<xs.length
       ·have EZ:j<d'.size:=by omega
        have VI:j<ys.length:=by omega
        have Wh:d'[j]=ys[j]:=by
         simp only [← QW,Array.getElem_toList]
        rw [List.getElem?_take,if_pos (by omega),Array.getElem?_toList]
        simp only [putCells,Array.getElem?_mapIdx,Nat.zero_le,Nat.zero_add,Nat.sub_zero,true_and]
        rw [Array.getElem?_eq_getElem (by omega)]
        simp [EZ,Wh,VI]
       ·rw [List.getElem?_take,if_neg (by omega),List.getElem?_eq_none (by simp; omega)]
     ·intro v hv
      obtain ⟨y,_,rfl⟩:=List.mem_map.1 hv
      exact ⟨rfl,fun z hz=>by simp [Value.cells] at hz; subst hz; rfl⟩
     ·exact u6 en ys)
   refine ⟨_,c',rfl,Hq,?_,by simp only [av,aC]; exact ⟨[],rfl,rfl⟩,kA.grow⟩
   have VP:Mem.put (Mem.of [(id,LE.arr e 1 (xs.map fun x=>LV.int .i64 (en x)))]) id (.arr e 1 (ys.map fun x=>LV.int .i64 (en x)))=Mem.of [(id,LE.arr e 1 (ys.map fun x=>LV.int .i64 (en x)))]:=by
    funext i
    by_cases hi:i=id
    ·subst hi; simp [Mem.put,Mem.of]
    ·simp [Mem.put,Mem.of,hi]
   rwa [VP] at iM 
end Go.L
namespace Go.L
open Go.Sort Go.Proofs Go.Shelf
theorem enters_of {P : Program} {g : Nat} (h : ∃ fn, P.funcs[g]? = some fn ∧ (fn.name == "runtime.NumGoroutine") = false ∧ fn.body.isNone = false) (args : Array Value) (w : World) : (callFunc g args).run P w = .ok (.enter g args) w := by
 obtain ⟨fn,h1,h2,h3⟩:=h
 have HH : ¬ fn.name = "runtime.NumGoroutine" := by simpa using h2
 have Vg:¬ fn.body=Option.none:=fun hn=>by rw [hn] at h3; cases h3
 simp [callFunc,h1,HH,Vg]
theorem L7 {xs:List Int} {cf:Int→Int→Int} (h1:∀ x ∈ xs,¬ cf x x<0) (h2:∀ x ∈ xs,∀ y ∈ xs,∀ z ∈ xs,cf x y<0→cf y z<0→cf x z<0) (h3:∀ x ∈ xs,∀ y ∈ xs,∀ z ∈ xs,¬ cf x y<0→¬ cf y z<0→¬ cf x z<0):SWO (ltOf fun a b:{x // x ∈ xs}=>cf a.1 b.1):=by
 constructor
 ·intro x; simp only [ltOf,decide_eq_false_iff_not]; exact h1 x.1 x.2
 ·intro x y z; simp only [ltOf,decide_eq_true_eq]; exact h2 x.1 x.2 y.1 y.2 z.1 z.2
 ·intro x y z; simp only [ltOf,decide_eq_false_iff_not]; exact h3 x.1 x.2 y.1 y.2 z.1 z.2
theorem y5 {P : Program} {ρ : Ren} (L : SlLaysF.n6 P ρ) {f : Nat} (hf : ρ.f 6 = f) {c : Int → Int → Option Int} {xs r : List Int} {g : Nat} {cap : List LV} (hg : ∃ fn, P.funcs[g]? = some fn ∧ (fn.name == "runtime.NumGoroutine") = false ∧ fn.body.isNone = false) (mB : LV.bk cap = true)
  (Kx:∀ x y q,c x y=some q→aM P g ([.int .i64 x,.int .i64 y]++cap) (Mem.of []) (.int .i64 q) (Mem.of [])) (id e:Nat) (h:pT c xs=some r) :
  aM P f [.arr id xs.length,.fn g cap] (Mem.of [(id,.arr e 1 (xs.map (LV.int .i64)))]) (.cX []) (Mem.of [(id,.arr e 1 (r.map (LV.int .i64)))]):=by
 subst hf
 obtain ⟨hp,hn,cf,hc,h1,h2,h3,hs⟩:=y4 h
 have hr:∀ x ∈ r,x ∈ xs:=fun x hx=>hp.mem_iff.1 hx
 have key:=G0 L (fun x:{x // x ∈ xs}=>x.1) (fun a b=>cf a.1 b.1) (L7 h1 h2 h3) g cap mB (enters_of hg)
  (fun x y=>Kx _ _ _ (hc x.1 x.2 y.1 y.2)) (xs.pmap Subtype.mk fun _ h=>h) (r.pmap Subtype.mk hr) (hp.pmap _) ?_ (by simpa using hn) id e
 ·simp only [List.map_pmap,List.pmap_eq_map,List.length_pmap] at key
  exact key
 ·refine (List.pairwise_pmap _).2 ?_
  exact hs.imp fun {a b} h _ _=>h
end Go.L
namespace Go.L
open Go.Sort Go.Proofs Go.Shelf Go.Lib
end Go.L
namespace Go.L
def DR (P:Program) (t:TypeId):Bool:=match P.underlying t with | some .string=>true | _=>false
theorem Bj {P:Program} {t:TypeId} (h:DR P t=true):P.underlying t=some .string:=by
 unfold DR at h; split at h
 ·assumption
 ·cases h
def wI (a b:ByteArray):Option ByteArray:=if a.size+b.size≤1000000000 then some (a++b) else .none
def y1 (s:ByteArray) (i:Int):Option Int:=if 0≤i then (s.data.toList[i.toNat]?).map fun b=>(b.toNat:Int) else .none
def Bd (ns:List Int):ByteArray:=ns.foldl (fun r n=>r.push (UInt8.ofNat n.toNat)) ByteArray.empty
theorem Qs (a b:ByteArray):(a.toList == b.toList)=decide (a=b):=by
 rw [Bool.eq_iff_iff]
 simp only [beq_iff_eq,decide_eq_true_eq]
 constructor
 ·intro h
  rw [ByteArray.toList_eq,ByteArray.toList_eq] at h
  exact ByteArray.ext (Array.toList_inj.1 h)
 ·intro h; rw [h]
theorem UO:p5 1 LV.str:=fun _=>⟨rfl,rfl,rfl⟩
section
variable {P:Program} {pr:Nat→Prop} {ev:Operand→LV} {m:Mem} {d:Option Nat} {x y:Operand} {t t' ty:TypeId} {pos:String} {af:Array Edge} {gd:Option (Nat × Bool)} {a b:ByteArray}
theorem GV {op:BinOp} (w:World):(eqGuard op t x y (.string a) (.string b)).run P w=.ok () w:=by unfold eqGuard; cases op <;> simp
theorem wm (hx:ev x=.str a) (hy:ev y=.str b):bl P pr ⟨d,.binOp .eql t x y t',ty,pos,af,gd⟩ ev m (.bool (decide (a=b))) m:=by
 refine bl.value fun c act bA hM=>?_
 have hv:=bA x (by simp [Op.operands])
 have hw:=bA y (by simp [Op.operands])
 rw [hx] at hv
 rw [hy] at hw
 simp only [av] at hv hw
 exact ⟨.bool (decide (a=b)),c,by simp [execOp,hv,hw,GV,binOp_string_eql,Qs],by simp [av],hM,Step.refl pr c⟩
theorem B2 {r:ByteArray} (hx:ev x=.str a) (hy:ev y=.str b) (h:wI a b=some r):bl P pr ⟨d,.binOp .add t x y t',ty,pos,af,gd⟩ ev m (.str r) m:=by
 unfold wI at h
 split at h
 ·rename_i hs
  cases h
  refine bl.value fun c act bA hM=>?_
  have hv:=bA x (by simp [Op.operands])
  have hw:=bA y (by simp [Op.operands])
  rw [hx] at hv
  rw [hy] at hw
  simp only [av] at hv hw
  exact ⟨.string (a++b),c,by simp [execOp,hv,hw,GV,binOp_string_add,run_string_add_sum c.w a b (by omega)],by simp [av],hM,Step.refl pr c⟩
 ·cases h
theorem rN (ht:DR P t=true) (hx:ev x=.str a):bl P pr ⟨d,.call ⟨.builtin .len,#[x],#[t]⟩,ty,pos,af,gd⟩ ev m (.int .i64 a.size) m:=by
 have hu:=Bj ht
 refine bl.value fun c act bA hM=>?_
 have hv:=bA x (by simp [Op.operands,Call.operands])
 rw [hx] at hv
 simp only [av] at hv
 exact ⟨.int .i64 a.size,c,by simp [execOp,resolve,invoke,builtin,Builtin.len_,hv,run_underlying hu,goInt],by simp [av],hM,Step.refl pr c⟩
theorem wo {k:IntKind} {u z:Int} (ht:DR P t=true) (hx:ev x=.str a) (hy:ev y=.int k u) (h:y1 a u=some z):bl P pr ⟨d,.index t x y,ty,pos,af,gd⟩ ev m (.int .u8 z) m:=by
 have hu:=Bj ht
 unfold y1 at h
 split at h
 ·rename_i h0
  obtain ⟨q,hq,hz⟩:=Option.map_eq_some_iff.1 h
  have o5:a[u.toNat]?=some q:=by
   obtain ⟨hl,he⟩:=List.getElem?_eq_some_iff.1 hq
   have iL:u.toNat<a.size:=by rw [Array.length_toList] at hl; exact hl
   rw [getElem?_pos a u.toNat iL]
   simp only [Option.some.injEq]
   rw [← he]; simp [ByteArray.getElem_eq_getElem_data]
  refine bl.value fun c act bA hM=>?_
  have hv:=bA x (by simp [Op.operands])
  have hw:=bA y (by simp [Op.operands])
  rw [hx] at hv
  rw [hy] at hw
  simp only [av] at hv hw
  refine ⟨.int .u8 z,c,?_,by simp [av],hM,Step.refl pr c⟩
  simp [execOp,hv,hw,Instr.index,asIntOf,run_underlying hu,h0,o5,hz]
 ·cases h
theorem qy {c:Cx}:∀ {ns:List Int} {us:List Value},aC c (ns.map (LV.int .u8)) us→us=ns.map (Value.int .u8)
 | [],us,h=>by simpa [aC] using h
 | n :: ns,us,h=>by
  simp only [List.map_cons,aC] at h
  obtain ⟨v,vs,rfl,hv,hl⟩:=h
  simp only [av] at hv
  rw [hv,qy hl]; rfl
theorem sD:∀ (ns:List Int),flat (ns.map (Value.int .u8))=ns.map (Value.int .u8)
 | []=>rfl
 | n :: ns=>by simp only [flat,List.map_cons,List.flatMap_cons]; rw [show (Value.int .u8 n).cells.toList=[Value.int .u8 n] from rfl]; exact congrArg _ (sD ns)
theorem LI {e:Nat} {ns:List Int} (hs:telem P t=some e) (he:tint P e=some .u8) (hd:DR P t'=true) (hx:ev x=.ak 1 (ns.map (LV.int .u8))):bl P pr ⟨d,.convert t t' x,ty,pos,af,gd⟩ ev m (.str (Bd ns)) m:=by
 have Fq:=fO hs
 have V8:=Bj hd
 have V9:P.underlying e=some (.int .u8):=by
  unfold tint at he; split at he
  ·rename_i k hk; cases he; exact hk
  ·cases he
 refine bl.value fun c act bA hM=>?_
 have hv:=bA x (by simp [Op.operands])
 rw [hx] at hv
 simp only [av] at hv
 obtain ⟨ad,cap,hval,mB,py,_,M5⟩:=hv
 refine ⟨.string (Bd ns),c,?_,by simp [av],hM,Step.refl pr c⟩
 have dL:(Conv.bytesToString (.slice ad (ns.map (LV.int .u8)).length cap)).run P c.w=.ok (.string (Bd ns)) c.w:=by
  cases ad with
  | none =>
   have h0:=py rfl
   have:ns=[]:=by
    rw [h0] at mB; simp at mB; exact mB
   subst this
   rfl
  | some a0 =>
   rw [List.length_map]
   refine run_bytesToString c.w a0 ns.length cap ns ?_
   have:=run_loadCells_list (P:=P) (w:=c.w) a0 (ns.map (Value.int .u8)) (fun j v hj=>by
    rcases M5 with h | ⟨b0,off,vs,h1,_,_,h2,_,h3⟩
    ·have:ns=[]:=by simpa using h
     subst this; simp at hj
    ·cases h1
     have D4:=qy h2
     subst D4
     rw [sD] at h3
     have:=h3 j v hj
     simpa [Addr.add_mid] using this)
   simpa using this
 rw [List.length_map] at hval dL
 simp [execOp,hval,run_convert_bytes_string c.w t t' e ad _ cap Fq V9 V8,dL]
end
end Go.L
namespace Go.L
theorem FQ {c:Cx} {e k i o id2 n2 g len:Nat} {os:List (Nat × Nat × Nat)} {xs:List LV} {u v:Value} {bs:List Nat} (h:bt c (some (.nest e k os xs)) (some (.arr u k len bs))) (hg:u.ownBlock=some g) (hc:c.w.cell? ⟨g,i * k+o,Option.none⟩=some v) (hv:av c (.arr id2 n2) v):bt c (some (.cW e k os xs i o id2 n2)) (some (.arr u k len bs)):=by
 simp only [bt] at h ⊢
 obtain ⟨u',vs,By,h1,h2,h3,h4,h5⟩:=h
 cases h1
 exact ⟨u,vs,bs,rfl,h2,h3,h4,⟨g,v,hg,hc,hv⟩,h5⟩
theorem FR {c:Cx} {e k i o id2 n2:Nat} {os:List (Nat × Nat × Nat)} {xs:List LV} {y:Option BE} (h:bt c (some (.cW e k os xs i o id2 n2)) y):bt c (some (.nest e k os xs)) y∧∃ u bs g v,y=some (.arr u k xs.length bs)∧u.ownBlock=some g∧c.w.cell? ⟨g,i * k+o,Option.none⟩=some v∧av c (.arr id2 n2) v:=by
 simp only [bt] at h ⊢
 obtain ⟨u,vs,bs,h1,h2,h3,h4,⟨g,v,q1,q2,q3⟩,h5⟩:=h
 exact ⟨⟨u,vs,bs,h1,h2,h3,h4,h5⟩,u,bs,g,v,h1,q1,q2,q3⟩
section
variable {P:Program} {N:Nat} {pr:Nat→Prop} {ev:Operand→LV} {m:Mem} {d:Option Nat} {x y:Operand} {t ty:TypeId} {pos:String} {af:Array Edge} {gd:Option (Nat × Bool)} {e0 k id n i o0 id2 e' k':Nat} {os:List (Nat × Nat × Nat)} {xs cs ys:List LV}
theorem F4 (hx:ev x=.bJ id n i o0) (hm:m id=some (.nest e0 k os xs)) (hn:n=xs.length) (hz:xs[i]?=some (.agg cs)) (hc:cs[o0]?=some (.ak k' ys)) (hl:os.lookup o0=some (e',k')) (bE:m id2=.none) (ht:tok P t=true) (ha:tagg P t=false) :
  bl P pr ⟨d,.load t x,ty,pos,af,gd⟩ ev m (.arr id2 ys.length) ((m.put id (.cW e0 k os (xs.set i (.agg (cs.set o0 .eF))) i o0 id2 ys.length)).put id2 (.arr e' k' ys)):=by
 have ew:id ≠ id2:=fun h=>by rw [h,bE] at hm; cases hm
 refine bl.value fun c a bA hM=>?_
 have hv:=bA x (by simp [Op.operands])
 rw [hx] at hv
 have iy:=hM.gD id
 rw [hm] at iy
 obtain ⟨g,cap,cur,v,bp,bs,bq,hB,hg,hcs,kq,hk,BR,kr,uc,rm,hnd,qH,ox⟩:=pH iy hz
 have he:=jg hv hB hn
 obtain ⟨dr,ws,h1,rfl,hC⟩:=rm
 cases h1
 have sL:(cur.toList.drop (i * k)).take k=ws:=by simpa [Value.cells] using uc
 obtain ⟨w,cp,cb,cq,g1,rfl,g3,g4⟩:=hC.at hc
 have hcell:=nv hg sL g1
 rw [Nat.zero_add] at g3 g4
 unfold fu at g3
 rw [hl] at g3
 obtain ⟨us,D1,bf,zC,K7,Fc,rfl⟩:∃ us,0<k'∧c.w.ownsRow 0 e' k' w ys.length (flat us)∧aC c ys us∧(∀ u ∈ us,u.cells.size=k'∧∀ y ∈ u.cells,y.oneCell'=true)∧LV.bk ys=true∧cb=w.ownBlock.toList:=by
  rcases g3 with ⟨h,_⟩ | ⟨U2,us,h,q0,q1,q2,q3,q4,q5⟩
  ·cases h
  ·cases h; exact ⟨us,q0,q1,q2,q3,q4,q5⟩
 have dL:(Instr.loadAt t (a.eval x)).run P c.w=.ok w c.w:=by
  rw [he]
  exact (gi (cs:=[.eF]) (vs:=[w]) (c:=c) ht (by simp [aC,av]) (fun j v hj=>by
   cases j with
   | zero=>simp at hj; subst hj; simpa using hcell
   | succ j=>simp at hj)).2 ha w [] rfl
 have vP:=hM.fresh bE
 have oE:∀ b,b ∈ bp++((cp++([]++cq))++bq)→b ∈ bp++((cp++(w.ownBlock.toList++cq))++bq):=fun b hb=>by
  simp only [List.mem_append,List.nil_append] at hb ⊢
  rcases hb with h | (h | h) | h <;> simp [h]
 have oB:(bp++((cp++([]++cq))++bq)).Nodup:=by
  refine List.Nodup.sublist ?_ hnd
  refine List.Sublist.append (List.Sublist.refl _) (List.Sublist.append (List.Sublist.append (List.Sublist.refl _) ?_) (List.Sublist.refl _))
  exact List.Sublist.append (List.nil_sublist _) (List.Sublist.refl _)
 have pC:ws.set o0 w=ws:=by
  obtain ⟨dY,hw⟩:=List.getElem?_eq_some_iff.1 g1
  rw [← hw]; exact List.set_getElem_self dY
 obtain ⟨c',hw,RB,MQ,h2,h3⟩:=hM.IH (pr:=pr) id id2 ew (.cW e0 k os (xs.set i (.agg (cs.set o0 .eF))) i o0 id2 ys.length) (.arr e' k' ys) (.arr (.slice (some ⟨g,0,.none⟩) xs.length cap) k xs.length (bp++((cp++([]++cq))++bq))) (.arr w k' ys.length []) c.w rfl rfl rfl (Nat.le_refl _) (Nat.le_refl _)
  (fun b _ _ _=>rfl)
  (fun b hb=>by
   rcases hb with hb | hb
   ·rcases hb with hb | hb
    ·exact .inl ⟨_,hB,.inl hb⟩
    ·exact .inl ⟨_,hB,.inr (oE b hb)⟩
   ·rcases hb with hb | hb
    ·exact .inl ⟨_,hB,.inr (by simp [hb])⟩
    ·cases hb)
  (fun b hb cA=>by
   have EN:w.ownBlock=some b:=by
    rcases cA with h | h
    ·exact h
    ·cases h
   rcases hb with hb | hb
   ·have:g=b:=by simpa [Value.ownBlock] using hb
    subst this
    exact qH (by simp [EN])
   ·have n1:=List.nodup_append.1 hnd
    have n2:=List.nodup_append.1 n1.2.1
    have n3:=List.nodup_append.1 n2.1
    have n4:=List.nodup_append.1 n3.2.1
    have D0:b ∈ w.ownBlock.toList:=by simp [EN]
    simp only [List.mem_append,List.nil_append] at hb
    rcases hb with h | (h | h) | h
    ·exact n1.2.2 b h b (by simp [EN]) rfl
    ·exact n3.2.2 b h b (by simp [EN]) rfl
    ·exact n4.2.2 b D0 b h rfl
    ·exact n2.2.2 b (by simp [EN]) b h rfl)
  (by rw [hB]; exact ⟨_,_,_,rfl,Nat.le_refl _,fun _=>rfl⟩) (by rw [vP]; trivial) (fun _ dn h0=>by rw [hB] at h0; cases h0; exact ⟨_,_,_,rfl,Nat.le_refl _,fun _=>rfl⟩) (fun _ dn h0=>by rw [vP] at h0; cases h0)
  (fun c' hw hle dA cA=>by
   refine FQ (g:=g) (v:=w) ?_ rfl (by rw [hw]; exact hcell) (by
    simp only [av]
    refine ⟨?_,_,_,_,_,cA,Nat.le_refl _,fun _=>rfl⟩
    obtain ⟨ad,MO,Fz⟩:=dx bf
    rw [Fz]; rfl)
   refine ox c' _ (.agg ws.toArray) _ hle ?_ (fun q _=>by rw [hw]) BR kr ⟨_,ws,rfl,rfl,?_⟩ oB (fun h=>qH (by
    simp only [List.mem_append,List.nil_append] at h ⊢
    rcases h with h | h <;> simp [h]))
   ·rw [hw,hg]
    congr 2
    apply Array.toList_inj.1
    simp only [List.toList_toArray]
    rw [← uc,← List.drop_drop,List.append_assoc,List.take_append_drop,List.take_append_drop]
   ·have:=g4 (c':=c') (x':=.eF) (w':=w) (b':=[]) hle (fun r _=>by rw [hw]) (by unfold fu; rw [hl]; exact .inl ⟨rfl,rfl⟩)
    rw [pC] at this
    exact this)
  (fun c' hw hle dA=>by
   simp only [bt]
   exact ⟨w,us,rfl,D1,by rw [hw]; exact bf,aC.mono hle ys us (fun j hj=>by rw [az ys Fc] at hj; cases hj) zC,K7,Fc⟩)
 refine ⟨w,c',by rw [hw]; simp [execOp,dL],?_,h2,h3⟩
 simp only [av]
 refine ⟨?_,_,_,_,_,MQ,Nat.le_refl _,fun _=>rfl⟩
 obtain ⟨ad,MO,Fz⟩:=dx bf
 rw [Fz]; rfl
theorem bZ.unlink {c:Cx} (hM:bZ c m) {n2:Nat} (hm:m id=some (.cW e0 k os xs i o0 id2 n2)) (hz:xs[i]?=some (.agg cs)) (hc:cs[o0]?=some .eF) (hl:os.lookup o0=some (e',k')) (jj:m id2=some (.arr e' k' ys)) (HR:n2=ys.length) (sV:¬ pr id2) :
  ∃ c':Cx,c'.w=c.w∧bZ c' ((m.put id (.nest e0 k os (xs.set i (.agg (cs.set o0 (.ak k' ys)))))).put id2 .dead)∧Step pr c c':=by
 have ew:id ≠ id2:=fun h=>by rw [h,jj] at hm; cases hm
 have IZ:=hM.gD id
 rw [hm] at IZ
 obtain ⟨iy,uL,WI,gL,y0,UE,VB,Ug,o6⟩:=FR IZ
 obtain ⟨us,vP,D1,bf,zC,K7,Fc⟩:=gl hM o6 jj HR
 obtain ⟨g,cap,cur,v,bp,bs,bq,hB,hg,hcs,kq,hk,BR,kr,uc,rm,hnd,qH,ox⟩:=pH iy hz
 obtain ⟨dr,ws,h1,rfl,hC⟩:=rm
 cases h1
 have BS:ws.length=k:=by simpa [Value.cells] using BR
 have sL:(cur.toList.drop (i * k)).take k=ws:=by simpa [Value.cells] using uc
 obtain ⟨w0,cp,cb,cq,g1,rfl,g3,g4⟩:=hC.at hc
 rw [Nat.zero_add] at g3 g4
 have M6:cb=[]:=by
  unfold fu at g3
  rw [hl] at g3
  rcases g3 with ⟨_,h⟩ | ⟨_,_,h,_⟩
  ·exact h
  ·cases h
 subst M6
 have Wc:w0=y0:=by
  have hcell:=nv hg sL g1
  rw [hB] at UE
  cases UE
  have:g=gL:=by simpa [Value.ownBlock] using VB
  subst this
  rw [hcell] at Ug
  exact Option.some.inj Ug
 subst Wc
 have gM:o0<k:=by rw [← BS]; exact (List.getElem?_eq_some_iff.1 g1).1
 have hi:i<xs.length:=(List.getElem?_eq_some_iff.1 hz).1
 have KG:i * k+k≤cur.size:=by
  have h1:=Nat.mul_le_mul_right k (show i+1≤cap by omega)
  rw [Nat.add_mul,Nat.one_mul] at h1; omega
 have uq:(w0).oneCell'=true:=by
  obtain ⟨ad,MO,Fz⟩:=dx bf
  rw [Fz]; rfl
 have pC:ws.set o0 w0=ws:=by
  obtain ⟨dY,hw⟩:=List.getElem?_eq_some_iff.1 g1
  rw [← hw]; exact List.set_getElem_self dY
 -- the block of the slice is not one of the Qp
 have oy:∀ b,(w0).ownBlock=some b→b ≠ g∧b ∉ bp++((cp++([]++cq))++bq):=fun b hb=>by
  constructor
  ·intro CL
   exact ew (hM.inj id id2 _ _ b hB vP (.inl (by rw [CL]; rfl)) (.inl hb))
  ·intro D0
   exact ew (hM.inj id id2 _ _ b hB vP (.inr D0) (.inl hb))
 have oB:(bp++((cp++((w0).ownBlock.toList++cq))++bq)).Nodup:=by
  cases hb:(w0).ownBlock with
  | none=>simpa [hb] using hnd
  | some b =>
   have hf:=(oy b hb).2
   have hp:(bp++((cp++((some b).toList++cq))++bq)).Perm (b :: (bp++((cp++([]++cq))++bq))):=by
    simp only [Option.toList_some,List.singleton_append,List.nil_append]
    refine (List.Perm.append_left bp ?_).trans (List.perm_middle)
    rw [List.append_assoc,List.append_assoc,List.cons_append]
    exact List.perm_middle
   exact hp.nodup_iff.2 (List.nodup_cons.2 ⟨hf,hnd⟩)
 obtain ⟨c',hw,RB,MQ,h2,h3⟩:=hM.IH (pr:=pr) id id2 ew (.nest e0 k os (xs.set i (.agg (cs.set o0 (.ak k' ys))))) .dead (.arr (.slice (some ⟨g,0,.none⟩) xs.length cap) k xs.length (bp++((cp++((w0).ownBlock.toList++cq))++bq))) (.arr (.slice .none 0 0) k' (ys.length+1) []) c.w rfl rfl rfl (Nat.le_refl _) (Nat.le_refl _)
  (fun b _ _ _=>rfl)
  (fun b hb=>by
   rcases hb with hb | hb
   ·rcases hb with hb | hb
    ·exact .inl ⟨_,hB,.inl hb⟩
    ·simp only [List.mem_append,Option.mem_toList] at hb
     rcases hb with h | (h | h | h) | h
     ·exact .inl ⟨_,hB,.inr (by simp [h])⟩
     ·exact .inl ⟨_,hB,.inr (by simp [h])⟩
     ·exact .inr (.inl ⟨_,vP,.inl h⟩)
     ·exact .inl ⟨_,hB,.inr (by simp [h])⟩
     ·exact .inl ⟨_,hB,.inr (by simp [h])⟩
   ·rcases hb with hb | hb
    ·simp [Value.ownBlock] at hb
    ·cases hb)
  (fun b _ cA=>by
   rcases cA with hb | hb
   ·simp [Value.ownBlock] at hb
   ·cases hb)
  (by rw [hB]; exact ⟨_,_,_,rfl,Nat.le_refl _,fun _=>rfl⟩) (by rw [vP]; exact ⟨_,_,_,rfl,by omega,fun h=>by omega⟩) (fun _ dn h0=>by rw [hB] at h0; cases h0; exact ⟨_,_,_,rfl,Nat.le_refl _,fun _=>rfl⟩) (fun h=>absurd h sV)
  (fun c' hw hle dA _=>by
   have Ar:∀ b,b ≠ g→c'.w.heap[b]?=c.w.heap[b]?:=fun b _=>by rw [hw]
   refine ox c' _ (.agg (ws.set o0 (w0)).toArray) _ hle (by
    rw [hw,hg,pC]
    congr 2
    apply Array.toList_inj.1
    simp only [List.toList_toArray]
    rw [← uc,← List.drop_drop,List.append_assoc,List.take_append_drop,List.take_append_drop]) (fun q hq=>Ar q (fun NF=>qH (by rw [← NF]; simp at hq ⊢; rcases hq with h | h <;> simp [h]))) (by simp [Value.cells,BS]) (fun q hq=>by
    simp only [Value.cells] at hq kr
    have o5:q ∈ ws.set o0 (w0):=by simpa using hq
    rcases List.mem_or_eq_of_mem_set o5 with h | h
    ·exact kr q (by simpa using h)
    ·rw [h]; exact uq) ⟨_,_,rfl,rfl,?_⟩ oB (fun h=>?_)
   ·refine g4 (c':=c') (x':=.ak k' ys) (w':=w0) (b':=(w0).ownBlock.toList) hle (fun r hr=>Ar r (fun NH=>qH (by rw [← NH]; simp at hr ⊢; rcases hr with h | h <;> simp [h]))) ?_
    unfold fu
    rw [hl]
    exact .inr ⟨ys,us,rfl,D1,dN bf (fun b hb=>Ar b (oy b hb).1),aC.mono hle ys us (fun j hj=>by rw [az ys Fc] at hj; cases hj) zC,K7,Fc,rfl⟩
   ·simp only [List.mem_append,Option.mem_toList] at h
    rcases h with h | h | h
    ·exact qH (by simp [h])
    ·exact (oy g h).1 rfl
    ·exact qH (by simp [h]))
  (fun c' hw hle dA=>by simp only [bt]; exact ⟨_,_,_,rfl,rfl⟩)
 exact ⟨c',hw,h2,h3⟩
theorem Wk.unlink {e:Env} {n2:Nat} (hm:m id=some (.cW e0 k os xs i o0 id2 n2)) (hz:xs[i]?=some (.agg cs)) (hc:cs[o0]?=some .eF) (hl:os.lookup o0=some (e',k')) (jj:m id2=some (.arr e' k' ys)) (HR:n2=ys.length) (sV:¬ pr id2) :
  Wk pr e m e ((m.put id (.nest e0 k os (xs.set i (.agg (cs.set o0 (.ak k' ys)))))).put id2 .dead):=by
 intro N c a bV
 obtain ⟨c',hw,h2,h3⟩:=bV.mem.unlink (pr:=pr) hm hz hc hl jj HR sV
 exact ⟨c',hw,⟨fun i=>h3.wE (bV.env i),h2,bV.size,bV.defers⟩,h3.grow⟩
end
end Go.L
namespace Go.L
theorem aM.Pg {P:Program} {f:Nat} {args gw:List LV} {ml de:List (Nat × LE)} {r:LV} (id e k:Nat) (os:List (Nat × Nat × Nat)) {xs:List LV} (hp:LV.bk xs=true) (h:aM P f gw (Mem.of ml) r (Mem.of de)) (ha:pa id k xs args gw)
  (h1:Mem.of ml id=.none) (h2:Mem.of de id=.none) (kf:sG id ml=true) (hr:r.kG=true) (SK:r.a8 id=true) (wV:zR id de) (vZ:Mem.of ml dp=.none:=by exact rfl) :
  aM P f args (Mem.of ((id,.nest e k os xs) :: ml)) r (Mem.of ((id,.nest e k os xs) :: de)):=by
 intro c vs hm hargs
 have bE:Mem.of ((id,LE.nest e k os xs) :: ml) id=some (.nest e k os xs):=by simp [Mem.of]
 have iy:=hm.gD id
 rw [bE] at iy
 simp only [bt] at iy
 obtain ⟨u,us,bs,hB,hk,bf,hn,hc,hnd,Sf⟩:=iy
 have pq:∀ i le,i ≠ id→Mem.of ((id,LE.nest e k os xs) :: ml) i=some le→le.kU id=true:=fun i cs hi xE=>by
  simp only [Mem.of,hi,if_false] at xE
  exact mA kf i cs hi xE
 obtain ⟨c1,hw,hO,iD,hV,gZ,hX,HI⟩:=hm.del id pq
 have KA:(Mem.of ((id,LE.nest e k os xs) :: ml)).del id=Mem.of ml:=by
  funext i
  unfold Mem.del
  by_cases hi:i=id
  ·subst hi; simp [h1]
  ·simp [hi,Mem.of]
 rw [KA] at iD
 have E2:c.Le c1:=Cx.sub_le hw hO gZ
 have hR:∀ v,av c (.arr id xs.length) v→av c1 (.ak k xs) v:=by
  intro v hv
  have Q4:v=u:=by
   simp only [av] at hv
   obtain ⟨_,u',k',ln,ll,iB,_,hv⟩:=hv
   rw [hB] at iB; cases iB
   exact hv rfl
  subst Q4
  simp only [av]
  have KI:aC c1 xs us:=hn.Aa E2 hw (fun b hb=>hX b _ hB (.inr hb))
  rcases bf.2 with ⟨rfl,h0⟩ | ⟨g,cap,cur,rfl,_,hg,kq,_⟩
  ·exact ⟨.none,0,by rw [h0],by omega,fun _=>rfl,hp,.inl (List.eq_nil_of_length_eq_zero h0)⟩
  ·refine ⟨some ⟨g,0,.none⟩,cap,rfl,kq,by simp,hp,.inr ⟨g,0,us,rfl,by rw [hw]; exact (Array.getElem?_eq_some_iff.1 hg).1,hX g _ hB (.inl rfl),KI,hc,?_⟩⟩
   rw [hw]; exact cU bf rfl
 have nU:=h c1 vs iD (ha.rep hV hR hargs)
 rw [hw] at nU
 refine nU.mono ?_
 rintro en w' ⟨v,c2,rfl,rfl,jj,wY,hg⟩
 have vP:c2.B id=.none:=jj.fresh h2
 have CZ:¬ (fun i=>Mem.of ml i ≠ .none) dp:=fun h'=>h' vZ
 have lT:gX c c2:=fun b n hb=>by
  have:=hg.keeps CZ iD b n (by rw [hO.2]; exact hb)
  rw [hw] at this; exact this
 -- the block of the row
 have hblk:∀ b,(u.ownBlock=some b ∨ b ∈ bs)→b<c.w.heap.size∧c2.w.heap[b]?=c.w.heap[b]?∧¬ c2.own b∧¬ c2.O b:=by
  intro b hb
  have dY:=(hm.gD id).lt hB (show (BE.arr u k xs.length bs).has b from hb)
  have Ny:¬ c1.X b:=hX b _ hB hb
  have kz:¬ c1.own b:=fun ho=>Ny (.inr ho)
  refine ⟨dY,?_,?_,?_⟩
  ·have:=hg.jA b (by rw [hw]; exact dY) kz (.inr CZ); rw [hw] at this; exact this
  ·intro ho
   rcases hg.own b ho with h' | h'
   ·exact kz h'
   ·rw [hw] at h'; omega
  ·rw [hg.O]; exact fun ho=>Ny (.inl (.inl ho))
 let c3:Cx:=⟨c2.w,fun i=>if i=id then c.B id else c2.B i,c2.O,c2.Q⟩
 have vQ:∀ i,i ≠ id→c3.B i=c2.B i:=fun i hi=>by simp [c3,hi]
 have sI:c3.B id=c.B id:=by simp [c3]
 have pz:∀ b,c3.own b→c2.own b ∨ (u.ownBlock=some b ∨ b ∈ bs):=by
  rintro b ⟨i,be,g1,g2⟩
  by_cases hi:i=id
  ·subst hi; rw [sI,hB] at g1; cases g1; exact .inr g2
  ·rw [vQ i hi] at g1; exact .inl ⟨i,be,g1,g2⟩
 have M0:c3.O=c.O:=by show c2.O=c.O; rw [hg.O,hO.1]
 have E3:c.Le c3:=by
  refine ⟨by have:=hg.size; rw [hw] at this; exact this,fun b hb hx=>⟨?_,?_⟩,lT⟩
  ·have:=hg.jA b (by rw [hw]; exact hb) (fun ho=>hx (.inr (gZ b ho))) (.inr CZ); rw [hw] at this; exact this
  ·rintro ((ho | ho) | ho)
   ·rw [M0] at ho; exact hx (.inl (.inl ho))
   ·rcases hg.qn b ho with h' | h' | h'
    ·rw [hO.2] at h'; exact hx (.inl (.inr h'))
    ·exact hx (.inr (gZ b h'))
    ·rw [hw] at h'; omega
   ·rcases pz b ho with h' | h'
    ·rcases hg.own b h' with xr | xr
     ·exact hx (.inr (gZ b xr))
     ·rw [hw] at xr; omega
    ·exact hx (.inr ⟨id,_,hB,h'⟩)
 have Sj:∀ b,c3.Q b ≠ .none→¬ c3.O b∧¬ c3.own b∧b<c3.w.heap.size:=fun b hb=>by
  refine ⟨(jj.cQ b hb).1,fun ho=>?_,(jj.cQ b hb).2.2⟩
  rcases pz b ho with h' | h'
  ·exact (jj.cQ b hb).2.1 h'
  ·rcases hg.qn b hb with q | q | q
   ·rw [hO.2] at q; exact (hm.cQ b q).2.1 ⟨id,_,hB,h'⟩
   ·exact hX b _ hB h' (.inr q)
   ·have:=(hblk b h').1; rw [hw] at q; omega
 refine ⟨v,c3,rfl,rfl,⟨fun i=>?_,?_,?_,?_,Sj⟩,?_,?_⟩
 ·by_cases hi:i=id
  ·subst hi
   rw [sI,hB]
   simp only [Mem.of,if_true,bt]
   exact ⟨u,us,bs,rfl,hk,dN bf (fun b hb=>(hblk b (.inl hb)).2.1),hn.mono E3 (fun b hb=>(hblk b (.inr hb)).2.1),hc,hnd,Sf⟩
  ·rw [vQ i hi]
   simp only [Mem.of,hi,if_false]
   have he:=jj.gD i
   cases xE:Mem.of de i with
   | none=>rw [xE] at he; simpa only [bt] using he
   | some le=>rw [xE] at he; exact bt.jk (c:=c2) (c':=c3) rfl vQ (wV i le xE) he
 ·intro i j be eD b g1 g2 g3 g4
  by_cases hi:i=id
  ·by_cases hj:j=id
   ·rw [hi,hj]
   ·subst hi
    rw [sI,hB] at g1; cases g1
    rw [vQ j hj] at g2
    exact absurd ⟨j,eD,g2,g4⟩ (hblk b g3).2.2.1
  ·by_cases hj:j=id
   ·subst hj
    rw [sI,hB] at g2; cases g2
    rw [vQ i hi] at g1
    exact absurd ⟨i,be,g1,g3⟩ (hblk b g4).2.2.1
   ·rw [vQ i hi] at g1; rw [vQ j hj] at g2
    exact jj.inj i j be eD b g1 g2 g3 g4
 ·intro b ho
  rcases pz b ho with h' | h'
  ·exact jj.jQ b h'
  ·exact (hblk b h').2.2.2
 ·intro b ho; exact jj.pb b ho
 ·exact av.jk r v hr (fun i hi=>vQ i (fun he=>by subst he; rw [SK] at hi; cases hi)) wY
 ·refine ⟨M0,?_,?_,?_,?_,?_,?_,fun _ b n hb=>(lT b n hb).2,fun b hb=>?_,?_,?_⟩
  ·have:=hg.os; rw [hw] at this; exact this
  ·have:=hg.tape; rw [hw] at this; exact this
  ·have:=hg.output; rw [hw] at this; exact this
  ·have:=hg.drawn; rw [hw] at this; exact this
  ·have:=hg.size; rw [hw] at this; exact this
  ·intro b hb ho _
   have:=hg.jA b (by rw [hw]; exact hb) (fun rp=>ho (gZ b rp)) (.inr CZ); rw [hw] at this; exact this
  ·rcases hg.qn b hb with q | q | q
   ·rw [hO.2] at q; exact .inl q
   ·exact .inr (.inl (gZ b q))
   ·rw [hw] at q; exact .inr (.inr q)
  ·intro b ho
   rcases pz b ho with h' | h'
   ·rcases hg.own b h' with xr | xr
    ·exact .inl (gZ b xr)
    ·rw [hw] at xr; exact .inr xr
   ·exact .inl ⟨id,_,hB,h'⟩
  ·intro i be Av M3
   by_cases hi:i=id
   ·subst hi; exact ⟨be,by rw [sI]; exact M3,.refl be⟩
   ·rw [vQ i hi]
    have Ki:c1.B i=some be:=by rw [HI i hi]; exact M3
    exact hg.AT i be (by simpa [Mem.of,hi] using Av) Ki
end Go.L
namespace Go.L
theorem Wk.LW {pr:Nat→Prop} {el:List (Nat × LV)} {ml:List (Nat × LE)} (id e k:Nat) (os:List (Nat × Nat × Nat)) (kF j:Nat) {cs dr:List LV} (bE:Mem.of ml id=.none) (hk:Nat.ble 1 k=true) (hb:Mem.of ml kF=some (.box cs)) (hj:cs[j]?=some .nil) (hcs:cs.set j (.arr id 0)=dr) (mi:¬ pr id) :
  Wk pr (Env.of el) (Mem.of ml) (Env.of el) (((Mem.of ml).put id (.nest e k os [])).put kF (.box dr)):=by
 intro N c a bV
 have ew:kF ≠ id:=fun h=>by rw [h,bE] at hb; cases hb
 have hB:=bV.mem.fresh bE
 obtain ⟨c',hw,il,h2,h3⟩:=bV.mem.Bo (pr:=pr) id (.nest e k os []) (.arr (.slice .none 0 0) k 0 []) c.w rfl rfl rfl (Nat.le_refl _) (Nat.le_refl _)
  (fun b _ _=>rfl) (fun b hb=>by simp [BE.has,Value.ownBlock] at hb) (by rw [hB]; trivial) (fun h=>absurd h mi)
  (fun c' hw hle dA=>by
   simp only [bt]
   exact ⟨.slice .none 0 0,[],[],rfl,Nat.le_of_ble_eq_true hk,by rw [hw]; exact World.ownsRow_nil c.w 0 e k,by simp [dU],by simp,by simp,by simp [Value.ownBlock]⟩)
 have cA:((Mem.of ml).put id (.nest e k os [])) kF=some (.box cs):=by simp only [Mem.put,ew,if_false]; exact hb
 obtain ⟨b,vs,e1,zw,hh,hl,h1⟩:=jd h2 cA
 have iN:∀ (cs:List LV) (vs:List Value) (j:Nat),aC c' cs vs→cs[j]?=some .nil→aC c' (cs.set j (.arr id 0)) vs:=by
  intro cs
  induction cs with
  | nil=>intro vs j _ h; simp at h
  | cons x xs ih =>
   intro vs j hl hj
   simp only [aC] at hl
   obtain ⟨v,fQ,rfl,hv,iL⟩:=hl
   cases j with
   | zero =>
    simp at hj; subst hj
    simp only [av] at hv
    simp only [List.set_cons_zero,aC]
    refine ⟨v,fQ,rfl,?_,iL⟩
    simp only [av]
    exact ⟨by rw [hv]; rfl,_,_,_,_,il,Nat.le_refl _,fun _=>hv⟩
   | succ j =>
    simp only [List.set_cons_succ,aC]
    exact ⟨v,fQ,rfl,hv,ih fQ j iL (by simpa using hj)⟩
 have jj:=h2.re (dr:=dr) cA zw hh (by rw [← hcs]; exact iN cs vs j hl hj) h1 (by rw [← hcs]; simp)
 exact ⟨c',hw,⟨fun i=>h3.wE (bV.env i),jj,bV.size,bV.defers⟩,h3.grow⟩
theorem dU.split {c:Cx} {os:List (Nat × Nat × Nat)}:∀ {i:Nat} {xs:List LV} {vs:List Value} {bs:List Nat},dU c os xs vs bs→∃ b1 b2,bs=b1++b2∧dU c os (xs.take i) (vs.take i) b1∧dU c os (xs.drop i) (vs.drop i) b2
 | 0,xs,vs,bs,h=>⟨[],bs,rfl,by simp [dU],by simpa using h⟩
 | i+1,[],vs,bs,h=>by
  simp only [dU] at h
  obtain ⟨rfl,rfl⟩:=h
  exact ⟨[],[],rfl,by simp [dU],by simp [dU]⟩
 | i+1,x :: xs,vs,bs,h=>by
  simp only [dU] at h
  obtain ⟨v,fQ,b1,b2,rfl,rfl,h1,h2⟩:=h
  obtain ⟨c1,c2,rfl,h3,h4⟩:=dU.split (i:=i) h2
  refine ⟨b1++c1,c2,by simp,?_,by simpa using h4⟩
  simp only [List.take_succ_cons,dU]
  exact ⟨v,_,b1,c1,rfl,rfl,h1,h3⟩
theorem dU.app {c:Cx} {os:List (Nat × Nat × Nat)}:∀ {xs ys:List LV} {vs us:List Value} {b1 b2:List Nat},dU c os xs vs b1→dU c os ys us b2→dU c os (xs++ys) (vs++us) (b1++b2)
 | [],ys,vs,us,b1,b2,h,h'=>by
  simp only [dU] at h
  obtain ⟨rfl,rfl⟩:=h
  simpa using h'
 | x :: xs,ys,vs,us,b1,b2,h,h'=>by
  simp only [dU] at h
  obtain ⟨v,fQ,c1,c2,rfl,rfl,h1,h2⟩:=h
  simp only [List.cons_append,dU]
  exact ⟨v,fQ++us,c1,c2++b2,rfl,by simp,h1,dU.app h2 h'⟩
section
variable {P:Program} {N:Nat} {pr:Nat→Prop} {ev:Operand→LV} {m m':Mem} {d:Option Nat} {x y z:Operand} {t ty:TypeId} {pos:String} {af:Array Edge} {gd:Option (Nat × Bool)} {lv:LV} {α β:Type} {f:α→LV} {g:β→LV} {e0 k id n:Nat} {os:List (Nat × Nat × Nat)}
theorem LK {d0 kk:Nat} {el:TypeId} {cs dr:List LV} {S:List Nat} (he:telem P t=some el) (oD:gI P el=true) (hk:tsize P el=kk) (K5:Nat.ble kk 16777216=true) (hx:ev x=.agg cs) (I4:cs.length=kk) (wW:cs.all LV.scalar=true) (bE:m id=.none) (o4:l0 m os 0 cs dr S) (hS:S.Nodup) (RN:∀ j ∈ S,¬ pr j) :
  bl P pr ⟨some d0,.buildSlice t 1 #[(0,x)],ty,pos,af,gd⟩ ev m (.arr id 1) (m.gone id (.nest el kk os [.agg dr]) S):=by
 subst hk
 have NK:=Nat.le_of_ble_eq_true K5
 have hu:=fO he
 obtain ⟨i,zv,hi,D8,zD,D7,e5,DZ,qI⟩:=qg oD
 refine bl.value fun c a bA hM=>?_
 have pE:=bA x (by simp [Op.operands])
 rw [hx] at pE
 obtain ⟨D6,uq⟩:=pE.cellsOf (by simpa [LV.cells] using wW)
 simp only [av] at pE
 obtain ⟨ws,Ti,zC⟩:=pE
 have BS:ws.length=i.size:=by rw [← zC.length,I4,qI]
 have C3:(a.eval x).cells.size=i.size:=by rw [Ti]; simp [Value.cells,BS]
 have CR:flat [a.eval x]=ws:=by rw [Ti]; simp [flat,Value.cells]
 obtain ⟨cells,xy,xA⟩:∃ cells,Instr.fill (fun i'=>some (i' * i.size,i.size)) ((Array.range (1 * i.size)).map (zv.cells[· % zv.cells.size]!)) [(0,a.eval x)]=some cells∧cells.toList=flat [a.eval x]:=by
  obtain ⟨r,hr,UB,NI⟩:=Great.fill_dense e5 [a.eval x] 0 ((Array.range (1 * i.size)).map (zv.cells[· % zv.cells.size]!)) (fun v hv=>by simp at hv; rw [hv]; exact C3) (by simp)
  refine ⟨r,by simpa using hr,?_⟩
  apply List.ext_getElem?
  intro j
  rw [flat_get e5 (fun v hv=>by simp at hv; rw [hv]; exact C3),Array.getElem?_toList,NI j]
  simp only [Nat.zero_mul,Nat.zero_le,true_and,Nat.zero_add,Nat.sub_zero,List.length_singleton]
  by_cases hj:j<1 * i.size
  ·rw [if_pos hj]
  ·rw [if_neg hj]
   have h1:¬ j / i.size<1:=fun hh=>hj ((Nat.div_lt_iff_lt_mul e5).1 hh)
   rw [List.getElem?_eq_none (by simp; omega:[a.eval x].length≤j / i.size)]
   simp; omega
 have ow:cells=ws.toArray:=by rw [← CR,← xA]
 subst ow
 have dL:(execOp a.eval ⟨some d0,.buildSlice t 1 #[(0,x)],ty,pos,af,gd⟩).run P c.w=.ok (.value (.slice (some ⟨c.w.heap.size,0,.none⟩) 1 1)) (c.w.alloc (.cells ws.toArray el)):=by
  have hb:=run_buildSlice (P:=P) c.w t el 1 #[(0,a.eval x)] ws.toArray i zv hu hi D8 (by rw [qI] at NK; omega) (by omega) (by simpa using xy)
  simp [execOp,hb]
 have R9:id ∉ S:=fun h=>by
  obtain ⟨e,k',ys,h'⟩:=o4.ids id h
  rw [bE] at h'; cases h'
 have Vn:∀ j ∈ S,∃ u k len ins,c.B j=some (.arr u k len ins):=fun j hj=>by
  obtain ⟨e,k',ys,h'⟩:=o4.ids j hj
  have:=hM.gD j
  rw [h'] at this
  simp only [bt] at this
  obtain ⟨u,vs,hb,_⟩:=this
  exact ⟨u,k',_,_,hb⟩
 have hold:∀ b ∈ jt c S,b<c.w.heap.size:=fun b hb=>by
  obtain ⟨j,hj,be,q1,q2⟩:=pe hb
  exact (hM.gD j).lt q1 q2
 have hB:=hM.fresh bE
 have bf:(c.w.alloc (.cells ws.toArray el)).ownsRow 0 el i.size (.slice (some ⟨c.w.heap.size,0,.none⟩) 1 1) 1 (flat [a.eval x]):=by
  rw [CR]
  exact ⟨by omega,.inr ⟨c.w.heap.size,1,ws.toArray,rfl,Nat.zero_le _,heap_alloc_new c.w _,Nat.le_refl _,by
   simp only [maxLen]; omega,by simp [BS],by rw [Nat.one_mul,← BS]; simp⟩⟩
 obtain ⟨c',hw,hb,h2,h3⟩:=hM.Md (pr:=pr) id S R9 Vn RN (.nest el (tsize P el) os [.agg dr]) (.arr (.slice (some ⟨c.w.heap.size,0,.none⟩) 1 1) (tsize P el) 1 (jt c S)) (c.w.alloc (.cells ws.toArray el)) rfl rfl rfl (Nat.le_refl _) (by simp)
  (fun b hb _=>pA c.w _ b hb)
  (fun b hb=>by
   rcases hb with hb | hb
   ·simp [Value.ownBlock] at hb; exact .inr (.inr (by omega))
   ·exact .inr (.inl (pe hb)))
  (by rw [hB]; trivial) (fun _ dn h0=>by rw [hB] at h0; cases h0)
  (fun c' hw hle dA hO uT=>by
   simp only [bt]
   refine ⟨_,[a.eval x],jt c S,rfl,by rw [qI]; exact e5,by rw [hw,qI]; exact bf,?_,fun v hv=>by simp at hv; subst hv; exact ⟨by rw [C3,qI],uq⟩,sm hM hS,fun b hb cA=>?_⟩
   ·simp only [dU]
    exact ⟨_,[],jt c S,[],rfl,by simp,⟨dr,ws,rfl,Ti,o4.rep hM hle zC (fun b hb=>by rw [hw]; exact pA c.w _ b (hold b hb))⟩,rfl,rfl⟩
   ·simp [Value.ownBlock] at hb
    have:=hold b cA
    omega)
 refine ⟨_,c',by rw [hw]; exact dL,?_,h2,h3⟩
 simp only [av]
 exact ⟨rfl,_,_,_,_,hb,Nat.le_refl _,fun _=>rfl⟩
theorem Ih {ff id2:Nat} {ts:Array TypeId} {xs r:List α} {z0:α} {i:Int}
  (hf : ∃ fn, P.funcs[ff]? = some fn ∧ (fn.name == "runtime.NumGoroutine") = false ∧ fn.body.isNone = false) (W : MI P ff e0 k) (hx : ev x = .arr id xs.length) (bE : m id = some (.nest e0 k os (xs.map f))) (hy : ev y = .int .i64 i) (hz : ev z = .arr id2 1) (R8 : m id2 = some (.nest e0 k os ([z0].map f))) (ew : id2 ≠ id) (mi : ¬ pr id2) (hi : H5 xs i z0 = some r) :
  bl P pr ⟨d,.call ⟨.value (.func ff),#[x,y,z],ts⟩,ty,pos,af,gd⟩ ev m (.arr id r.length) (m.gone id (.nest e0 k os (r.map f)) [id2]):=by
 unfold H5 at hi
 split at hi
 ·rename_i hb
  obtain rfl:=Option.some.inj hi
  intro c a Q bA hM
  have h1:=bA x (by simp [Op.operands,Call.operands])
  have h2:=bA y (by simp [Op.operands,Call.operands])
  have h3:=bA z (by simp [Op.operands,Call.operands])
  rw [hx] at h1; rw [hy] at h2; rw [hz] at h3
  have iy:=hM.gD id
  rw [bE] at iy
  simp only [bt] at iy
  obtain ⟨u,vs,bs,hB,hk,bf,hn,hc,hnd,kz⟩:=iy
  have xx:=hM.gD id2
  rw [R8] at xx
  simp only [bt] at xx
  obtain ⟨u2,zs,bz,Mp,_,NA,VU,Uj,Si,VR⟩:=xx
  simp only [av] at h1 h2 h3
  obtain ⟨_,u',k',ln,ll,iB,xD,kr⟩:=h1
  rw [hB] at iB; cases iB
  have kr:=kr (by simp)
  obtain ⟨_,u',k',ln,ll,iB,Uu,NT⟩:=h3
  rw [Mp] at iB; cases iB
  have NT:=NT (by simp)
  unfold Oper.wp
  rw [J9 hf a c.w]
  simp only [Oper.upon]
  have gn:a.eval y=.int .i64 ((i.toNat:Nat):Int):=by rw [h2,Int.toNat_of_nonneg hb.1]
  have e1:(#[x,y,z]:Array Operand).map a.eval=#[u,.int .i64 ((i.toNat:Nat):Int),u2]:=by simp [gn,kr,NT]
  rw [e1]
  have Ob:∀ b,b ∈ bz ∨ u2.ownBlock=some b→b ∉ bs∧u.ownBlock ≠ some b:=fun b hb=>⟨fun h=>ew (hM.inj id2 id _ _ b Mp hB (hb.elim .inr .inl) (.inr h)),fun h=>ew (hM.inj id2 id _ _ b Mp hB (hb.elim .inr .inl) (.inl h))⟩
  have nk:vs.length=xs.length:=by have:=hn.length; simpa using this.symm
  have:=W u xs.length i.toNat (flat vs) u2 (flat zs) c.w (by simpa using bf) (sE fun v hv=>(hc v hv).2) (by omega) hb.2.2 (by simpa using NA) (sE fun v hv=>(Uj v hv).2) (fun b Ki=>(Ob b (.inr Ki)).2)
  refine this.mono ?_
  rintro en w' ⟨u',rfl,hr⟩
  have e2:((xs.take i.toNat++[z0]++xs.drop i.toNat).map f).length=xs.length+1:=by simp; omega
  have e3:(xs.take i.toNat++[z0]++xs.drop i.toNat).length=xs.length+1:=by simp; omega
  obtain ⟨b1,b2,rfl,n1,n2⟩:=hn.split (i:=i.toNat)
  have Nv:∀ b,b ∈ b1++b2 ∨ b ∈ bz→b<c.w.heap.size:=fun b hb=>hb.elim (fun h=>(hM.gD id).lt hB (.inr h)) (fun h=>(hM.gD id2).lt Mp (.inr h))
  have pC:∀ b,b ∈ b1++b2 ∨ b ∈ bz→w'.heap[b]?=c.w.heap[b]?:=fun b hb=>hr.grown.block b (Nv b hb) (fun h=>by
   rcases hb with hb | hb
   ·exact kz b h.symm hb
   ·exact (Ob b (.inl hb)).2 h.symm)
  obtain ⟨c',hw,eb,jj,kA⟩:=hM.Md (pr:=pr) id [id2] (by simp; exact fun h=>ew h.symm) (fun j hj=>by simp at hj; subst hj; exact ⟨_,_,_,_,Mp⟩) (fun j hj=>by simp at hj; subst hj; exact mi) (.nest e0 k os ((xs.take i.toNat++[z0]++xs.drop i.toNat).map f)) (.arr u' k (xs.length+1) (b1++bz++b2)) w' hr.grown.os hr.grown.tape hr.grown.output hr.drawn hr.grown.size
   (fun b hb ew=>hr.grown.block b hb (fun hh=>ew _ hB (.inl hh.symm)))
   (fun b hb=>by
    rcases hb with hb | hb
    ·exact (hr.nd b hb).imp (fun h=>⟨_,hB,.inl h⟩) (fun h=>.inr h)
    ·simp only [List.mem_append] at hb
     rcases hb with (h | h) | h
     ·exact .inl ⟨_,hB,.inr (by simp [h])⟩
     ·exact .inr (.inl ⟨id2,by simp,_,Mp,.inr h⟩)
     ·exact .inl ⟨_,hB,.inr (by simp [h])⟩)
   (by rw [hB]; exact ⟨_,_,_,rfl,by simp,fun h=>by simp at h⟩)
   (fun _ dn h0=>by rw [hB] at h0; cases h0; exact ⟨_,_,_,rfl,by simp,fun h=>by simp at h⟩)
   (fun c' hw hle dA hO uT=>by
    simp only [bt]
    refine ⟨u',vs.take i.toNat++zs++vs.drop i.toNat,b1++bz++b2,by rw [e2],hk,?_,?_,?_,?_,?_⟩
    ·have h4:=hr.own
     rw [uQ (fun v hv=>(hc v hv).1),uP (fun v hv=>(hc v hv).1),← eH,← eH] at h4
     rw [e2,hw]; exact h4
    ·rw [List.map_append,List.map_append,List.map_take,List.map_drop]
     exact ((n1.mono hle (fun b hb=>by rw [hw]; exact pC b (.inl (by simp [hb])))).app (VU.mono hle (fun b hb=>by rw [hw]; exact pC b (.inr hb)))).app (n2.mono hle (fun b hb=>by rw [hw]; exact pC b (.inl (by simp [hb]))))
    ·intro v hv
     rcases List.mem_append.1 hv with hv | hv
     ·rcases List.mem_append.1 hv with hv | hv
      ·exact hc v (List.mem_of_mem_take hv)
      ·exact Uj v hv
     ·exact hc v (List.mem_of_mem_drop hv)
    ·have q:=List.nodup_append.1 hnd
     rw [List.append_assoc,List.nodup_append]
     refine ⟨q.1,?_,?_⟩
     ·rw [List.nodup_append]
      exact ⟨Si,q.2.1,fun p hp p' As Q3=>(Ob p (.inl hp)).1 (by rw [Q3]; simp [As])⟩
     ·intro p hp p' As Q3
      rcases List.mem_append.1 As with h | h
      ·exact (Ob p' (.inl h)).1 (by rw [← Q3]; simp [hp])
      ·exact q.2.2 p hp p' h Q3
    ·intro b hb qG
     have HM:b ∈ b1++b2 ∨ b ∈ bz:=by
      simp only [List.mem_append] at qG ⊢
      rcases qG with (h | h) | h
      ·exact .inl (.inl h)
      ·exact .inr h
      ·exact .inl (.inr h)
     rcases hr.nd b hb with h | h
     ·rcases HM with q | q
      ·exact kz b h q
      ·exact (Ob b (.inl q)).2 h
     ·have:=Nv b HM
      omega)
  refine ⟨u',c',rfl,hw,?_,jj,kA⟩
  rw [e3]
  simp only [av]
  refine ⟨?_,_,_,_,_,eb,Nat.le_refl _,fun _=>rfl⟩
  rcases hr.own.2 with ⟨rfl,_⟩ | ⟨g,cap,cur,rfl,_⟩ <;> rfl
 ·cases hi
theorem ra.fresh {o:Oper} {ids:List Nat} {i:Nat} {le:LE} (EW:ids=[i]) (hm:m i=.none) (h:∀ m0:Mem,m0 i=.none→bl P pr o ev m0 lv (m0.put i le)):ra P pr o ev ids m lv (m.put i le):=by
 subst EW
 refine ⟨fun j hj=>by simp at hj; simp [Mem.put,hj],fun m0 px=>?_⟩
 have:=h m0 (by rw [px i (by simp)]; exact hm)
 refine Eq.mp (congrArg _ ?_) this
 funext j
 by_cases hj:j=i <;> simp [Mem.put,hj]
theorem ra.gone {o:Oper} {ids:List Nat} {i:Nat} {le:LE} {S:List Nat} (I1:ids=i :: S) (h:∀ m0:Mem,(∀ j,j ∈ i :: S→m0 j=m j)→bl P pr o ev m0 lv (m0.gone i le S)):ra P pr o ev ids m lv (m.gone i le S):=by
 have EW:∀ j,j ∈ ids ↔ (j=i ∨ j ∈ S):=fun j=>by rw [I1]; simp
 refine ⟨fun j hj=>?_,fun m0 px=>?_⟩
 ·rw [EW] at hj
  simp only [not_or] at hj
  simp [Mem.gone,hj.1,hj.2]
 ·refine Eq.mp (congrArg _ ?_) (h m0 (fun j hj=>px j (by rw [I1]; exact hj)))
  funext j
  by_cases hj:j ∈ ids
  ·simp only [hj,if_true]
   rw [EW] at hj
   simp only [Mem.gone]
   rcases hj with hj | hj
   ·simp [hj]
   ·by_cases h1:j=i <;> simp [h1,hj]
  ·simp only [hj,if_false]
   rw [EW] at hj
   simp only [not_or] at hj
   simp [Mem.gone,hj.1,hj.2]
end
end Go.L
namespace Go.L
def ry (id n:Nat):Option Int→LV
 | .none=>.fh
 | some j=>.bJ id n j.toNat 0
def pL {β:Type} (r:Option Int) (a:Option β) (b:Int→Option β):Option β:=match r with | .none=>a | some j=>b j
theorem F6 {β:Type} {a:Option β} {b:Int→Option β} {r:β} (h:pL .none a b=some r):a=some r:=h
theorem F7 {β:Type} {j:Int} {a:Option β} {b:Int→Option β} {r:β} (h:pL (some j) a b=some r):b j=some r:=h
def fS (P:Program) (t:TypeId):Bool:=match P.underlying t with | some (.pointer _)=>true | _=>false
section
variable {P:Program} {N:Nat} {pr:Nat→Prop} {ev:Operand→LV} {m m':Mem} {d:Option Nat} {x y z:Operand} {t t' ty:TypeId} {pos:String} {af:Array Edge} {gd:Option (Nat × Bool)} {lv:LV} {α β:Type} {f:α→LV} {g:β→LV} {e0 k id n i o0:Nat} {os:List (Nat × Nat × Nat)} {xs cs:List LV}
theorem lZ (w:World) (dd:Nat) (h:fS P t=true) (p:Option Addr):(Op.equalIn (dd+1) t (.pointer p) (.pointer .none)).run P w=.ok p.isNone w:=by
 unfold fS at h
 split at h
 ·rename_i e hu
  cases p <;> simp [Op.equalIn,run_underlying hu]
 ·cases h
theorem tq (ht:fS P t=true) (hx:ev x=.fh) (hy:ev y=.fh):bl P pr ⟨d,.binOp .eql t x y t',ty,pos,af,gd⟩ ev m (.bool true) m:=by
 refine bl.value fun c a bA hM=>?_
 have h1:=bA x (by simp [Op.operands])
 have h2:=bA y (by simp [Op.operands])
 rw [hx] at h1; rw [hy] at h2
 simp only [av] at h1 h2
 have heq:=fun w=>lZ (P:=P) (t:=t) w 9999 ht .none
 refine ⟨.bool true,c,?_,by simp [av],hM,Step.refl pr c⟩
 simp [execOp,h1,h2,eqGuard,binOp,Op.equal,Op.maxDepth,heq]
theorem tp {zz:LV} (ht:fS P t=true) (hx:ev x=.bJ id n i o0) (hy:ev y=.fh) (hm:m id=some (.nest e0 k os xs)) (hn:n=xs.length) (hz:xs[i]?=some zz):bl P pr ⟨d,.binOp .eql t x y t',ty,pos,af,gd⟩ ev m (.bool false) m:=by
 refine bl.value fun c a bA hM=>?_
 have hv:=bA x (by simp [Op.operands])
 have h2:=bA y (by simp [Op.operands])
 rw [hx] at hv; rw [hy] at h2
 simp only [av] at h2
 obtain ⟨gg,cap,cur,v,bs,ins,hB,_⟩:=hM.tc (pr:=pr) hm hz
 have he:=jg hv hB hn
 have heq:=fun w p=>lZ (P:=P) (t:=t) w 9999 ht (some p)
 refine ⟨.bool false,c,?_,by simp [av],hM,Step.refl pr c⟩
 simp [execOp,he,h2,eqGuard,binOp,Op.equal,Op.maxDepth,heq]
theorem F1 {el:Nat} {xs:List α} (he:telem P t=some el) (hx:ev x=.arr id n) (hm:m id=some (.nest e0 k os (xs.map f))) (hn:n=xs.length):bl P pr ⟨d,.call ⟨.builtin .len,#[x],#[t]⟩,ty,pos,af,gd⟩ ev m (.int .i64 (n:Int)) m:=by
 refine bl.value fun c a bA hM=>?_
 have hv:=bA x (by simp [Op.operands,Call.operands])
 rw [hx] at hv
 have iy:=hM.gD id
 rw [hm] at iy
 simp only [bt] at iy
 obtain ⟨u,vs,bs,hB,hk,bf,hN,hc,hnd,kz⟩:=iy
 simp only [av] at hv
 obtain ⟨_,u',k',ln,ll,iB,xD,kr⟩:=hv
 rw [hB] at iB; cases iB
 have kr:=kr (by simp [hn])
 obtain ⟨ad,MO,Fz⟩:=dx bf
 have hu:=fO he
 refine ⟨.int .i64 (n:Int),c,?_,by simp [av],hM,Step.refl pr c⟩
 rw [Fz] at kr
 simp [execOp,resolve,invoke,builtin,Builtin.len_,kr,hn,run_underlying hu,goInt]
theorem nA {e' k' id2:Nat} {ys:List β} {ls:List LV} (hx:ev x=.bJ id n i o0) (hm:m id=some (.nest e0 k os (ls.set i (.agg cs)))) (hn:n=ls.length) (hz:(ls.set i (.agg cs))[i]?=some (.agg cs)) (hc:cs[o0]?=some (.ak k' (ys.map g))) (hl:os.lookup o0=some (e',k')) (bE:m id2=.none) (ht:tok P t=true) (ha:tagg P t=false) {dr:List LV} (hcs:cs.set o0 .eF=dr) :
  bl P pr ⟨d,.load t x,ty,pos,af,gd⟩ ev m (.arr id2 ys.length) ((m.put id (.cW e0 k os (ls.set i (.agg dr)) i o0 id2 ys.length)).put id2 (.arr e' k' (ys.map g))):=by
 subst hcs
 have:=F4 (pr:=pr) (d:=d) (ty:=ty) (pos:=pos) (af:=af) (gd:=gd) hx hm (by simpa using hn) hz hc hl bE ht ha
 rwa [List.length_map,List.set_set] at this
theorem Wk.rT {e:Env} {n2 e' k' id2:Nat} {ys:List β} {ls:List LV} (hm:m id=some (.cW e0 k os (ls.set i (.agg cs)) i o0 id2 n2)) (hz:(ls.set i (.agg cs))[i]?=some (.agg cs)) (hc:cs[o0]?=some .eF) (hl:os.lookup o0=some (e',k')) (jj:m id2=some (.arr e' k' (ys.map g))) (HR:n2=ys.length) (sV:¬ pr id2) {dr:List LV} (hcs:cs.set o0 (.ak k' (ys.map g))=dr) :
  Wk pr e m e ((m.put id (.nest e0 k os (ls.set i (.agg dr)))).put id2 .dead):=by
 subst hcs
 have:=Wk.unlink (pr:=pr) (e:=e) hm hz hc hl jj (by simpa using HR) sV
 rwa [List.set_set] at this
end
section
variable {P:Program} {pr:Nat→Prop} {ev:Operand→LV} {m:Mem} {α β:Type} [DecidableEq α] {f:α→LV} {g:β→LV}
theorem MC {β:Type} {a k:Int} {b:β} {r:List (Int × β)} (h:(k == a)=false) (h':gR r k=.none):gR ((a,b) :: r) k=.none:=by
 have ew:¬ a=k:=fun e=>by subst e; simp at h
 simp [gR,ew,h']
theorem LG {i id:Nat} {t ty:TypeId} {pos:String} {af:Array Edge} {gd:Option (Nat × Bool)} {z:LV} {cs:List LV} (d0:Nat) (hi:100+d0=id) (hz:tzero P t=some z) (hc:z.cells=cs) (bE:m id=.none):cr P pr ⟨some i,.alloc t,ty,pos,af,gd⟩ ev m (.ptr id 0) (m.put id (.box cs)):=by
 subst hi; subst hc
 exact xT t d0 z rfl hz bE
theorem kj {id kt vt:Nat} {t:TypeId} {d:Option Nat} {x k:Operand} {ty:TypeId} {pos:String} {af:Array Edge} {gd:Option (Nat × Bool)} {S:Value→Prop} {xs:List (α × β)} {key:α} {z:β} {o:Option β} (ht:zg P t=some (kt,vt)) (K:IN P kt S) (hf:xf f S) (hx:ev x=.mp id) (bE:m id=some (.map kt vt (ec f g xs))) (hk:ev k=f key) (hz:tzero P vt=some (g z)) (ho:gR xs key=o) :
  bl P pr ⟨d,.lookup t x k true,ty,pos,af,gd⟩ ev m (.cX [g (o.getD z),.bool o.isSome]) m:=by
 subst ho
 exact tl ht K hf hx bE hk hz
end
end Go.L
namespace Go.L
section
variable {P:Program} {pr:Nat→Prop} {ev:Operand→LV} {m:Mem} {d:Option Nat} {x y:Operand} {t t' ty:TypeId} {pos:String} {af:Array Edge} {gd:Option (Nat × Bool)} {k:IntKind} {u w:Int}
end
end Go.L
namespace Go.L
section
variable {P:Program} {N:Nat} {pr:Nat→Prop} {ev:Operand→LV} {m m1 m':Mem} {d:Option Nat} {x y z:Operand} {t t' ty:TypeId} {pos:String} {af:Array Edge} {gd:Option (Nat × Bool)} {lv:LV} {α β:Type} {f:α→LV} {g:β→LV} {e0 k id n i o0:Nat} {os:List (Nat × Nat × Nat)} {xs cs:List LV}
abbrev RC (l:List Int):LV:=.agg [.L l]
end
end Go.L
namespace Go.L
open Go.Sort Go.Proofs Go.Shelf Go.Lib
end Go.L
namespace Go.L
open Go.RowKit
abbrev Ry (w:World):Cx:=⟨w,fun _=>.none,fun _=>False,fun _=>.none⟩
theorem WZ {c:Cx}:aC c [] []:=by simp [aC]
theorem Wx {c:Cx} {x:LV} {v:Value} {xs:List LV} {vs:List Value} (h:av c x v) (hr:aC c xs vs):aC c (x :: xs) (v :: vs):=by simp only [aC]; exact ⟨v,vs,rfl,h,hr⟩
theorem Wy {c:Cx} {k:IntKind} {n:Int}:av c (.int k n) (.int k n):=by simp [av]
theorem Wv (w:World) (b:Nat):¬ (Ry w).X b:=by
 rintro ((h | h) | ⟨_,_,h,_⟩)
 ·exact h
 ·exact h rfl
 ·cases h
theorem Cj {c:Cx} {k:IntKind}:∀ (zs:List Int),aC c (zs.map (LV.int k)) (zs.map (Value.int k))
 | []=>by simp [aC]
 | z :: zs=>Wx Wy (Cj zs)
theorem xl {k:IntKind}:∀ (zs:List Int),flat (zs.map (Value.int k))=zs.map (Value.int k)
 | []=>rfl
 | z :: zs=>by
  have:=xl (k:=k) zs
  simp only [flat,List.map_cons,List.flatMap_cons,Value.cells] at this ⊢
  rw [this]; rfl
theorem W3 {k:IntKind} {w:World} {a:Option Addr} {len cap:Nat} {zs:List Int} (h:(a=.none∧len=0∧cap=0∧zs=[]) ∨ ∃ x,a=some x∧len≤cap∧cap≤maxLen∧zs.length=cap∧(∀ i,i<zs.length→w.cell? (x.add i)=some (.int k (zs.getD i 0)))∧∀ n ∈ zs,(Lit.int k n).wf=true) :
  av (Ry w) (.ak 1 (List.map (LV.int k) (zs.take len))) (.slice a len cap):=by
 rcases h with ⟨rfl,rfl,rfl,rfl⟩ | ⟨x,rfl,hl,hm,hz,hcell,_⟩
 ·simp only [av]
  exact ⟨.none,0,rfl,Nat.le_refl _,fun _=>rfl,rfl,.inl rfl⟩
 ·simp only [av]
  have hlen:(List.map (LV.int k) (zs.take len)).length=len:=by simp; omega
  refine ⟨some x,cap,by rw [hlen],by omega,(fun h=>by cases h),cK.2 fun y hy=>?_,?_⟩
  ·obtain ⟨n,_,rfl⟩:=List.mem_map.1 hy; rfl
  ·by_cases h0:len=0
   ·left; subst h0; simp
   ·right
    obtain ⟨b,off,spot⟩:=x
    have hc:=hcell 0 (by omega)
    have NM:spot=.none:=by simpa [Addr.add] using World.cell?_spot hc
    subst NM
    refine ⟨b,off,(zs.take len).map (Value.int k),rfl,?_,Wv w b,Cj _,?_,?_⟩
    ·by_cases dY:b<w.heap.size
     ·exact dY
     ·have:w.heap[b]?=.none:=by simp; omega
      simp [World.cell?,Addr.add,this] at hc
    ·intro u hu
     obtain ⟨n,_,rfl⟩:=List.mem_map.1 hu
     exact ⟨rfl,fun y hy=>by simp [Value.cells] at hy; subst hy; rfl⟩
    ·rw [xl]
     intro j v hv
     simp only [List.getElem?_map,List.getElem?_take] at hv
     split at hv
     ·rename_i hj
      have EZ:j<zs.length:=by omega
      have:=hcell j EZ
      simp [EZ] at hv
      have RP:(Addr.mk b off .none).add j=Addr.mk b (off+j) .none:=by
       simp only [Addr.add]; split
       ·rename_i h; subst h; rfl
       ·rfl
      rw [RP] at this
      rw [this,← hv]; simp [EZ]
     ·cases hv
theorem Q8 {P:Program} {f:Nat} {args:List LV} (h:aM P f args (Mem.of []) (.bool true) (Mem.of [])) (w:World) (vs:List Value) (ha:aC (Ry w) args vs) :
  Calls P f vs.toArray w fun e w'=>e=.returned (.bool true)∧Below w.heap.size w w':=by
 refine (sg.calls h w vs ha).mono ?_
 rintro en w' ⟨⟨v,c',rfl,rfl,hv⟩,hb⟩
 simp only [av] at hv
 subst hv
 exact ⟨rfl,hb⟩
end Go.L
