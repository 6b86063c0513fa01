import Derived.Test.YtmollikhdbaikaaGreatZLb
import Derived.Shelf.SlSortCmp.NoneTotal
import Derived.Test.YtmollikhdbaikaaGreatZLa
import Derived.Laws.Strings
import Derived.Laws.Concat
import Derived.Laws.BytesString
import Derived.Shelf.Sort.Plain
import Derived.Shelf.Slices.In.SortNone
import Derived.Below
set_option linter.unusedVariables false
set_option linter.unusedSimpArgs false
namespace Go.L
def vX (n:Nat) (ops:Array Oper) (et:List Nat):Bool :=
 (List.range ops.size).all fun i=>match ops[i]? with
  | some o=>(o.after.toList.all fun e=>!Region.binds .any e || decide (e.on<i)) && (List.range i).all fun k=>match ops[k]? with
   | some q=>(Nat.blt i n && zy ops (q,et.getD k 2) (o,et.getD i 2)) || ahead ops 8 k i
   | .none=>true
  | .none=>true
section
variable {P:Program} {N:Nat} {pr:Nat→Prop}
theorem kQ {ops:Array Oper} {n:Nat} {et:List Nat} (gD:vX n ops et=true) {aR:Array Bool} (eH:aR.size=ops.size)
  (lO:∀ i o,ops[i]?=some o→aR.getD i true=true→∀ e ∈ o.after,Region.binds .any e=true→aR.getD e.on false=true) :
  (∀ i ∈ Region.ready .any ops aR,i ∈ left ops aR∧∀ o,ops[i]?=some o→∀ e ∈ o.after,Region.binds .any e=true→aR.getD e.on false=true) ∧
  (∀ i ∈ Region.ready .any ops aR,n≤i→∀ k,k<i→k ∉ left ops aR) ∧
  (Region.ready .any ops aR=[]→left ops aR=[]):=by
 have xN:=List.all_eq_true.1 gD
 have oU:∀ i ∈ Region.ready .any ops aR,i ∈ left ops aR∧∀ o,ops[i]?=some o→∀ e ∈ o.after,Region.binds .any e=true→aR.getD e.on false=true:=by
  intro i hi
  unfold Region.ready at hi
  simp only [List.mem_filter,Bool.and_eq_true] at hi
  refine ⟨by unfold left; exact List.mem_filter.2 ⟨hi.1,hi.2.1⟩,fun o ho e he hb=>?_⟩
  have h2:=hi.2.2
  rw [ho] at h2
  simp only [Option.map_some,Option.getD_some] at h2
  have:=(Array.all_eq_true_iff_forall_mem.1 h2) e he
  simpa [hb] using this
 refine ⟨oU,fun i hi UR k xT hk=>?_,fun pN=>?_⟩
 ·obtain ⟨xS,qt⟩:=oU i hi
  have gI:=xS
  unfold left at gI
  simp only [List.mem_filter,List.mem_range] at gI
  have ec:=gI.1
  have s8:ops[i]?=some (ops[i]'ec):=by simp [ec]
  have h1:=xN i (by simpa using ec)
  rw [s8] at h1
  simp only [Bool.and_eq_true,List.all_eq_true] at h1
  have h2:=h1.2 k (by simpa using xT)
  have Fj:ops[k]?=some (ops[k]'(by omega)):=by simp [show k<ops.size by omega]
  rw [Fj] at h2
  have SH:Nat.blt i n=false:=by
   cases hb:Nat.blt i n with
   | false=>rfl
   | true=>have:=Nat.le_of_ble_eq_true hb; omega
  simp only [SH,Bool.false_and,Bool.false_or] at h2
  have h3:=jR lO eH 8 k i _ s8 (qt _ s8) h2
  unfold left at hk
  simp only [List.mem_filter,List.mem_range] at hk
  have h5:k<aR.size:=by omega
  have h6:=hk.2
  simp [h5] at h3 h6
  rw [h3] at h6; cases h6
 ·have Fp:(left ops aR).Pairwise (·<·):=by unfold left; exact List.Pairwise.filter _ List.pairwise_lt_range
  cases hl:left ops aR with
  | nil=>rfl
  | cons i r =>
   exfalso
   have xS:i ∈ left ops aR:=by rw [hl]; simp
   have gI:=xS
   unfold left at gI
   simp only [List.mem_filter,List.mem_range] at gI
   have ec:=gI.1
   have s8:ops[i]?=some (ops[i]'ec):=by simp [ec]
   have NX:i ∈ Region.ready .any ops aR:=by
    unfold Region.ready
    simp only [List.mem_filter,List.mem_range,Bool.and_eq_true]
    refine ⟨ec,gI.2,?_⟩
    rw [s8]
    simp only [Option.map_some,Option.getD_some]
    rw [Array.all_eq_true_iff_forall_mem]
    intro e he
    by_cases hb:Region.binds .any e=true
    ·have h1:=xN i (by simpa using ec)
     rw [s8] at h1
     simp only [Bool.and_eq_true,List.all_eq_true] at h1
     have h2:=h1.1 e (by simpa using he)
     simp only [hb,Bool.not_true,Bool.false_or,decide_eq_true_eq] at h2
     have h3:e.on ∉ left ops aR:=by
      rw [hl]
      intro hm
      rw [hl] at Fp
      rcases List.mem_cons.1 hm with h4 | h4
      ·omega
      ·have:=(List.pairwise_cons.1 Fp).1 _ h4; omega
     unfold left at h3
     simp only [List.mem_filter,List.mem_range,not_and] at h3
     have h4:=h3 (by omega)
     have h5:e.on<aR.size:=by omega
     simp only [hb,Bool.not_true,Bool.false_or]
     simpa [h5] using h4
    ·simp [hb]
   rw [pN] at NX; cases NX
theorem yg {ops:Array Oper} {aR:Array Bool} (eH:aR.size=ops.size) (i:Nat):left ops (aR.setIfInBounds i true)=(left ops aR).filter fun k=>k != i:=by
 unfold left
 rw [List.filter_filter]
 apply List.filter_congr
 intro k hk
 have hk:=List.mem_range.1 hk
 by_cases xT:k=i
 ·subst xT
  have:k<aR.size:=by omega
  simp [this]
 ·simp [Array.getElem?_setIfInBounds_ne (Ne.symm xT),xT]
theorem sw {ops:Array Oper} {aR:Array Bool} (eH:aR.size=ops.size) (lO:∀ i o,ops[i]?=some o→aR.getD i true=true→∀ e ∈ o.after,Region.binds .any e=true→aR.getD e.on false=true) {i:Nat} (qt:∀ o,ops[i]?=some o→∀ e ∈ o.after,Region.binds .any e=true→aR.getD e.on false=true) (hi:i<ops.size) :
  ∀ j o,ops[j]?=some o→(aR.setIfInBounds i true).getD j true=true→∀ e ∈ o.after,Region.binds .any e=true→(aR.setIfInBounds i true).getD e.on false=true:=by
 intro j o N9 hj e he hb
 have iP:∀ q,aR.getD q false=true→(aR.setIfInBounds i true).getD q false=true:=by
  intro q hq
  by_cases Od:q=i
  ·subst Od
   have:q<aR.size:=by omega
   simp [this]
  ·simpa [Array.getElem?_setIfInBounds_ne (Ne.symm Od)] using hq
 apply iP
 by_cases Ef:j=i
 ·subst Ef; exact qt o N9 e he hb
 ·refine lO j o N9 ?_ e he hb
  simpa [Array.getElem?_setIfInBounds_ne (Ne.symm Ef)] using hj
theorem uf {n:Nat} {ops:Array Oper} {et:List Nat} (gD:vX n ops et=true) {Q:Exit→Act→World→Prop}:∀ (s:List Oper) (j fuel:Nat) (aR:Array Bool) (a:Act) (w:World),n≤j→j+s.length=ops.size→(∀ i,s[i]?=ops[j+i]?)→aR.size=ops.size→s.length≤fuel→left ops aR=(List.range' j s.length) →
  (∀ i o,ops[i]?=some o→aR.getD i true=true→∀ e ∈ o.after,Region.binds .any e=true→aR.getD e.on false=true)→wpList P ops Q s a w→wpAny P .any ops Q fuel aR a w
 | [],j,fuel,aR,a,w,hj,hs,Tf,eH,hf,hl,lO,h=>by
  obtain ⟨g1,g2,g3⟩:=kQ gD eH lO
  have eA:Region.ready .any ops aR=[]:=by
   rw [List.eq_nil_iff_forall_not_mem]
   intro i hi
   have:=(g1 i hi).1
   rw [hl] at this; cases this
  cases fuel with
  | zero=>exact ⟨eA,h⟩
  | succ fuel=>exact ⟨fun _=>h,fun i hi=>by rw [eA] at hi; cases hi⟩
 | o :: s,j,fuel,aR,a,w,hj,hs,Tf,eH,hf,hl,lO,h=>by
  obtain ⟨g1,g2,g3⟩:=kQ gD eH lO
  cases fuel with
  | zero=>simp at hf
  | succ fuel =>
   refine ⟨fun pN=>?_,fun i hi=>?_⟩
   ·have:=g3 pN
    rw [hl] at this; simp [List.range'] at this
   ·obtain ⟨xS,qt⟩:=g1 i hi
    rw [hl] at xS
    simp only [List.mem_range'_1,List.length_cons] at xS
    have rQ:i=j:=by
     rcases Nat.lt_or_ge j i with ec | NQ
     ·exact absurd (by rw [hl]; simp [List.mem_range'_1]) (g2 i hi (by omega) j ec)
     ·omega
    subst rQ
    have s8:ops[i]?=some o:=by have:=Tf 0; simpa using this.symm
    have ec:i<ops.size:=by simp only [List.length_cons] at hs; omega
    have jP:∀ a w,wpList P ops Q s a w→wpAny P .any ops Q fuel (aR.setIfInBounds i true) a w:=fun a w h' =>
     uf gD s (i+1) fuel (aR.setIfInBounds i true) a w (by omega) (by simp only [List.length_cons] at hs; omega) (fun k=>by have:=Tf (k+1); simp only [List.getElem?_cons_succ] at this; rw [this]; congr 1; omega) (by simpa using eH) (by simp only [List.length_cons] at hf; omega) (by
      rw [yg eH,hl,List.length_cons,List.range'_succ,List.filter_cons]
      simp only [bne_self_eq_false,Bool.false_eq_true,if_false]
      rw [List.filter_eq_self.2]
      intro k hk
      have:=(List.mem_range'_1.1 hk).1
      simp; omega) (sw eH lO qt ec) h'
    simp only [wpList] at h
    unfold wpOp
    rw [s8]
    simp only
    split
    ·rename_i hw
     rw [if_pos hw] at h
     exact h.imp (Oper.wp_mono jP) (fun h=>h)
    ·rename_i hw
     rw [if_neg hw] at h
     exact jP _ _ h
theorem LH.PK {Mt n:Nat} {l:List Oper} {Q:Exit→Env→Mem→Prop} {e:Env} {m:Mem} (AJ:P.follows .mixedOrders=true) (ro:List Nat) (et:List Nat) (R3:List (Nat × LV)) (va:List (Nat × LE)) (el:List (Nat × LV)) (ml:List (Nat × LE)) (hlen:et.length=n) (hn:n≤l.length) (hd:oK N l=true) (gD:vX n l.toArray et=true)
  (h:cA P pr ro l.toArray ((l.take n).zip et) (fun e m=>Wk pr e m (Env.of R3) (Mem.of va)) e m) (h2:cH P N pr l.toArray (l.drop n) (fun e m=>Wk pr e m (Env.of el) (Mem.of ml)) (Env.of R3) (Mem.of va)) (hr:Q .normal (Env.of el) (Mem.of ml)):LH P N pr (.region Mt l.toArray true) Q e m:=by
 obtain ⟨e1,m1,Ut,hc⟩:=kJ _ h
 obtain ⟨e2,m2,Uu,du⟩:=h2 (rP hd) (fun o ho=>by simp only [List.mem_toArray]; exact List.mem_of_mem_drop ho)
 refine ⟨.normal,_,_,fun c a hr=>?_,hr⟩
 have TJ:((List.range n).map fun i=>(l.getD i default,et.getD i 2))=(l.take n).zip et:=by
  have:=qJ (l.take n) et (by rw [hlen,List.length_take,Nat.min_eq_left hn])
  rw [← this,List.length_take,Nat.min_eq_left hn]
  apply List.map_congr_left
  intro i hi
  have hi:=List.mem_range.1 hi
  simp [List.getElem?_take,hi]
 rw [← TJ] at hc
 refine wp_region_any AJ ?_
 have NL:=rP hd
 have xN:=List.all_eq_true.1 gD
 have key : ∀ (fuel : Nat) (aR : Array Bool) (A : List Nat) (e0 : Env) (m0 : Mem) (c0 : Cx) (a0 : Act), aR.size = l.toArray.size → left l.toArray aR = A ++ List.range' n (l.length - n) → (∀ k ∈ A, k < n) → (left l.toArray aR).length ≤ fuel →
   (∀ i o,l.toArray[i]?=some o→aR.getD i true=true→∀ e ∈ o.after,Region.binds .any e=true→aR.getD e.on false=true) →
   oi P pr ro l.toArray (A.map fun i=>(l.getD i default,et.getD i 2)) e0 m0 e1 m1→mw N c0 e0 m0 a0→Grow pr c c0 →
   wpAny P .any l.toArray (fun x a' w'=>x=.normal∧∃ c':Cx,c'.w=w'∧mw N c' (Env.of el) (Mem.of ml) a'∧Grow pr c c') fuel aR a0 c0.w:=by
  intro fuel
  induction fuel with
  | zero =>
   intro aR A e0 m0 c0 a0 eH iy hA C6 lO zW Fs wi
   have Jf:left l.toArray aR=[]:=List.eq_nil_of_length_eq_zero (by omega)
   rw [Jf] at iy
   have hA0:A=[]:=by cases A with | nil=>rfl | cons x A=>simp at iy
   subst hA0
   obtain ⟨rfl,rfl⟩:=zW
   obtain ⟨c1,FK,ei,zY⟩:=Ut N c0 a0 Fs
   have hz:l.length - n=0:=by have:=congrArg List.length iy; simpa using this.symm
   have NK:l.drop n=[]:=List.eq_nil_of_length_eq_zero (by simpa using hz)
   have xX:=du c1 a0 ei
   rw [NK] at xX
   obtain ⟨_,c2,qV,fH,pL⟩:=xX
   obtain ⟨c3,Ry,ot,Sw⟩:=Uu N c2 a0 fH
   refine ⟨?_,rfl,c3,by rw [Ry,qV,FK],ot,((wi.trans zY).trans pL).trans Sw⟩
   obtain ⟨g1,g2,g3⟩:=kQ gD eH lO
   rw [List.eq_nil_iff_forall_not_mem]
   intro i hi
   have:=(g1 i hi).1
   rw [Jf] at this; cases this
  | succ fuel ih =>
   intro aR A e0 m0 c0 a0 eH iy hA C6 lO zW Fs wi
   obtain ⟨g1,g2,g3⟩:=kQ gD eH lO
   by_cases hA0:A=[]
   ·subst hA0
    obtain ⟨rfl,rfl⟩:=zW
    obtain ⟨c1,FK,ei,zY⟩:=Ut N c0 a0 Fs
    have xX:=du c1 a0 ei
    rw [FK] at xX
    rw [List.nil_append] at iy
    refine uf gD (l.drop n) n (fuel+1) aR a0 c0.w (Nat.le_refl _) (by simp; omega) (fun i=>by simp [List.getElem?_drop]) eH (by rw [iy] at C6; simpa using C6) (by rw [iy,List.length_drop]) lO ?_
    refine gq _ _ _ _ _ ?_ xX
    rintro x a' w' ⟨rfl,c2,rfl,fH,pL⟩
    obtain ⟨c3,Ry,ot,Sw⟩:=Uu N c2 a' fH
    exact ⟨rfl,c3,Ry,ot,((wi.trans zY).trans pL).trans Sw⟩
   ·have Fp:(left l.toArray aR).Pairwise (·<·):=by unfold left; exact List.Pairwise.filter _ List.pairwise_lt_range
    refine ⟨fun pN=>?_,fun i hi=>?_⟩
    ·exfalso
     have:=g3 pN
     rw [iy] at this
     exact hA0 (List.append_eq_nil_iff.1 this).1
    ·obtain ⟨xS,qt⟩:=g1 i hi
     have Ee:i<n:=by
      rcases Nat.lt_or_ge i n with h' | h'
      ·exact h'
      ·exfalso
       obtain ⟨k,hk⟩:=List.exists_mem_of_ne_nil A hA0
       exact g2 i hi h' k (by have:=hA k hk; omega) (by rw [iy]; simp [hk])
     have VX:i ∈ A:=by
      rw [iy] at xS
      rcases List.mem_append.1 xS with h' | h'
      ·exact h'
      ·have:=(List.mem_range'_1.1 h').1; omega
     have gI:=xS
     unfold left at gI
     simp only [List.mem_filter,List.mem_range] at gI
     have ec:=gI.1
     have K1:i<l.length:=by simpa using ec
     have s8:l.toArray[i]?=some (l.getD i default):=by simp [K1]
     obtain ⟨pre,post,jG⟩:=List.append_of_mem VX
     have Lh:A.Pairwise (·<·):=by rw [iy] at Fp; exact (List.pairwise_append.1 Fp).1
     rw [jG] at Lh
     have tb:∀ k ∈ pre,k<i:=fun k hk=>(List.pairwise_append.1 Lh).2.2 k hk i (by simp)
     have wm:∀ k ∈ post,i<k:=fun k hk=>(List.pairwise_cons.1 (List.pairwise_append.1 Lh).2.1).1 k hk
     have s6:left l.toArray (aR.setIfInBounds i true)=(pre++post)++List.range' n (l.length - n):=by
      rw [yg eH,iy,jG,List.filter_append,List.filter_append,List.filter_cons]
      simp only [bne_self_eq_false,Bool.false_eq_true,if_false]
      rw [List.filter_eq_self.2 (fun k hk=>by have:=tb k hk; simp; omega),List.filter_eq_self.2 (fun k hk=>by have:=wm k hk; simp; omega),List.filter_eq_self.2 (fun k hk=>by have:=(List.mem_range'_1.1 hk).1; simp; omega)]
     rw [jG,List.map_append,List.map_cons] at zW
     have AG:=oZ _ _ (by
      intro x hx
      simp only [List.mem_map] at hx
      obtain ⟨k,hk,rfl⟩:=hx
      have h1:=xN i (by simpa using ec)
      rw [s8] at h1
      simp only [Bool.and_eq_true,List.all_eq_true] at h1
      have xT:=tb k hk
      have h2:=h1.2 k (by simpa using xT)
      have Fj:l.toArray[k]?=some (l.getD k default):=by simp [show k<l.length by omega]
      rw [Fj] at h2
      simp only [Bool.or_eq_true,Bool.and_eq_true] at h2
      rcases h2 with h2 | h2
      ·exact h2.2
      ·exfalso
       have h3:=jR lO eH 8 k i _ s8 (qt _ s8) h2
       have h4:k ∈ left l.toArray aR:=by rw [iy,jG]; simp [hk]
       unfold left at h4
       simp only [List.mem_filter,List.mem_range] at h4
       have h5:k<aR.size:=by omega
       have h6:=h4.2
       simp [h5] at h3 h6
       rw [h3] at h6; cases h6) zW
     obtain ⟨lv,mm,oT,jP⟩:=AG
     unfold wpOp
     rw [s8]
     simp only
     refine xx NL (NL _ (Array.mem_of_getElem? s8)) oT c0 a0 _ _ Fs ?_
     intro a' c' rD Fy
     refine ih (aR.setIfInBounds i true) (pre++post) _ mm c' a' (by simpa using eH) s6 ?_ ?_ (sw eH lO qt ec) ?_ rD (wi.trans Fy.grow)
     ·intro k hk
      refine hA k ?_
      rw [jG]
      rcases List.mem_append.1 hk with h' | h' <;> simp [h']
     ·rw [s6]
      rw [iy,jG] at C6
      simp at C6 ⊢; omega
     ·rw [List.map_append]; exact jP
 have iy:left l.toArray (Array.replicate l.toArray.size false)=List.range n++List.range' n (l.length - n):=by
  unfold left
  rw [List.filter_eq_self.2]
  ·have hh:=List.range'_append_1 (s:=0) (m:=n) (n:=l.length - n)
   rw [Nat.zero_add] at hh
   rw [List.size_toArray,List.range_eq_range',List.range_eq_range',hh]
   congr 1; omega
  ·intro i hi
   simp at hi
   simp [hi]
 have rD:mw N ⟨{ c.w with drawn:=c.w.drawn+1 },c.B,c.O,c.Q⟩ e m a:=by
  obtain ⟨iH,Td⟩:=hr.mem.ext (pr:=pr) { c.w with drawn:=c.w.drawn+1 } rfl rfl rfl (Nat.le_succ _) (Nat.le_refl _) (fun _ _=>rfl)
  exact ⟨fun i=>Td.wS (hr.env i),iH,hr.size,hr.defers⟩
 have sW:Grow pr c ⟨{ c.w with drawn:=c.w.drawn+1 },c.B,c.O,c.Q⟩:=(hr.mem.ext (pr:=pr) { c.w with drawn:=c.w.drawn+1 } rfl rfl rfl (Nat.le_succ _) (Nat.le_refl _) (fun _ _=>rfl)).2.grow
 refine key l.toArray.size (Array.replicate l.toArray.size false) (List.range n) e m ⟨{ c.w with drawn:=c.w.drawn+1 },c.B,c.O,c.Q⟩ a (by simp) iy (fun k hk=>List.mem_range.1 hk) ?_ ?_ hc rD sW
 ·unfold left
  exact Nat.le_trans (List.length_filter_le _ _) (by simp)
 ·intro i o ho hl
  have:i<l.toArray.size:=by
   rcases Nat.lt_or_ge i l.toArray.size with h' | h'
   ·exact h'
   ·simp at h'; simp [List.getElem?_eq_none h'] at ho
  simp at this
  simp [this] at hl
end
end Go.L
namespace Go.L
theorem Bw {α:Type} {cf:α→α→Int} {ys zs:List α} (hp:zs.Perm ys) (hy:ys.Pairwise fun a b=>cf a b<0) (hz:zs.Pairwise fun a b=>¬ cf b a<0):zs=ys:=by
 induction ys generalizing zs with
 | nil=>exact hp.eq_nil
 | cons y ys ih =>
  obtain ⟨rS,TG⟩:=List.pairwise_cons.1 hy
  cases zs with
  | nil=>exact absurd hp.symm.eq_nil (by simp)
  | cons z zs =>
   obtain ⟨B7,LS⟩:=List.pairwise_cons.1 hz
   have TL:z=y:=by
    rcases List.mem_cons.1 (hp.mem_iff.1 (List.mem_cons_self)) with h | h
    ·exact h
    ·have h1:=rS z h
     rcases List.mem_cons.1 (hp.mem_iff.2 (List.mem_cons_self:y ∈ y :: ys)) with h2 | h2
     ·exact h2.symm
     ·exact absurd h1 (B7 y h2)
   subst TL
   rw [ih (List.Perm.cons_inv hp) TG LS]
def oC {α:Type} (c:α→α→Option Int) (xs ys:List α):Prop :=
 ys.Perm xs∧xs.length<1000000∧∃ cf:α→α→Int,(∀ x ∈ xs,∀ y ∈ xs,c x y=some (cf x y))∧(∀ x ∈ xs,¬ cf x x<0)∧(∀ x ∈ xs,∀ y ∈ xs,∀ z ∈ xs,cf x y<0→cf y z<0→cf x z<0) ∧
  (∀ x ∈ xs,∀ y ∈ xs,∀ z ∈ xs,¬ cf x y<0→¬ cf y z<0→¬ cf x z<0)∧ys.Pairwise fun a b=>cf a b<0
theorem oC.unique {α:Type} {c:α→α→Option Int} {xs ys zs:List α} (h:oC c xs ys) (h':oC c xs zs):ys=zs:=by
 obtain ⟨hp,_,cf,hc,_,ht,_,hs⟩:=h
 obtain ⟨AM,_,RY,xi,gx,_,_,Fy⟩:=h'
 refine Bw (cf:=RY) (hp.trans AM.symm) Fy ?_
 refine List.Pairwise.imp_of_mem ?_ hs
 intro a b ha hb mj Uz
 have ma:=hp.mem_iff.1 ha
 have mb:=hp.mem_iff.1 hb
 have h1:RY b a=cf b a:=by have:=hc b mb a ma; rw [xi b mb a ma] at this; exact Option.some.inj this
 have h2:RY a a=cf a a:=by have:=hc a ma a ma; rw [xi a ma a ma] at this; exact Option.some.inj this
 rw [h1] at Uz
 exact gx a ma (by rw [h2]; exact ht a ma b mb a ma mj Uz)
open Classical in
noncomputable def p8 {α:Type} (c:α→α→Option Int) (xs:List α):Option (List α):=if h:∃ ys,oC c xs ys then some h.choose else .none
theorem G8 {α:Type} {c:α→α→Option Int} {xs ys:List α} (h:oC c xs ys):p8 c xs=some ys:=by
 have hx:∃ ys,oC c xs ys:=⟨ys,h⟩
 unfold p8
 rw [dif_pos hx]
 exact congrArg some (hx.choose_spec.unique h)
theorem zp {α:Type} {c:α→α→Option Int} {xs ys:List α} (h:p8 c xs=some ys):oC c xs ys:=by
 unfold p8 at h
 split at h
 ·rename_i hx; cases h; exact hx.choose_spec
 ·cases h
theorem vJ {α:Type} {c:α→α→Option Int} {xs ys:List α} (h:p8 c xs=some ys):xs.length=ys.length:=(zp h).1.length_eq.symm
end Go.L
namespace Go.L
open Go.Sort Go.Proofs Go.Shelf Go.Lib
theorem D0 {α:Type} {cf:α→α→Int} {ys zs:List α} (hp:zs.Perm ys) (hy:ys.Pairwise fun a b=>cf a b<0) (hz:zs.Pairwise fun a b=>¬ cf b a<0):zs=ys:=by
 induction ys generalizing zs with
 | nil=>exact hp.eq_nil
 | cons y ys ih =>
  obtain ⟨rS,TG⟩:=List.pairwise_cons.1 hy
  cases zs with
  | nil=>exact absurd hp.symm.eq_nil (by simp)
  | cons z zs =>
   obtain ⟨B7,LS⟩:=List.pairwise_cons.1 hz
   have TL:z=y:=by
    rcases List.mem_cons.1 (hp.mem_iff.1 (List.mem_cons_self)) with h | h
    ·exact h
    ·have h1:=rS z h
     rcases List.mem_cons.1 (hp.mem_iff.2 (List.mem_cons_self:y ∈ y :: ys)) with h2 | h2
     ·exact h2.symm
     ·exact absurd h1 (B7 y h2)
   subst TL
   rw [ih (List.Perm.cons_inv hp) TG LS]
theorem HO {w w':World} (Ei:w'.os=w.os) (ht:w'.tape=w.tape) (ho:w'.output=w.output) (hd:w.drawn≤w'.drawn) (hs:w.heap.size≤w'.heap.size) (hk:∀ b,b<w.heap.size→w'.heap[b]?=w.heap[b]?) :
  w'=grow (w.drewN (w'.drawn - w.drawn)) (w'.heap.extract w.heap.size w'.heap.size):=by
 obtain ⟨h',t',d',o',p'⟩:=w'
 obtain ⟨h,t,d,o,p⟩:=w
 simp only at Ei ht ho hd hs hk
 subst Ei; subst ht; subst ho
 simp only [grow,World.drewN,World.mk.injEq,true_and,and_true]
 refine ⟨?_,by omega⟩
 apply Array.ext_getElem?
 intro i
 rw [Array.getElem?_append]
 split
 ·rename_i hi; exact hk i hi
 ·rename_i hi
  rw [Array.getElem?_extract]
  by_cases gx:i<h'.size
  ·rw [if_pos (by omega)]; congr 1; omega
  ·rw [if_neg (by omega),Array.getElem?_eq_none (by omega)]
theorem tp {c:Cx} {α:Type} (en:α→Int):∀ {xs:List α} {us:List Value},aC c (xs.map fun x=>LV.int .i64 (en x)) us→us=xs.map fun x=>Value.int .i64 (en x)
 | [],us,h=>by simpa [aC] using h
 | x :: xs,us,h=>by
  simp only [List.map_cons,aC] at h
  obtain ⟨v,vs,rfl,h1,h2⟩:=h
  simp only [av] at h1
  rw [h1,tp en h2]; rfl
theorem ym {c:Cx} {α:Type} (en:α→Int):∀ (xs:List α),aC c (xs.map fun x=>LV.int .i64 (en x)) (xs.map fun x=>Value.int .i64 (en x))
 | []=>by simp [aC]
 | x :: xs=>by simp only [List.map_cons,aC]; exact ⟨_,_,rfl,by simp [av],ym en xs⟩
theorem qq {α:Type} (en:α→Int):∀ (xs:List α),flat (xs.map fun x=>Value.int .i64 (en x))=xs.map fun x=>Value.int .i64 (en x)
 | []=>rfl
 | x :: xs=>by rw [List.map_cons,gw,qq en xs]; rfl
theorem vj {α:Type} (en:α→Int):∀ (xs:List α),LV.bo (xs.map fun x=>LV.int .i64 (en x))=true
 | []=>rfl
 | x :: xs=>by simp only [List.map_cons,LV.bo,LV.pure,vj en xs,Bool.and_self]
theorem Kf {α:Type} [Inhabited α] (enc:α→Value) (w:World) (nA m:Nat) (d:Array α) (os:Array Obj):(sortWorld enc w nA 0 m d os).os=w.os∧(sortWorld enc w nA 0 m d os).tape=w.tape∧(sortWorld enc w nA 0 m d os).output=w.output∧w.drawn≤(sortWorld enc w nA 0 m d os).drawn∧w.heap.size≤(sortWorld enc w nA 0 m d os).heap.size:=by
 refine ⟨rfl,rfl,rfl,Nat.le_add_right _ _,?_⟩
 simp [sortWorld,grow,putRow,mapBlock,ahead]
theorem CC {α:Type} [Inhabited α] (enc:α→Value) (w:World) (nA m:Nat) (d:Array α) (os:Array Obj) (b:Nat) (hb:b<w.heap.size) (eA:b ≠ nA):(sortWorld enc w nA 0 m d os).heap[b]?=w.heap[b]?:=by
 simp only [sortWorld,grow,putRow,mapBlock,ahead]
 rw [Array.getElem?_append_left (by simpa using hb),Array.getElem?_modify]
 simp [Ne.symm eA]
theorem QU {α:Type} [Inhabited α] (enc:α→Value) (w:World) (nA m:Nat) (d:Array α) (os:Array Obj) {cur:Array Value} {e:TypeId} {z:Nat × Nat} (hg:w.heap[nA]?=some (.cells cur e z)):(sortWorld enc w nA 0 m d os).heap[nA]?=some (.cells (putCells enc 0 d cur) e z):=by
 have hb:nA<w.heap.size:=(Array.getElem?_eq_some_iff.1 hg).1
 simp only [sortWorld,grow,putRow,mapBlock,ahead]
 rw [Array.getElem?_append_left (by simpa using hb),Array.getElem?_modify]
 simp [hg,onCells]
theorem G9 {P:Program} {ρ:Ren} (L:SlLaysF.n6 P ρ) {α:Type} (en:α→Int) (cf:α→α→Int) (hO:SWO (ltOf cf)) (g:Nat) (cap:List LV) (mQ:LV.bo cap=true)
  (eg:∀ args w,(callFunc g args).run P w=.ok (.enter g args) w) (KT:∀ x y,sr P g ([.int .i64 (en x),.int .i64 (en y)]++cap) (.int .i64 (cf x y)))
  (xs ys:List α) (Fl:ys.Perm xs) (Oi:ys.Pairwise fun a b=>cf a b<0) (hlen:xs.length<1000000) (id e:Nat) :
  aO P (ρ.f 6) [.arr id xs.length,.fn g cap] (Mem.of [(id,.arr e 1 (xs.map fun x=>.int .i64 (en x)))]) (.cV []) (Mem.of [(id,.arr e 1 (ys.map fun x=>.int .i64 (en x)))]):=by
 intro c vs hm ha
 simp only [aC] at ha
 obtain ⟨v0,Vh,rfl,MZ,v1,WZ,rfl,jY,rfl⟩:=ha
 obtain ⟨us,hB,hk,bj,hl,hc,hp⟩:=gv (e:=e) (k:=1) (xs:=xs.map fun x=>LV.int .i64 (en x)) hm MZ (by simp [Mem.of]) (by simp)
 simp only [av] at jY
 obtain ⟨cb,rfl,NI⟩:=jY
 have FD:=tp en hl
 subst FD
 rw [qq] at bj
 have N1:(xs.map fun x=>LV.int .i64 (en x)).length=xs.length:=by simp
 rw [N1] at bj hB
 by_cases Jp:xs=[]
 ·subst Jp
  have Ic:ys=[]:=Fl.eq_nil
  subst Ic
  obtain ⟨ad,cp,rfl⟩:=dC bj
  refine (AnyF.slices_SortFunc_none { L with } ad cp (.func (.func g) #[] cb.toArray) c.w).mono ?_
  rintro Rc w' ⟨rfl,rfl⟩
  exact ⟨_,c,rfl,rfl,hm,by simp only [av,aC]; exact ⟨[],rfl,rfl⟩,Grow.refl _ c⟩
 ·haveI:Inhabited α:=⟨xs.head Jp⟩
  have u4:0<xs.length:=List.length_pos_iff.2 Jp
  rcases bj.2 with ⟨rfl,h0⟩ | ⟨nA,cp,cur,rfl,_,hg,kq,zX,hcs,xk⟩
  ·omega
  ·have hblk : nA < c.w.heap.size := (Array.getElem?_eq_some_iff.1 hg).1
   have KU:∀ j,j<xs.length→cur[j]?=some (.int .i64 (en xs[j]!)):=by
    intro j hj
    have h1:=congrArg (fun l=>l[j]?) xk
    simp only [List.getElem?_take,Nat.mul_one,List.getElem?_map] at h1
    rw [if_pos hj] at h1
    rw [← Array.getElem?_toList,h1]
    simp [hj]
   have hH:Holds (fun x=>Value.int .i64 (en x)) c.w nA 0 xs.toArray:=by
    intro j hj
    have Fa:j<xs.length:=by simpa using hj
    constructor
    ·simp [World.cell?,hg,KU j Fa]
    ·simp [World.frozen?,hg]
   have NJ:CmpLays1 P g cb.toArray (fun x=>Value.int .i64 (en x)) cf nA 0 xs.toArray.size c.w:=by
    intro q os dk W8 x y
    obtain ⟨s1,s2,s3,s4,s5⟩:=Kf (fun x=>Value.int .i64 (en x)) c.w nA q dk os
    have Rt:=CC (fun x=>Value.int .i64 (en x)) c.w nA q dk os
    have Uy:c.own nA:=⟨id,_,hB,by simp [BE.has,Value.ownBlock]⟩
    have hX:c.X nA:=.inr Uy
    have hle:c.Le ⟨sortWorld (fun x=>Value.int .i64 (en x)) c.w nA 0 q dk os,fun _=>.none,fun b=>c.O b ∨ c.own b,c.Q⟩:=by
     refine ⟨s5,fun b hb hx=>⟨Rt b hb (fun h=>hx (h ▸ hX)),?_⟩,fun b n hb=>⟨Rt b (hm.cS b (by rw [hb]; simp)).2.2 (fun h=>(hm.cS b (by rw [hb]; simp)).2.1 (h ▸ Uy)),hb⟩⟩
     rintro (((h | h) | h) | ⟨_,_,h,_⟩)
     ·exact hx (.inl (.inl h))
     ·exact hx (.inr h)
     ·exact hx (.inl (.inr h))
     ·cases h
    have pM:b3 ⟨sortWorld (fun x=>Value.int .i64 (en x)) c.w nA 0 q dk os,fun _=>.none,fun b=>c.O b ∨ c.own b,c.Q⟩ Mem.none:=by
     refine ⟨fun _=>by simp [bw,Mem.none],(fun _ _ _ _ _ h=>by cases h),(fun b ⟨_,_,h,_⟩=>by cases h),fun b hb=>?_,fun b hb=>⟨fun h=>h.elim (hm.cS b hb).1 (hm.cS b hb).2.1,(fun ⟨_,_,h,_⟩=>by cases h),Nat.lt_of_lt_of_le (hm.cS b hb).2.2 s5⟩⟩
     rcases hb with hb | hb
     ·exact Nat.lt_of_lt_of_le (hm.pw b hb) s5
     ·exact Nat.lt_of_lt_of_le (hm.k8 hb) s5
    have hargs:aC ⟨sortWorld (fun x=>Value.int .i64 (en x)) c.w nA 0 q dk os,fun _=>.none,fun b=>c.O b ∨ c.own b,c.Q⟩ ([.int .i64 (en x),.int .i64 (en y)]++cap) ([.int .i64 (en x),.int .i64 (en y)]++cb):=by
     simp only [List.cons_append,List.nil_append,aC]
     refine ⟨_,_,rfl,by simp [av],_,_,rfl,by simp [av],aC.mono hle cap cb (fun j hj=>?_) NI⟩
     rw [az cap mQ] at hj; cases hj
    have om:=KT x y _ _ pM hargs
    have KD:(([.int .i64 (en x),.int .i64 (en y)]++cb:List Value)).toArray=#[Value.int .i64 (en x),Value.int .i64 (en y)]++cb.toArray:=by simp
    rw [KD] at om
    refine om.mono ?_
    rintro Rc w' ⟨v,c',rfl,rfl,_,hv,K0⟩
    simp only [av] at hv
    refine ⟨by rw [hv],_,_,HO K0.os K0.tape K0.output K0.drawn K0.size fun b hb=>K0.jI b hb ?_ (.inr fun h=>h rfl)⟩
    rintro ⟨_,_,h,_⟩
    cases h
   have hS:=Any.slices_SortFunc L (fun x=>Value.int .i64 (en x)) (fun _=>rfl) cf hO g cb.toArray nA 0 cp xs.toArray c.w eg NJ hH hblk (by simp; omega)
   simp only [List.size_toArray] at hS
   refine hS.mono ?_
   rintro Rc w' ⟨rfl,d',q,os,hP,VG,rfl⟩
   have Sr:d'.size=xs.length:=by simpa using hP.1
   have Ro:d'.toList=ys:=by
    have UT:d'.toList.Perm xs:=by
     have:=hP.2.2
     simp only [List.size_toArray,Array.toList_extract,List.extract_eq_take_drop,Nat.sub_zero,List.drop_zero,List.take_length] at this
     rwa [List.take_of_length_le (by simp [Sr])] at this
    refine D0 (cf:=cf) (UT.trans Fl.symm) Oi ?_
    rw [List.pairwise_iff_getElem]
    intro i j hi hj rQ
    simp only [Array.length_toList] at hi hj
    have:=VG i j (Nat.zero_le _) rQ (by omega)
    simp only [ltOf,decide_eq_false_iff_not] at this
    rw [getElem!_pos d' j hj,getElem!_pos d' i hi] at this
    simpa using this
   obtain ⟨s1,s2,s3,s4,s5⟩:=Kf (fun x=>Value.int .i64 (en x)) c.w nA q d' os
   have Rt:=CC (fun x=>Value.int .i64 (en x)) c.w nA q d' os
   have Sk:=QU (fun x=>Value.int .i64 (en x)) c.w nA q d' os hg
   have Dl:ys.length=xs.length:=Fl.length_eq
   obtain ⟨c',Hz,iF,iO,kG⟩:=hm.Ac (pr:=fun i=>Mem.of [(id,LE.arr e 1 (xs.map fun x=>LV.int .i64 (en x)))] i ≠ .none) id (.arr e 1 (ys.map fun x=>LV.int .i64 (en x))) _ (sortWorld (fun x=>Value.int .i64 (en x)) c.w nA 0 q d' os) s1 s2 s3 s4 s5 
    (fun b hb hn=>Rt b hb fun h=>hn _ hB (by rw [h]; simp [BE.has,Value.ownBlock]))
    (fun b hb=>.inl ⟨_,hB,hb⟩) (by rw [hB]; exact jB.refl _) (fun _ dr h=>by rw [hB] at h; cases h; exact .refl _) (by
     intro c1 jc AH W6
     simp only [bw]
     refine ⟨_,ys.map fun x=>Value.int .i64 (en x),by simp only [List.length_map,Dl]; rfl,by decide,?_,ym en ys,?_,?_⟩
     ·rw [qq,List.length_map,Dl,jc]
      refine ⟨by simp [Dl],.inr ⟨nA,cp,_,rfl,Nat.zero_le _,Sk,kq,zX,?_,?_⟩⟩
      ·simpa [putCells] using hcs
      ·apply List.ext_getElem?
       intro j
       have UD:cur.size=cp:=by simpa using hcs
       by_cases hj:j<xs.length
       ·have Fb:j<d'.size:=by omega
        have V0:j<ys.length:=by omega
        have WA:d'[j]=ys[j]:=by
         simp only [← Ro,Array.getElem_toList]
        rw [List.getElem?_take,if_pos (by omega),Array.getElem?_toList]
        simp only [putCells,Array.getElem?_mapIdx,Nat.zero_le,Nat.zero_add,Nat.sub_zero,true_and]
        rw [Array.getElem?_eq_getElem (by omega)]
        simp [Fb,WA,V0]
       ·rw [List.getElem?_take,if_neg (by omega),List.getElem?_eq_none (by simp; omega)]
     ·intro v hv
      obtain ⟨y,_,rfl⟩:=List.mem_map.1 hv
      exact ⟨rfl,fun z hz=>by simp [Value.cells] at hz; subst hz; rfl⟩
     ·exact vj en ys)
   refine ⟨_,c',rfl,Hz,?_,by simp only [av,aC]; exact ⟨[],rfl,rfl⟩,kG.grow⟩
   have V7:Mem.put (Mem.of [(id,LE.arr e 1 (xs.map fun x=>LV.int .i64 (en x)))]) id (.arr e 1 (ys.map fun x=>LV.int .i64 (en x)))=Mem.of [(id,LE.arr e 1 (ys.map fun x=>LV.int .i64 (en x)))]:=by
    funext i
    by_cases hi:i=id
    ·subst hi; simp [Mem.put,Mem.of]
    ·simp [Mem.put,Mem.of,hi]
   rwa [V7] at iO 
end Go.L
namespace Go.L
open Go.Sort Go.Proofs Go.Shelf
theorem enters_of {P : Program} {g : Nat} (h : ∃ fn, P.funcs[g]? = some fn ∧ (fn.name == "runtime.NumGoroutine") = false ∧ fn.body.isNone = false) (args : Array Value) (w : World) : (callFunc g args).run P w = .ok (.enter g args) w := by
 obtain ⟨fn,h1,h2,h3⟩:=h
 have HP : ¬ fn.name = "runtime.NumGoroutine" := by simpa using h2
 have Vz:¬ fn.body=Option.none:=fun hn=>by rw [hn] at h3; cases h3
 simp [callFunc,h1,HP,Vz]
theorem MA {xs:List Int} {cf:Int→Int→Int} (h1:∀ x ∈ xs,¬ cf x x<0) (h2:∀ x ∈ xs,∀ y ∈ xs,∀ z ∈ xs,cf x y<0→cf y z<0→cf x z<0) (h3:∀ x ∈ xs,∀ y ∈ xs,∀ z ∈ xs,¬ cf x y<0→¬ cf y z<0→¬ cf x z<0):SWO (ltOf fun a b:{x // x ∈ xs}=>cf a.1 b.1):=by
 constructor
 ·intro x; simp only [ltOf,decide_eq_false_iff_not]; exact h1 x.1 x.2
 ·intro x y z; simp only [ltOf,decide_eq_true_eq]; exact h2 x.1 x.2 y.1 y.2 z.1 z.2
 ·intro x y z; simp only [ltOf,decide_eq_false_iff_not]; exact h3 x.1 x.2 y.1 y.2 z.1 z.2
theorem zq {P : Program} {ρ : Ren} (L : SlLaysF.n6 P ρ) {f : Nat} (hf : ρ.f 6 = f) {c : Int → Int → Option Int} {xs r : List Int} {g : Nat} {cap : List LV} (hg : ∃ fn, P.funcs[g]? = some fn ∧ (fn.name == "runtime.NumGoroutine") = false ∧ fn.body.isNone = false) (mQ : LV.bo cap = true)
  (KT:∀ x y q,c x y=some q→aO P g ([.int .i64 x,.int .i64 y]++cap) (Mem.of []) (.int .i64 q) (Mem.of [])) (id e:Nat) (h:p8 c xs=some r) :
  aO P f [.arr id xs.length,.fn g cap] (Mem.of [(id,.arr e 1 (xs.map (LV.int .i64)))]) (.cV []) (Mem.of [(id,.arr e 1 (r.map (LV.int .i64)))]):=by
 subst hf
 obtain ⟨hp,hn,cf,hc,h1,h2,h3,hs⟩:=zp h
 have hr:∀ x ∈ r,x ∈ xs:=fun x hx=>hp.mem_iff.1 hx
 have key:=G9 L (fun x:{x // x ∈ xs}=>x.1) (fun a b=>cf a.1 b.1) (MA h1 h2 h3) g cap mQ (enters_of hg)
  (fun x y=>KT _ _ _ (hc x.1 x.2 y.1 y.2)) (xs.pmap Subtype.mk fun _ h=>h) (r.pmap Subtype.mk hr) (hp.pmap _) ?_ (by simpa using hn) id e
 ·simp only [List.map_pmap,List.pmap_eq_map,List.length_pmap] at key
  exact key
 ·refine (List.pairwise_pmap _).2 ?_
  exact hs.imp fun {a b} h _ _=>h
end Go.L
namespace Go.L
open Go.Sort Go.Proofs Go.Shelf Go.Lib
end Go.L
namespace Go.L
def D5 (P:Program) (t:TypeId):Bool:=match P.underlying t with | some .string=>true | _=>false
theorem BB {P:Program} {t:TypeId} (h:D5 P t=true):P.underlying t=some .string:=by
 unfold D5 at h; split at h
 ·assumption
 ·cases h
def wX (a b:ByteArray):Option ByteArray:=if a.size+b.size≤1000000000 then some (a++b) else .none
def zm (s:ByteArray) (i:Int):Option Int:=if 0≤i then (s.data.toList[i.toNat]?).map fun b=>(b.toNat:Int) else .none
def Bv (ns:List Int):ByteArray:=ns.foldl (fun r n=>r.push (UInt8.ofNat n.toNat)) ByteArray.empty
theorem QR (a b:ByteArray):(a.toList == b.toList)=decide (a=b):=by
 rw [Bool.eq_iff_iff]
 simp only [beq_iff_eq,decide_eq_true_eq]
 constructor
 ·intro h
  rw [ByteArray.toList_eq,ByteArray.toList_eq] at h
  exact ByteArray.ext (Array.toList_inj.1 h)
 ·intro h; rw [h]
theorem Va:qm 1 LV.str:=fun _=>⟨rfl,rfl,rfl⟩
section
variable {P:Program} {pr:Nat→Prop} {ev:Operand→LV} {m:Mem} {d:Option Nat} {x y:Operand} {t t' ty:TypeId} {pos:String} {af:Array Edge} {gd:Option (Nat × Bool)} {a b:ByteArray}
theorem G4 {op:BinOp} (w:World):(eqGuard op t x y (.string a) (.string b)).run P w=.ok () w:=by unfold eqGuard; cases op <;> simp
theorem wE (hx:ev x=.str a) (hy:ev y=.str b):bn P pr ⟨d,.binOp .eql t x y t',ty,pos,af,gd⟩ ev m (.bool (decide (a=b))) m:=by
 refine bn.value fun c act bA hM=>?_
 have hv:=bA x (by simp [Op.operands])
 have hw:=bA y (by simp [Op.operands])
 rw [hx] at hv
 rw [hy] at hw
 simp only [av] at hv hw
 exact ⟨.bool (decide (a=b)),c,by simp [execOp,hv,hw,G4,binOp_string_eql,QR],by simp [av],hM,Step.refl pr c⟩
theorem Ci {r:ByteArray} (hx:ev x=.str a) (hy:ev y=.str b) (h:wX a b=some r):bn P pr ⟨d,.binOp .add t x y t',ty,pos,af,gd⟩ ev m (.str r) m:=by
 unfold wX at h
 split at h
 ·rename_i hs
  cases h
  refine bn.value fun c act bA hM=>?_
  have hv:=bA x (by simp [Op.operands])
  have hw:=bA y (by simp [Op.operands])
  rw [hx] at hv
  rw [hy] at hw
  simp only [av] at hv hw
  exact ⟨.string (a++b),c,by simp [execOp,hv,hw,G4,binOp_string_add,run_string_add_sum c.w a b (by omega)],by simp [av],hM,Step.refl pr c⟩
 ·cases h
theorem rW (ht:D5 P t=true) (hx:ev x=.str a):bn P pr ⟨d,.call ⟨.builtin .len,#[x],#[t]⟩,ty,pos,af,gd⟩ ev m (.int .i64 a.size) m:=by
 have hu:=BB ht
 refine bn.value fun c act bA hM=>?_
 have hv:=bA x (by simp [Op.operands,Call.operands])
 rw [hx] at hv
 simp only [av] at hv
 exact ⟨.int .i64 a.size,c,by simp [execOp,resolve,invoke,builtin,Builtin.len_,hv,run_underlying hu,goInt],by simp [av],hM,Step.refl pr c⟩
theorem wF {k:IntKind} {u z:Int} (ht:D5 P t=true) (hx:ev x=.str a) (hy:ev y=.int k u) (h:zm a u=some z):bn P pr ⟨d,.index t x y,ty,pos,af,gd⟩ ev m (.int .u8 z) m:=by
 have hu:=BB ht
 unfold zm at h
 split at h
 ·rename_i h0
  obtain ⟨q,hq,hz⟩:=Option.map_eq_some_iff.1 h
  have pk:a[u.toNat]?=some q:=by
   obtain ⟨hl,he⟩:=List.getElem?_eq_some_iff.1 hq
   have iN:u.toNat<a.size:=by rw [Array.length_toList] at hl; exact hl
   rw [getElem?_pos a u.toNat iN]
   simp only [Option.some.injEq]
   rw [← he]; simp [ByteArray.getElem_eq_getElem_data]
  refine bn.value fun c act bA hM=>?_
  have hv:=bA x (by simp [Op.operands])
  have hw:=bA y (by simp [Op.operands])
  rw [hx] at hv
  rw [hy] at hw
  simp only [av] at hv hw
  refine ⟨.int .u8 z,c,?_,by simp [av],hM,Step.refl pr c⟩
  simp [execOp,hv,hw,Instr.index,asIntOf,run_underlying hu,h0,pk,hz]
 ·cases h
theorem qN {c:Cx}:∀ {ns:List Int} {us:List Value},aC c (ns.map (LV.int .u8)) us→us=ns.map (Value.int .u8)
 | [],us,h=>by simpa [aC] using h
 | n :: ns,us,h=>by
  simp only [List.map_cons,aC] at h
  obtain ⟨v,vs,rfl,hv,hl⟩:=h
  simp only [av] at hv
  rw [hv,qN hl]; rfl
theorem sJ:∀ (ns:List Int),flat (ns.map (Value.int .u8))=ns.map (Value.int .u8)
 | []=>rfl
 | n :: ns=>by simp only [flat,List.map_cons,List.flatMap_cons]; rw [show (Value.int .u8 n).cells.toList=[Value.int .u8 n] from rfl]; exact congrArg _ (sJ ns)
theorem L9 {e:Nat} {ns:List Int} (hs:telem P t=some e) (he:tint P e=some .u8) (hd:D5 P t'=true) (hx:ev x=.al 1 (ns.map (LV.int .u8))):bn P pr ⟨d,.convert t t' x,ty,pos,af,gd⟩ ev m (.str (Bv ns)) m:=by
 have FD:=fp hs
 have Wr:=BB hd
 have Ws:P.underlying e=some (.int .u8):=by
  unfold tint at he; split at he
  ·rename_i k hk; cases he; exact hk
  ·cases he
 refine bn.value fun c act bA hM=>?_
 have hv:=bA x (by simp [Op.operands])
 rw [hx] at hv
 simp only [av] at hv
 obtain ⟨ad,cap,hval,mQ,pN,_,NH⟩:=hv
 refine ⟨.string (Bv ns),c,?_,by simp [av],hM,Step.refl pr c⟩
 have du:(Conv.bytesToString (.slice ad (ns.map (LV.int .u8)).length cap)).run P c.w=.ok (.string (Bv ns)) c.w:=by
  cases ad with
  | none =>
   have h0:=pN rfl
   have:ns=[]:=by
    rw [h0] at mQ; simp at mQ; exact mQ
   subst this
   rfl
  | some a0 =>
   rw [List.length_map]
   refine run_bytesToString c.w a0 ns.length cap ns ?_
   have:=run_loadCells_list (P:=P) (w:=c.w) a0 (ns.map (Value.int .u8)) (fun j v hj=>by
    rcases NH with h | ⟨b0,off,vs,h1,_,_,h2,_,h3⟩
    ·have:ns=[]:=by simpa using h
     subst this; simp at hj
    ·cases h1
     have Ej:=qN h2
     subst Ej
     rw [sJ] at h3
     have:=h3 j v hj
     simpa [Addr.add_mid] using this)
   simpa using this
 rw [List.length_map] at hval du
 simp [execOp,hval,run_convert_bytes_string c.w t t' e ad _ cap FD Ws Wr,du]
end
end Go.L
namespace Go.L
theorem F4 {c:Cx} {e k i o id2 n2 g len:Nat} {os:List (Nat × Nat × Nat)} {xs:List LV} {u v:Value} {bs:List Nat} (h:bw c (some (.nest e k os xs)) (some (.arr u k len bs))) (hg:u.ownBlock=some g) (hc:c.w.cell? ⟨g,i * k+o,Option.none⟩=some v) (hv:av c (.arr id2 n2) v):bw c (some (.c6 e k os xs i o id2 n2)) (some (.arr u k len bs)):=by
 simp only [bw] at h ⊢
 obtain ⟨u',vs,BP,h1,h2,h3,h4,h5⟩:=h
 cases h1
 exact ⟨u,vs,bs,rfl,h2,h3,h4,⟨g,v,hg,hc,hv⟩,h5⟩
theorem F5 {c:Cx} {e k i o id2 n2:Nat} {os:List (Nat × Nat × Nat)} {xs:List LV} {y:Option BE} (h:bw c (some (.c6 e k os xs i o id2 n2)) y):bw c (some (.nest e k os xs)) y∧∃ u bs g v,y=some (.arr u k xs.length bs)∧u.ownBlock=some g∧c.w.cell? ⟨g,i * k+o,Option.none⟩=some v∧av c (.arr id2 n2) v:=by
 simp only [bw] at h ⊢
 obtain ⟨u,vs,bs,h1,h2,h3,h4,⟨g,v,q1,q2,q3⟩,h5⟩:=h
 exact ⟨⟨u,vs,bs,h1,h2,h3,h4,h5⟩,u,bs,g,v,h1,q1,q2,q3⟩
section
variable {P:Program} {N:Nat} {pr:Nat→Prop} {ev:Operand→LV} {m:Mem} {d:Option Nat} {x y:Operand} {t ty:TypeId} {pos:String} {af:Array Edge} {gd:Option (Nat × Bool)} {e0 k id n i o0 id2 e' k':Nat} {os:List (Nat × Nat × Nat)} {xs cs ys:List LV}
theorem Gg (hx:ev x=.bE id n i o0) (hm:m id=some (.nest e0 k os xs)) (hn:n=xs.length) (hz:xs[i]?=some (.agg cs)) (hc:cs[o0]?=some (.al k' ys)) (hl:os.lookup o0=some (e',k')) (bB:m id2=.none) (ht:tok P t=true) (ha:tagg P t=false) :
  bn P pr ⟨d,.load t x,ty,pos,af,gd⟩ ev m (.arr id2 ys.length) ((m.put id (.c6 e0 k os (xs.set i (.agg (cs.set o0 .eD))) i o0 id2 ys.length)).put id2 (.arr e' k' ys)):=by
 have eA:id ≠ id2:=fun h=>by rw [h,bB] at hm; cases hm
 refine bn.value fun c a bA hM=>?_
 have hv:=bA x (by simp [Op.operands])
 rw [hx] at hv
 have gS:=hM.gE id
 rw [hm] at gS
 obtain ⟨g,cap,cur,v,bp,bs,bq,hB,hg,hcs,kq,hk,AU,jY,sR,qc,hnd,qd,mR⟩:=nb gS hz
 have he:=iv hv hB hn
 obtain ⟨dj,ws,h1,rfl,hC⟩:=qc
 cases h1
 have sS:(cur.toList.drop (i * k)).take k=ws:=by simpa [Value.cells] using sR
 obtain ⟨w,cp,cb,cq,g1,rfl,g3,g4⟩:=hC.at hc
 have hcell:=nK hg sS g1
 rw [Nat.zero_add] at g3 g4
 unfold fk at g3
 rw [hl] at g3
 obtain ⟨us,Eg,bj,wu,Lx,Fq,rfl⟩:∃ us,0<k'∧c.w.ownsRow 0 e' k' w ys.length (flat us)∧aC c ys us∧(∀ u ∈ us,u.cells.size=k'∧∀ y ∈ u.cells,y.oneCell'=true)∧LV.bo ys=true∧cb=w.ownBlock.toList:=by
  rcases g3 with ⟨h,_⟩ | ⟨Vn,us,h,q0,q1,q2,q3,q4,q5⟩
  ·cases h
  ·cases h; exact ⟨us,q0,q1,q2,q3,q4,q5⟩
 have du:(Instr.loadAt t (a.eval x)).run P c.w=.ok w c.w:=by
  rw [he]
  exact (gm (cs:=[.eD]) (vs:=[w]) (c:=c) ht (by simp [aC,av]) (fun j v hj=>by
   cases j with
   | zero=>simp at hj; subst hj; simpa using hcell
   | succ j=>simp at hj)).2 ha w [] rfl
 have wc:=hM.fresh bB
 have oU:∀ b,b ∈ bp++((cp++([]++cq))++bq)→b ∈ bp++((cp++(w.ownBlock.toList++cq))++bq):=fun b hb=>by
  simp only [List.mem_append,List.nil_append] at hb ⊢
  rcases hb with h | (h | h) | h <;> simp [h]
 have mV:(bp++((cp++([]++cq))++bq)).Nodup:=by
  refine List.Nodup.sublist ?_ hnd
  refine List.Sublist.append (List.Sublist.refl _) (List.Sublist.append (List.Sublist.append (List.Sublist.refl _) ?_) (List.Sublist.refl _))
  exact List.Sublist.append (List.nil_sublist _) (List.Sublist.refl _)
 have pQ:ws.set o0 w=ws:=by
  obtain ⟨ec,hw⟩:=List.getElem?_eq_some_iff.1 g1
  rw [← hw]; exact List.set_getElem_self ec
 obtain ⟨c',hw,R2,Np,h2,h3⟩:=hM.IS (pr:=pr) id id2 eA (.c6 e0 k os (xs.set i (.agg (cs.set o0 .eD))) i o0 id2 ys.length) (.arr e' k' ys) (.arr (.slice (some ⟨g,0,.none⟩) xs.length cap) k xs.length (bp++((cp++([]++cq))++bq))) (.arr w k' ys.length []) c.w rfl rfl rfl (Nat.le_refl _) (Nat.le_refl _)
  (fun b _ _ _=>rfl)
  (fun b hb=>by
   rcases hb with hb | hb
   ·rcases hb with hb | hb
    ·exact .inl ⟨_,hB,.inl hb⟩
    ·exact .inl ⟨_,hB,.inr (oU b hb)⟩
   ·rcases hb with hb | hb
    ·exact .inl ⟨_,hB,.inr (by simp [hb])⟩
    ·cases hb)
  (fun b hb cE=>by
   have E0:w.ownBlock=some b:=by
    rcases cE with h | h
    ·exact h
    ·cases h
   rcases hb with hb | hb
   ·have:g=b:=by simpa [Value.ownBlock] using hb
    subst this
    exact qd (by simp [E0])
   ·have n1:=List.nodup_append.1 hnd
    have n2:=List.nodup_append.1 n1.2.1
    have n3:=List.nodup_append.1 n2.1
    have n4:=List.nodup_append.1 n3.2.1
    have Ee:b ∈ w.ownBlock.toList:=by simp [E0]
    simp only [List.mem_append,List.nil_append] at hb
    rcases hb with h | (h | h) | h
    ·exact n1.2.2 b h b (by simp [E0]) rfl
    ·exact n3.2.2 b h b (by simp [E0]) rfl
    ·exact n4.2.2 b Ee b h rfl
    ·exact n2.2.2 b (by simp [E0]) b h rfl)
  (by rw [hB]; exact ⟨_,_,_,rfl,Nat.le_refl _,fun _=>rfl⟩) (by rw [wc]; trivial) (fun _ dr h0=>by rw [hB] at h0; cases h0; exact ⟨_,_,_,rfl,Nat.le_refl _,fun _=>rfl⟩) (fun _ dr h0=>by rw [wc] at h0; cases h0)
  (fun c' hw hle dz cE=>by
   refine F4 (g:=g) (v:=w) ?_ rfl (by rw [hw]; exact hcell) (by
    simp only [av]
    refine ⟨?_,_,_,_,_,cE,Nat.le_refl _,fun _=>rfl⟩
    obtain ⟨ad,Nl,FL⟩:=dC bj
    rw [FL]; rfl)
   refine mR c' _ (.agg ws.toArray) _ hle ?_ (fun q _=>by rw [hw]) AU jY ⟨_,ws,rfl,rfl,?_⟩ mV (fun h=>qd (by
    simp only [List.mem_append,List.nil_append] at h ⊢
    rcases h with h | h <;> simp [h]))
   ·rw [hw,hg]
    congr 2
    apply Array.toList_inj.1
    simp only [List.toList_toArray]
    rw [← sR,← List.drop_drop,List.append_assoc,List.take_append_drop,List.take_append_drop]
   ·have:=g4 (c':=c') (x':=.eD) (w':=w) (b':=[]) hle (fun r _=>by rw [hw]) (by unfold fk; rw [hl]; exact .inl ⟨rfl,rfl⟩)
    rw [pQ] at this
    exact this)
  (fun c' hw hle dz=>by
   simp only [bw]
   exact ⟨w,us,rfl,Eg,by rw [hw]; exact bj,aC.mono hle ys us (fun j hj=>by rw [az ys Fq] at hj; cases hj) wu,Lx,Fq⟩)
 refine ⟨w,c',by rw [hw]; simp [execOp,du],?_,h2,h3⟩
 simp only [av]
 refine ⟨?_,_,_,_,_,Np,Nat.le_refl _,fun _=>rfl⟩
 obtain ⟨ad,Nl,FL⟩:=dC bj
 rw [FL]; rfl
theorem b3.unlink {c:Cx} (hM:b3 c m) {n2:Nat} (hm:m id=some (.c6 e0 k os xs i o0 id2 n2)) (hz:xs[i]?=some (.agg cs)) (hc:cs[o0]?=some .eD) (hl:os.lookup o0=some (e',k')) (jq:m id2=some (.arr e' k' ys)) (H0:n2=ys.length) (ta:¬ pr id2) :
  ∃ c':Cx,c'.w=c.w∧b3 c' ((m.put id (.nest e0 k os (xs.set i (.agg (cs.set o0 (.al k' ys)))))).put id2 .dead)∧Step pr c c':=by
 have eA:id ≠ id2:=fun h=>by rw [h,jq] at hm; cases hm
 have Ja:=hM.gE id
 rw [hm] at Ja
 obtain ⟨gS,uL,W4,gL,y0,U0,VT,UB,lU⟩:=F5 Ja
 obtain ⟨us,wc,Eg,bj,wu,Lx,Fq⟩:=gv hM lU jq H0
 obtain ⟨g,cap,cur,v,bp,bs,bq,hB,hg,hcs,kq,hk,AU,jY,sR,qc,hnd,qd,mR⟩:=nb gS hz
 obtain ⟨dj,ws,h1,rfl,hC⟩:=qc
 cases h1
 have zZ:ws.length=k:=by simpa [Value.cells] using AU
 have sS:(cur.toList.drop (i * k)).take k=ws:=by simpa [Value.cells] using sR
 obtain ⟨w0,cp,cb,cq,g1,rfl,g3,g4⟩:=hC.at hc
 rw [Nat.zero_add] at g3 g4
 have NI:cb=[]:=by
  unfold fk at g3
  rw [hl] at g3
  rcases g3 with ⟨_,h⟩ | ⟨_,_,h,_⟩
  ·exact h
  ·cases h
 subst NI
 have Wv:w0=y0:=by
  have hcell:=nK hg sS g1
  rw [hB] at U0
  cases U0
  have:g=gL:=by simpa [Value.ownBlock] using VT
  subst this
  rw [hcell] at UB
  exact Option.some.inj UB
 subst Wv
 have gD:o0<k:=by rw [← zZ]; exact (List.getElem?_eq_some_iff.1 g1).1
 have hi:i<xs.length:=(List.getElem?_eq_some_iff.1 hz).1
 have HZ:i * k+k≤cur.size:=by
  have h1:=Nat.mul_le_mul_right k (show i+1≤cap by omega)
  rw [Nat.add_mul,Nat.one_mul] at h1; omega
 have rS:(w0).oneCell'=true:=by
  obtain ⟨ad,Nl,FL⟩:=dC bj
  rw [FL]; rfl
 have pQ:ws.set o0 w0=ws:=by
  obtain ⟨ec,hw⟩:=List.getElem?_eq_some_iff.1 g1
  rw [← hw]; exact List.set_getElem_self ec
 -- the block of the slice is not one of the QO
 have oR:∀ b,(w0).ownBlock=some b→b ≠ g∧b ∉ bp++((cp++([]++cq))++bq):=fun b hb=>by
  constructor
  ·intro Ax
   exact eA (hM.inj id id2 _ _ b hB wc (.inl (by rw [Ax]; rfl)) (.inl hb))
  ·intro Ee
   exact eA (hM.inj id id2 _ _ b hB wc (.inr Ee) (.inl hb))
 have mV:(bp++((cp++((w0).ownBlock.toList++cq))++bq)).Nodup:=by
  cases hb:(w0).ownBlock with
  | none=>simpa [hb] using hnd
  | some b =>
   have hf:=(oR b hb).2
   have hp:(bp++((cp++((some b).toList++cq))++bq)).Perm (b :: (bp++((cp++([]++cq))++bq))):=by
    simp only [Option.toList_some,List.singleton_append,List.nil_append]
    refine (List.Perm.append_left bp ?_).trans (List.perm_middle)
    rw [List.append_assoc,List.append_assoc,List.cons_append]
    exact List.perm_middle
   exact hp.nodup_iff.2 (List.nodup_cons.2 ⟨hf,hnd⟩)
 obtain ⟨c',hw,R2,Np,h2,h3⟩:=hM.IS (pr:=pr) id id2 eA (.nest e0 k os (xs.set i (.agg (cs.set o0 (.al k' ys))))) .dead (.arr (.slice (some ⟨g,0,.none⟩) xs.length cap) k xs.length (bp++((cp++((w0).ownBlock.toList++cq))++bq))) (.arr (.slice .none 0 0) k' (ys.length+1) []) c.w rfl rfl rfl (Nat.le_refl _) (Nat.le_refl _)
  (fun b _ _ _=>rfl)
  (fun b hb=>by
   rcases hb with hb | hb
   ·rcases hb with hb | hb
    ·exact .inl ⟨_,hB,.inl hb⟩
    ·simp only [List.mem_append,Option.mem_toList] at hb
     rcases hb with h | (h | h | h) | h
     ·exact .inl ⟨_,hB,.inr (by simp [h])⟩
     ·exact .inl ⟨_,hB,.inr (by simp [h])⟩
     ·exact .inr (.inl ⟨_,wc,.inl h⟩)
     ·exact .inl ⟨_,hB,.inr (by simp [h])⟩
     ·exact .inl ⟨_,hB,.inr (by simp [h])⟩
   ·rcases hb with hb | hb
    ·simp [Value.ownBlock] at hb
    ·cases hb)
  (fun b _ cE=>by
   rcases cE with hb | hb
   ·simp [Value.ownBlock] at hb
   ·cases hb)
  (by rw [hB]; exact ⟨_,_,_,rfl,Nat.le_refl _,fun _=>rfl⟩) (by rw [wc]; exact ⟨_,_,_,rfl,by omega,fun h=>by omega⟩) (fun _ dr h0=>by rw [hB] at h0; cases h0; exact ⟨_,_,_,rfl,Nat.le_refl _,fun _=>rfl⟩) (fun h=>absurd h ta)
  (fun c' hw hle dz _=>by
   have uB:∀ b,b ≠ g→c'.w.heap[b]?=c.w.heap[b]?:=fun b _=>by rw [hw]
   refine mR c' _ (.agg (ws.set o0 (w0)).toArray) _ hle (by
    rw [hw,hg,pQ]
    congr 2
    apply Array.toList_inj.1
    simp only [List.toList_toArray]
    rw [← sR,← List.drop_drop,List.append_assoc,List.take_append_drop,List.take_append_drop]) (fun q hq=>uB q (fun Li=>qd (by rw [← Li]; simp at hq ⊢; rcases hq with h | h <;> simp [h]))) (by simp [Value.cells,zZ]) (fun q hq=>by
    simp only [Value.cells] at hq jY
    have pk:q ∈ ws.set o0 (w0):=by simpa using hq
    rcases List.mem_or_eq_of_mem_set pk with h | h
    ·exact jY q (by simpa using h)
    ·rw [h]; exact rS) ⟨_,_,rfl,rfl,?_⟩ mV (fun h=>?_)
   ·refine g4 (c':=c') (x':=.al k' ys) (w':=w0) (b':=(w0).ownBlock.toList) hle (fun r hr=>uB r (fun Oe=>qd (by rw [← Oe]; simp at hr ⊢; rcases hr with h | h <;> simp [h]))) ?_
    unfold fk
    rw [hl]
    exact .inr ⟨ys,us,rfl,Eg,dR bj (fun b hb=>uB b (oR b hb).1),aC.mono hle ys us (fun j hj=>by rw [az ys Fq] at hj; cases hj) wu,Lx,Fq,rfl⟩
   ·simp only [List.mem_append,Option.mem_toList] at h
    rcases h with h | h | h
    ·exact qd (by simp [h])
    ·exact (oR g h).1 rfl
    ·exact qd (by simp [h]))
  (fun c' hw hle dz=>by simp only [bw]; exact ⟨_,_,_,rfl,rfl⟩)
 exact ⟨c',hw,h2,h3⟩
theorem Wk.unlink {e:Env} {n2:Nat} (hm:m id=some (.c6 e0 k os xs i o0 id2 n2)) (hz:xs[i]?=some (.agg cs)) (hc:cs[o0]?=some .eD) (hl:os.lookup o0=some (e',k')) (jq:m id2=some (.arr e' k' ys)) (H0:n2=ys.length) (ta:¬ pr id2) :
  Wk pr e m e ((m.put id (.nest e0 k os (xs.set i (.agg (cs.set o0 (.al k' ys)))))).put id2 .dead):=by
 intro N c a bY
 obtain ⟨c',hw,h2,h3⟩:=bY.mem.unlink (pr:=pr) hm hz hc hl jq H0 ta
 exact ⟨c',hw,⟨fun i=>h3.wS (bY.env i),h2,bY.size,bY.defers⟩,h3.grow⟩
end
end Go.L
namespace Go.L
theorem aO.PJ {P:Program} {f:Nat} {args gB:List LV} {ml cQ:List (Nat × LE)} {r:LV} (id e k:Nat) (os:List (Nat × Nat × Nat)) {xs:List LV} (hp:LV.bo xs=true) (h:aO P f gB (Mem.of ml) r (Mem.of cQ)) (ha:pt id k xs args gB)
  (h1:Mem.of ml id=.none) (h2:Mem.of cQ id=.none) (kp:sL id ml=true) (hr:r.kN=true) (Tc:r.a8 id=true) (xj:Ak id cQ) (wq:Mem.of ml dv=.none:=by exact rfl) :
  aO P f args (Mem.of ((id,.nest e k os xs) :: ml)) r (Mem.of ((id,.nest e k os xs) :: cQ)):=by
 intro c vs hm hargs
 have bB:Mem.of ((id,LE.nest e k os xs) :: ml) id=some (.nest e k os xs):=by simp [Mem.of]
 have gS:=hm.gE id
 rw [bB] at gS
 simp only [bw] at gS
 obtain ⟨u,us,bs,hB,hk,bj,hn,hc,hnd,SH⟩:=gS
 have pH:∀ i le,i ≠ id→Mem.of ((id,LE.nest e k os xs) :: ml) i=some le→le.k6 id=true:=fun i cs hi xV=>by
  simp only [Mem.of,hi,if_false] at xV
  exact mP kp i cs hi xV
 obtain ⟨c1,hw,hO,iH,hV,hU,hX,HQ⟩:=hm.del id pH
 have KW:(Mem.of ((id,LE.nest e k os xs) :: ml)).del id=Mem.of ml:=by
  funext i
  unfold Mem.del
  by_cases hi:i=id
  ·subst hi; simp [h1]
  ·simp [hi,Mem.of]
 rw [KW] at iH
 have Ff:c.Le c1:=Cx.sub_le hw hO hU
 have hR:∀ v,av c (.arr id xs.length) v→av c1 (.al k xs) v:=by
  intro v hv
  have Rx:v=u:=by
   simp only [av] at hv
   obtain ⟨_,u',k',lG,lE,iF,_,hv⟩:=hv
   rw [hB] at iF; cases iF
   exact hv rfl
  subst Rx
  simp only [av]
  have K2:aC c1 xs us:=hn.Av Ff hw (fun b hb=>hX b _ hB (.inr hb))
  rcases bj.2 with ⟨rfl,h0⟩ | ⟨g,cap,cur,rfl,_,hg,kq,_⟩
  ·exact ⟨.none,0,by rw [h0],by omega,fun _=>rfl,hp,.inl (List.eq_nil_of_length_eq_zero h0)⟩
  ·refine ⟨some ⟨g,0,.none⟩,cap,rfl,kq,by simp,hp,.inr ⟨g,0,us,rfl,by rw [hw]; exact (Array.getElem?_eq_some_iff.1 hg).1,hX g _ hB (.inl rfl),K2,hc,?_⟩⟩
   rw [hw]; exact cY bj rfl
 have om:=h c1 vs iH (ha.rep hV hR hargs)
 rw [hw] at om
 refine om.mono ?_
 rintro en w' ⟨v,c2,rfl,rfl,jq,xl,hg⟩
 have wc:c2.B id=.none:=jq.fresh h2
 have Di:¬ (fun i=>Mem.of ml i ≠ .none) dv:=fun h'=>h' wq
 have mn:hD c c2:=fun b n hb=>by
  have:=hg.keeps Di iH b n (by rw [hO.2]; exact hb)
  rw [hw] at this; exact this
 -- the block of the row
 have hblk:∀ b,(u.ownBlock=some b ∨ b ∈ bs)→b<c.w.heap.size∧c2.w.heap[b]?=c.w.heap[b]?∧¬ c2.own b∧¬ c2.O b:=by
  intro b hb
  have ec:=(hm.gE id).lt hB (show (BE.arr u k xs.length bs).has b from hb)
  have N8:¬ c1.X b:=hX b _ hB hb
  have kF:¬ c1.own b:=fun ho=>N8 (.inr ho)
  refine ⟨ec,?_,?_,?_⟩
  ·have:=hg.jI b (by rw [hw]; exact ec) kF (.inr Di); rw [hw] at this; exact this
  ·intro ho
   rcases hg.own b ho with h' | h'
   ·exact kF h'
   ·rw [hw] at h'; omega
  ·rw [hg.O]; exact fun ho=>N8 (.inl (.inl ho))
 let c3:Cx:=⟨c2.w,fun i=>if i=id then c.B id else c2.B i,c2.O,c2.Q⟩
 have we:∀ i,i ≠ id→c3.B i=c2.B i:=fun i hi=>by simp [c3,hi]
 have sO:c3.B id=c.B id:=by simp [c3]
 have pO:∀ b,c3.own b→c2.own b ∨ (u.ownBlock=some b ∨ b ∈ bs):=by
  rintro b ⟨i,be,g1,g2⟩
  by_cases hi:i=id
  ·subst hi; rw [sO,hB] at g1; cases g1; exact .inr g2
  ·rw [we i hi] at g1; exact .inl ⟨i,be,g1,g2⟩
 have NA:c3.O=c.O:=by show c2.O=c.O; rw [hg.O,hO.1]
 have Fg:c.Le c3:=by
  refine ⟨by have:=hg.size; rw [hw] at this; exact this,fun b hb hx=>⟨?_,?_⟩,mn⟩
  ·have:=hg.jI b (by rw [hw]; exact hb) (fun ho=>hx (.inr (hU b ho))) (.inr Di); rw [hw] at this; exact this
  ·rintro ((ho | ho) | ho)
   ·rw [NA] at ho; exact hx (.inl (.inl ho))
   ·rcases hg.qn b ho with h' | h' | h'
    ·rw [hO.2] at h'; exact hx (.inl (.inr h'))
    ·exact hx (.inr (hU b h'))
    ·rw [hw] at h'; omega
   ·rcases pO b ho with h' | h'
    ·rcases hg.own b h' with xK | xK
     ·exact hx (.inr (hU b xK))
     ·rw [hw] at xK; omega
    ·exact hx (.inr ⟨id,_,hB,h'⟩)
 have SK:∀ b,c3.Q b ≠ .none→¬ c3.O b∧¬ c3.own b∧b<c3.w.heap.size:=fun b hb=>by
  refine ⟨(jq.cS b hb).1,fun ho=>?_,(jq.cS b hb).2.2⟩
  rcases pO b ho with h' | h'
  ·exact (jq.cS b hb).2.1 h'
  ·rcases hg.qn b hb with q | q | q
   ·rw [hO.2] at q; exact (hm.cS b q).2.1 ⟨id,_,hB,h'⟩
   ·exact hX b _ hB h' (.inr q)
   ·have:=(hblk b h').1; rw [hw] at q; omega
 refine ⟨v,c3,rfl,rfl,⟨fun i=>?_,?_,?_,?_,SK⟩,?_,?_⟩
 ·by_cases hi:i=id
  ·subst hi
   rw [sO,hB]
   simp only [Mem.of,if_true,bw]
   exact ⟨u,us,bs,rfl,hk,dR bj (fun b hb=>(hblk b (.inl hb)).2.1),hn.mono Fg (fun b hb=>(hblk b (.inr hb)).2.1),hc,hnd,SH⟩
  ·rw [we i hi]
   simp only [Mem.of,hi,if_false]
   have he:=jq.gE i
   cases xV:Mem.of cQ i with
   | none=>rw [xV] at he; simpa only [bw] using he
   | some le=>rw [xV] at he; exact bw.jt (c:=c2) (c':=c3) rfl we (xj i le xV) he
 ·intro i j be eF b g1 g2 g3 g4
  by_cases hi:i=id
  ·by_cases hj:j=id
   ·rw [hi,hj]
   ·subst hi
    rw [sO,hB] at g1; cases g1
    rw [we j hj] at g2
    exact absurd ⟨j,eF,g2,g4⟩ (hblk b g3).2.2.1
  ·by_cases hj:j=id
   ·subst hj
    rw [sO,hB] at g2; cases g2
    rw [we i hi] at g1
    exact absurd ⟨i,be,g1,g3⟩ (hblk b g4).2.2.1
   ·rw [we i hi] at g1; rw [we j hj] at g2
    exact jq.inj i j be eF b g1 g2 g3 g4
 ·intro b ho
  rcases pO b ho with h' | h'
  ·exact jq.jZ b h'
  ·exact (hblk b h').2.2.2
 ·intro b ho; exact jq.pw b ho
 ·exact av.jt r v hr (fun i hi=>we i (fun he=>by subst he; rw [Tc] at hi; cases hi)) xl
 ·refine ⟨NA,?_,?_,?_,?_,?_,?_,fun _ b n hb=>(mn b n hb).2,fun b hb=>?_,?_,?_⟩
  ·have:=hg.os; rw [hw] at this; exact this
  ·have:=hg.tape; rw [hw] at this; exact this
  ·have:=hg.output; rw [hw] at this; exact this
  ·have:=hg.drawn; rw [hw] at this; exact this
  ·have:=hg.size; rw [hw] at this; exact this
  ·intro b hb ho _
   have:=hg.jI b (by rw [hw]; exact hb) (fun rB=>ho (hU b rB)) (.inr Di); rw [hw] at this; exact this
  ·rcases hg.qn b hb with q | q | q
   ·rw [hO.2] at q; exact .inl q
   ·exact .inr (.inl (hU b q))
   ·rw [hw] at q; exact .inr (.inr q)
  ·intro b ho
   rcases pO b ho with h' | h'
   ·rcases hg.own b h' with xK | xK
    ·exact .inl (hU b xK)
    ·rw [hw] at xK; exact .inr xK
   ·exact .inl ⟨id,_,hB,h'⟩
  ·intro i be AO ND
   by_cases hi:i=id
   ·subst hi; exact ⟨be,by rw [sO]; exact ND,.refl be⟩
   ·rw [we i hi]
    have KF:c1.B i=some be:=by rw [HQ i hi]; exact ND
    exact hg.A9 i be (by simpa [Mem.of,hi] using AO) KF
end Go.L
namespace Go.L
theorem Wk.Mo {pr:Nat→Prop} {el:List (Nat × LV)} {ml:List (Nat × LE)} (id e k:Nat) (os:List (Nat × Nat × Nat)) (kK j:Nat) {cs dj:List LV} (bB:Mem.of ml id=.none) (hk:Nat.ble 1 k=true) (hb:Mem.of ml kK=some (.box cs)) (hj:cs[j]?=some .nil) (hcs:cs.set j (.arr id 0)=dj) (mE:¬ pr id) :
  Wk pr (Env.of el) (Mem.of ml) (Env.of el) (((Mem.of ml).put id (.nest e k os [])).put kK (.box dj)):=by
 intro N c a bY
 have eA:kK ≠ id:=fun h=>by rw [h,bB] at hb; cases hb
 have hB:=bY.mem.fresh bB
 obtain ⟨c',hw,gH,h2,h3⟩:=bY.mem.Ac (pr:=pr) id (.nest e k os []) (.arr (.slice .none 0 0) k 0 []) c.w rfl rfl rfl (Nat.le_refl _) (Nat.le_refl _)
  (fun b _ _=>rfl) (fun b hb=>by simp [BE.has,Value.ownBlock] at hb) (by rw [hB]; trivial) (fun h=>absurd h mE)
  (fun c' hw hle dz=>by
   simp only [bw]
   exact ⟨.slice .none 0 0,[],[],rfl,Nat.le_of_ble_eq_true hk,by rw [hw]; exact World.ownsRow_nil c.w 0 e k,by simp [dx],by simp,by simp,by simp [Value.ownBlock]⟩)
 have cE:((Mem.of ml).put id (.nest e k os [])) kK=some (.box cs):=by simp only [Mem.put,eA,if_false]; exact hb
 obtain ⟨b,vs,e1,zU,hh,hl,h1⟩:=jj h2 cE
 have iP:∀ (cs:List LV) (vs:List Value) (j:Nat),aC c' cs vs→cs[j]?=some .nil→aC c' (cs.set j (.arr id 0)) vs:=by
  intro cs
  induction cs with
  | nil=>intro vs j _ h; simp at h
  | cons x xs ih =>
   intro vs j hl hj
   simp only [aC] at hl
   obtain ⟨v,fI,rfl,hv,iN⟩:=hl
   cases j with
   | zero =>
    simp at hj; subst hj
    simp only [av] at hv
    simp only [List.set_cons_zero,aC]
    refine ⟨v,fI,rfl,?_,iN⟩
    simp only [av]
    exact ⟨by rw [hv]; rfl,_,_,_,_,gH,Nat.le_refl _,fun _=>hv⟩
   | succ j =>
    simp only [List.set_cons_succ,aC]
    exact ⟨v,fI,rfl,hv,ih fI j iN (by simpa using hj)⟩
 have jq:=h2.re (dj:=dj) cE zU hh (by rw [← hcs]; exact iP cs vs j hl hj) h1 (by rw [← hcs]; simp)
 exact ⟨c',hw,⟨fun i=>h3.wS (bY.env i),jq,bY.size,bY.defers⟩,h3.grow⟩
theorem dx.split {c:Cx} {os:List (Nat × Nat × Nat)}:∀ {i:Nat} {xs:List LV} {vs:List Value} {bs:List Nat},dx c os xs vs bs→∃ b1 b2,bs=b1++b2∧dx c os (xs.take i) (vs.take i) b1∧dx c os (xs.drop i) (vs.drop i) b2
 | 0,xs,vs,bs,h=>⟨[],bs,rfl,by simp [dx],by simpa using h⟩
 | i+1,[],vs,bs,h=>by
  simp only [dx] at h
  obtain ⟨rfl,rfl⟩:=h
  exact ⟨[],[],rfl,by simp [dx],by simp [dx]⟩
 | i+1,x :: xs,vs,bs,h=>by
  simp only [dx] at h
  obtain ⟨v,fI,b1,b2,rfl,rfl,h1,h2⟩:=h
  obtain ⟨c1,c2,rfl,h3,h4⟩:=dx.split (i:=i) h2
  refine ⟨b1++c1,c2,by simp,?_,by simpa using h4⟩
  simp only [List.take_succ_cons,dx]
  exact ⟨v,_,b1,c1,rfl,rfl,h1,h3⟩
theorem dx.app {c:Cx} {os:List (Nat × Nat × Nat)}:∀ {xs ys:List LV} {vs us:List Value} {b1 b2:List Nat},dx c os xs vs b1→dx c os ys us b2→dx c os (xs++ys) (vs++us) (b1++b2)
 | [],ys,vs,us,b1,b2,h,h'=>by
  simp only [dx] at h
  obtain ⟨rfl,rfl⟩:=h
  simpa using h'
 | x :: xs,ys,vs,us,b1,b2,h,h'=>by
  simp only [dx] at h
  obtain ⟨v,fI,c1,c2,rfl,rfl,h1,h2⟩:=h
  simp only [List.cons_append,dx]
  exact ⟨v,fI++us,c1,c2++b2,rfl,by simp,h1,dx.app h2 h'⟩
section
variable {P:Program} {N:Nat} {pr:Nat→Prop} {ev:Operand→LV} {m m':Mem} {d:Option Nat} {x y z:Operand} {t ty:TypeId} {pos:String} {af:Array Edge} {gd:Option (Nat × Bool)} {lv:LV} {α β:Type} {f:α→LV} {g:β→LV} {e0 k id n:Nat} {os:List (Nat × Nat × Nat)}
theorem Mb {d0 kk:Nat} {el:TypeId} {cs dj:List LV} {S:List Nat} (he:telem P t=some el) (lT:gz P el=true) (hk:tsize P el=kk) (Lv:Nat.ble kk 16777216=true) (hx:ev x=.agg cs) (Jf:cs.length=kk) (uj:cs.all LV.scalar=true) (bB:m id=.none) (mj:lk m os 0 cs dj S) (hS:S.Nodup) (KA:∀ j ∈ S,¬ pr j) :
  bn P pr ⟨some d0,.buildSlice t 1 #[(0,x)],ty,pos,af,gd⟩ ev m (.arr id 1) (m.gone id (.nest el kk os [.agg dj]) S):=by
 subst hk
 have Oh:=Nat.le_of_ble_eq_true Lv
 have hu:=fp he
 obtain ⟨i,zv,hi,AX,uk,B7,eH,C0,qe⟩:=pc lT
 refine bn.value fun c a bA hM=>?_
 have oa:=bA x (by simp [Op.operands])
 rw [hx] at oa
 obtain ⟨Dl,rS⟩:=oa.cellsOf (by simpa [LV.cells] using uj)
 simp only [av] at oa
 obtain ⟨ws,M1,wu⟩:=oa
 have zZ:ws.length=i.size:=by rw [← wu.length,Jf,qe]
 have xo:(a.eval x).cells.size=i.size:=by rw [M1]; simp [Value.cells,zZ]
 have C6:flat [a.eval x]=ws:=by rw [M1]; simp [flat,Value.cells]
 obtain ⟨cells,xP,xR⟩:∃ cells,Instr.fill (fun i'=>some (i' * i.size,i.size)) ((Array.range (1 * i.size)).map (zv.cells[· % zv.cells.size]!)) [(0,a.eval x)]=some cells∧cells.toList=flat [a.eval x]:=by
  obtain ⟨r,hr,UX,Of⟩:=Great.fill_dense eH [a.eval x] 0 ((Array.range (1 * i.size)).map (zv.cells[· % zv.cells.size]!)) (fun v hv=>by simp at hv; rw [hv]; exact xo) (by simp)
  refine ⟨r,by simpa using hr,?_⟩
  apply List.ext_getElem?
  intro j
  rw [flat_get eH (fun v hv=>by simp at hv; rw [hv]; exact xo),Array.getElem?_toList,Of j]
  simp only [Nat.zero_mul,Nat.zero_le,true_and,Nat.zero_add,Nat.sub_zero,List.length_singleton]
  by_cases hj:j<1 * i.size
  ·rw [if_pos hj]
  ·rw [if_neg hj]
   have h1:¬ j / i.size<1:=fun hh=>hj ((Nat.div_lt_iff_lt_mul eH).1 hh)
   rw [List.getElem?_eq_none (by simp; omega:[a.eval x].length≤j / i.size)]
   simp; omega
 have lS:cells=ws.toArray:=by rw [← C6,← xR]
 subst lS
 have du:(execOp a.eval ⟨some d0,.buildSlice t 1 #[(0,x)],ty,pos,af,gd⟩).run P c.w=.ok (.value (.slice (some ⟨c.w.heap.size,0,.none⟩) 1 1)) (c.w.alloc (.cells ws.toArray el)):=by
  have hb:=run_buildSlice (P:=P) c.w t el 1 #[(0,a.eval x)] ws.toArray i zv hu hi AX (by rw [qe] at Oh; omega) (by omega) (by simpa using xP)
  simp [execOp,hb]
 have HY:id ∉ S:=fun h=>by
  obtain ⟨e,k',ys,h'⟩:=mj.ids id h
  rw [bB] at h'; cases h'
 have Sc:∀ j ∈ S,∃ u k len ins,c.B j=some (.arr u k len ins):=fun j hj=>by
  obtain ⟨e,k',ys,h'⟩:=mj.ids j hj
  have:=hM.gE j
  rw [h'] at this
  simp only [bw] at this
  obtain ⟨u,vs,hb,_⟩:=this
  exact ⟨u,k',_,_,hb⟩
 have hold:∀ b ∈ iD c S,b<c.w.heap.size:=fun b hb=>by
  obtain ⟨j,hj,be,q1,q2⟩:=lr hb
  exact (hM.gE j).lt q1 q2
 have hB:=hM.fresh bB
 have bj:(c.w.alloc (.cells ws.toArray el)).ownsRow 0 el i.size (.slice (some ⟨c.w.heap.size,0,.none⟩) 1 1) 1 (flat [a.eval x]):=by
  rw [C6]
  exact ⟨by omega,.inr ⟨c.w.heap.size,1,ws.toArray,rfl,Nat.zero_le _,heap_alloc_new c.w _,Nat.le_refl _,by
   simp only [maxLen]; omega,by simp [zZ],by rw [Nat.one_mul,← zZ]; simp⟩⟩
 obtain ⟨c',hw,hb,h2,h3⟩:=hM.IT (pr:=pr) id S HY Sc KA (.nest el (tsize P el) os [.agg dj]) (.arr (.slice (some ⟨c.w.heap.size,0,.none⟩) 1 1) (tsize P el) 1 (iD c S)) (c.w.alloc (.cells ws.toArray el)) rfl rfl rfl (Nat.le_refl _) (by simp)
  (fun b hb _=>oq c.w _ b hb)
  (fun b hb=>by
   rcases hb with hb | hb
   ·simp [Value.ownBlock] at hb; exact .inr (.inr (by omega))
   ·exact .inr (.inl (lr hb)))
  (by rw [hB]; trivial) (fun _ dr h0=>by rw [hB] at h0; cases h0)
  (fun c' hw hle dz hO s9=>by
   simp only [bw]
   refine ⟨_,[a.eval x],iD c S,rfl,by rw [qe]; exact eH,by rw [hw,qe]; exact bj,?_,fun v hv=>by simp at hv; subst hv; exact ⟨by rw [xo,qe],rS⟩,oF hM hS,fun b hb cE=>?_⟩
   ·simp only [dx]
    exact ⟨_,[],iD c S,[],rfl,by simp,⟨dj,ws,rfl,M1,mj.rep hM hle wu (fun b hb=>by rw [hw]; exact oq c.w _ b (hold b hb))⟩,rfl,rfl⟩
   ·simp [Value.ownBlock] at hb
    have:=hold b cE
    omega)
 refine ⟨_,c',by rw [hw]; exact du,?_,h2,h3⟩
 simp only [av]
 exact ⟨rfl,_,_,_,_,hb,Nat.le_refl _,fun _=>rfl⟩
theorem Ir {ff id2:Nat} {ts:Array TypeId} {xs r:List α} {z0:α} {i:Int}
  (hf : ∃ fn, P.funcs[ff]? = some fn ∧ (fn.name == "runtime.NumGoroutine") = false ∧ fn.body.isNone = false) (W : Nd P ff e0 k) (hx : ev x = .arr id xs.length) (bB : m id = some (.nest e0 k os (xs.map f))) (hy : ev y = .int .i64 i) (hz : ev z = .arr id2 1) (SB : m id2 = some (.nest e0 k os ([z0].map f))) (eA : id2 ≠ id) (mE : ¬ pr id2) (hi : Ie xs i z0 = some r) :
  bn P pr ⟨d,.call ⟨.value (.func ff),#[x,y,z],ts⟩,ty,pos,af,gd⟩ ev m (.arr id r.length) (m.gone id (.nest e0 k os (r.map f)) [id2]):=by
 unfold Ie at hi
 split at hi
 ·rename_i hb
  obtain rfl:=Option.some.inj hi
  intro c a Q bA hM
  have h1:=bA x (by simp [Op.operands,Call.operands])
  have h2:=bA y (by simp [Op.operands,Call.operands])
  have h3:=bA z (by simp [Op.operands,Call.operands])
  rw [hx] at h1; rw [hy] at h2; rw [hz] at h3
  have gS:=hM.gE id
  rw [bB] at gS
  simp only [bw] at gS
  obtain ⟨u,vs,bs,hB,hk,bj,hn,hc,hnd,kF⟩:=gS
  have xO:=hM.gE id2
  rw [SB] at xO
  simp only [bw] at xO
  obtain ⟨u2,zs,bz,MP,_,Oa,Wc,UE,SJ,V9⟩:=xO
  simp only [av] at h1 h2 h3
  obtain ⟨_,u',k',lG,lE,iF,xU,jY⟩:=h1
  rw [hB] at iF; cases iF
  have jY:=jY (by simp)
  obtain ⟨_,u',k',lG,lE,iF,UP,Ou⟩:=h3
  rw [MP] at iF; cases iF
  have Ou:=Ou (by simp)
  unfold Oper.wp
  rw [Kv hf a c.w]
  simp only [Oper.upon]
  have gx:a.eval y=.int .i64 ((i.toNat:Nat):Int):=by rw [h2,Int.toNat_of_nonneg hb.1]
  have e1:(#[x,y,z]:Array Operand).map a.eval=#[u,.int .i64 ((i.toNat:Nat):Int),u2]:=by simp [gx,jY,Ou]
  rw [e1]
  have OM:∀ b,b ∈ bz ∨ u2.ownBlock=some b→b ∉ bs∧u.ownBlock ≠ some b:=fun b hb=>⟨fun h=>eA (hM.inj id2 id _ _ b MP hB (hb.elim .inr .inl) (.inr h)),fun h=>eA (hM.inj id2 id _ _ b MP hB (hb.elim .inr .inl) (.inl h))⟩
  have nG:vs.length=xs.length:=by have:=hn.length; simpa using this.symm
  have:=W u xs.length i.toNat (flat vs) u2 (flat zs) c.w (by simpa using bj) (sK fun v hv=>(hc v hv).2) (by omega) hb.2.2 (by simpa using Oa) (sK fun v hv=>(UE v hv).2) (fun b KF=>(OM b (.inr KF)).2)
  refine this.mono ?_
  rintro en w' ⟨u',rfl,hr⟩
  have e2:((xs.take i.toNat++[z0]++xs.drop i.toNat).map f).length=xs.length+1:=by simp; omega
  have e3:(xs.take i.toNat++[z0]++xs.drop i.toNat).length=xs.length+1:=by simp; omega
  obtain ⟨b1,b2,rfl,n1,n2⟩:=hn.split (i:=i.toNat)
  have N5:∀ b,b ∈ b1++b2 ∨ b ∈ bz→b<c.w.heap.size:=fun b hb=>hb.elim (fun h=>(hM.gE id).lt hB (.inr h)) (fun h=>(hM.gE id2).lt MP (.inr h))
  have pQ:∀ b,b ∈ b1++b2 ∨ b ∈ bz→w'.heap[b]?=c.w.heap[b]?:=fun b hb=>hr.grown.block b (N5 b hb) (fun h=>by
   rcases hb with hb | hb
   ·exact kF b h.symm hb
   ·exact (OM b (.inl hb)).2 h.symm)
  obtain ⟨c',hw,eb,jq,kG⟩:=hM.IT (pr:=pr) id [id2] (by simp; exact fun h=>eA h.symm) (fun j hj=>by simp at hj; subst hj; exact ⟨_,_,_,_,MP⟩) (fun j hj=>by simp at hj; subst hj; exact mE) (.nest e0 k os ((xs.take i.toNat++[z0]++xs.drop i.toNat).map f)) (.arr u' k (xs.length+1) (b1++bz++b2)) w' hr.grown.os hr.grown.tape hr.grown.output hr.drawn hr.grown.size
   (fun b hb eA=>hr.grown.block b hb (fun hh=>eA _ hB (.inl hh.symm)))
   (fun b hb=>by
    rcases hb with hb | hb
    ·exact (hr.nA b hb).imp (fun h=>⟨_,hB,.inl h⟩) (fun h=>.inr h)
    ·simp only [List.mem_append] at hb
     rcases hb with (h | h) | h
     ·exact .inl ⟨_,hB,.inr (by simp [h])⟩
     ·exact .inr (.inl ⟨id2,by simp,_,MP,.inr h⟩)
     ·exact .inl ⟨_,hB,.inr (by simp [h])⟩)
   (by rw [hB]; exact ⟨_,_,_,rfl,by simp,fun h=>by simp at h⟩)
   (fun _ dr h0=>by rw [hB] at h0; cases h0; exact ⟨_,_,_,rfl,by simp,fun h=>by simp at h⟩)
   (fun c' hw hle dz hO s9=>by
    simp only [bw]
    refine ⟨u',vs.take i.toNat++zs++vs.drop i.toNat,b1++bz++b2,by rw [e2],hk,?_,?_,?_,?_,?_⟩
    ·have h4:=hr.own
     rw [uZ (fun v hv=>(hc v hv).1),uY (fun v hv=>(hc v hv).1),← eI,← eI] at h4
     rw [e2,hw]; exact h4
    ·rw [List.map_append,List.map_append,List.map_take,List.map_drop]
     exact ((n1.mono hle (fun b hb=>by rw [hw]; exact pQ b (.inl (by simp [hb])))).app (Wc.mono hle (fun b hb=>by rw [hw]; exact pQ b (.inr hb)))).app (n2.mono hle (fun b hb=>by rw [hw]; exact pQ b (.inl (by simp [hb]))))
    ·intro v hv
     rcases List.mem_append.1 hv with hv | hv
     ·rcases List.mem_append.1 hv with hv | hv
      ·exact hc v (List.mem_of_mem_take hv)
      ·exact UE v hv
     ·exact hc v (List.mem_of_mem_drop hv)
    ·have q:=List.nodup_append.1 hnd
     rw [List.append_assoc,List.nodup_append]
     refine ⟨q.1,?_,?_⟩
     ·rw [List.nodup_append]
      exact ⟨SJ,q.2.1,fun p hp p' AM Rv=>(OM p (.inl hp)).1 (by rw [Rv]; simp [AM])⟩
     ·intro p hp p' AM Rv
      rcases List.mem_append.1 AM with h | h
      ·exact (OM p' (.inl h)).1 (by rw [← Rv]; simp [hp])
      ·exact q.2.2 p hp p' h Rv
    ·intro b hb qU
     have HU:b ∈ b1++b2 ∨ b ∈ bz:=by
      simp only [List.mem_append] at qU ⊢
      rcases qU with (h | h) | h
      ·exact .inl (.inl h)
      ·exact .inr h
      ·exact .inl (.inr h)
     rcases hr.nA b hb with h | h
     ·rcases HU with q | q
      ·exact kF b h q
      ·exact (OM b (.inl q)).2 h
     ·have:=N5 b HU
      omega)
  refine ⟨u',c',rfl,hw,?_,jq,kG⟩
  rw [e3]
  simp only [av]
  refine ⟨?_,_,_,_,_,eb,Nat.le_refl _,fun _=>rfl⟩
  rcases hr.own.2 with ⟨rfl,_⟩ | ⟨g,cap,cur,rfl,_⟩ <;> rfl
 ·cases hi
theorem rp.fresh {o:Oper} {ids:List Nat} {i:Nat} {le:LE} (E8:ids=[i]) (hm:m i=.none) (h:∀ m0:Mem,m0 i=.none→bn P pr o ev m0 lv (m0.put i le)):rp P pr o ev ids m lv (m.put i le):=by
 subst E8
 refine ⟨fun j hj=>by simp at hj; simp [Mem.put,hj],fun m0 pM=>?_⟩
 have:=h m0 (by rw [pM i (by simp)]; exact hm)
 refine Eq.mp (congrArg _ ?_) this
 funext j
 by_cases hj:j=i <;> simp [Mem.put,hj]
theorem rp.gone {o:Oper} {ids:List Nat} {i:Nat} {le:LE} {S:List Nat} (Jc:ids=i :: S) (h:∀ m0:Mem,(∀ j,j ∈ i :: S→m0 j=m j)→bn P pr o ev m0 lv (m0.gone i le S)):rp P pr o ev ids m lv (m.gone i le S):=by
 have E8:∀ j,j ∈ ids ↔ (j=i ∨ j ∈ S):=fun j=>by rw [Jc]; simp
 refine ⟨fun j hj=>?_,fun m0 pM=>?_⟩
 ·rw [E8] at hj
  simp only [not_or] at hj
  simp [Mem.gone,hj.1,hj.2]
 ·refine Eq.mp (congrArg _ ?_) (h m0 (fun j hj=>pM j (by rw [Jc]; exact hj)))
  funext j
  by_cases hj:j ∈ ids
  ·simp only [hj,if_true]
   rw [E8] at hj
   simp only [Mem.gone]
   rcases hj with hj | hj
   ·simp [hj]
   ·by_cases h1:j=i <;> simp [h1,hj]
  ·simp only [hj,if_false]
   rw [E8] at hj
   simp only [not_or] at hj
   simp [Mem.gone,hj.1,hj.2]
end
end Go.L
namespace Go.L
def rG (id n:Nat):Option Int→LV
 | .none=>.fj
 | some j=>.bE id n j.toNat 0
def pY {β:Type} (r:Option Int) (a:Option β) (b:Int→Option β):Option β:=match r with | .none=>a | some j=>b j
theorem Gi {β:Type} {a:Option β} {b:Int→Option β} {r:β} (h:pY .none a b=some r):a=some r:=h
theorem Gj {β:Type} {j:Int} {a:Option β} {b:Int→Option β} {r:β} (h:pY (some j) a b=some r):b j=some r:=h
def fS (P:Program) (t:TypeId):Bool:=match P.underlying t with | some (.pointer _)=>true | _=>false
section
variable {P:Program} {N:Nat} {pr:Nat→Prop} {ev:Operand→LV} {m m':Mem} {d:Option Nat} {x y z:Operand} {t t' ty:TypeId} {pos:String} {af:Array Edge} {gd:Option (Nat × Bool)} {lv:LV} {α β:Type} {f:α→LV} {g:β→LV} {e0 k id n i o0:Nat} {os:List (Nat × Nat × Nat)} {xs cs:List LV}
theorem mv (w:World) (dd:Nat) (h:fS P t=true) (p:Option Addr):(Op.equalIn (dd+1) t (.pointer p) (.pointer .none)).run P w=.ok p.isNone w:=by
 unfold fS at h
 split at h
 ·rename_i e hu
  cases p <;> simp [Op.equalIn,run_underlying hu]
 ·cases h
theorem tA (ht:fS P t=true) (hx:ev x=.fj) (hy:ev y=.fj):bn P pr ⟨d,.binOp .eql t x y t',ty,pos,af,gd⟩ ev m (.bool true) m:=by
 refine bn.value fun c a bA hM=>?_
 have h1:=bA x (by simp [Op.operands])
 have h2:=bA y (by simp [Op.operands])
 rw [hx] at h1; rw [hy] at h2
 simp only [av] at h1 h2
 have heq:=fun w=>mv (P:=P) (t:=t) w 9999 ht .none
 refine ⟨.bool true,c,?_,by simp [av],hM,Step.refl pr c⟩
 simp [execOp,h1,h2,eqGuard,binOp,Op.equal,Op.maxDepth,heq]
theorem tz {zz:LV} (ht:fS P t=true) (hx:ev x=.bE id n i o0) (hy:ev y=.fj) (hm:m id=some (.nest e0 k os xs)) (hn:n=xs.length) (hz:xs[i]?=some zz):bn P pr ⟨d,.binOp .eql t x y t',ty,pos,af,gd⟩ ev m (.bool false) m:=by
 refine bn.value fun c a bA hM=>?_
 have hv:=bA x (by simp [Op.operands])
 have h2:=bA y (by simp [Op.operands])
 rw [hx] at hv; rw [hy] at h2
 simp only [av] at h2
 obtain ⟨gg,cap,cur,v,bs,ins,hB,_⟩:=hM.tk (pr:=pr) hm hz
 have he:=iv hv hB hn
 have heq:=fun w p=>mv (P:=P) (t:=t) w 9999 ht (some p)
 refine ⟨.bool false,c,?_,by simp [av],hM,Step.refl pr c⟩
 simp [execOp,he,h2,eqGuard,binOp,Op.equal,Op.maxDepth,heq]
theorem Gd {el:Nat} {xs:List α} (he:telem P t=some el) (hx:ev x=.arr id n) (hm:m id=some (.nest e0 k os (xs.map f))) (hn:n=xs.length):bn P pr ⟨d,.call ⟨.builtin .len,#[x],#[t]⟩,ty,pos,af,gd⟩ ev m (.int .i64 (n:Int)) m:=by
 refine bn.value fun c a bA hM=>?_
 have hv:=bA x (by simp [Op.operands,Call.operands])
 rw [hx] at hv
 have gS:=hM.gE id
 rw [hm] at gS
 simp only [bw] at gS
 obtain ⟨u,vs,bs,hB,hk,bj,hN,hc,hnd,kF⟩:=gS
 simp only [av] at hv
 obtain ⟨_,u',k',lG,lE,iF,xU,jY⟩:=hv
 rw [hB] at iF; cases iF
 have jY:=jY (by simp [hn])
 obtain ⟨ad,Nl,FL⟩:=dC bj
 have hu:=fp he
 refine ⟨.int .i64 (n:Int),c,?_,by simp [av],hM,Step.refl pr c⟩
 rw [FL] at jY
 simp [execOp,resolve,invoke,builtin,Builtin.len_,jY,hn,run_underlying hu,goInt]
theorem nO {e' k' id2:Nat} {ys:List β} {ls:List LV} (hx:ev x=.bE id n i o0) (hm:m id=some (.nest e0 k os (ls.set i (.agg cs)))) (hn:n=ls.length) (hz:(ls.set i (.agg cs))[i]?=some (.agg cs)) (hc:cs[o0]?=some (.al k' (ys.map g))) (hl:os.lookup o0=some (e',k')) (bB:m id2=.none) (ht:tok P t=true) (ha:tagg P t=false) {dj:List LV} (hcs:cs.set o0 .eD=dj) :
  bn P pr ⟨d,.load t x,ty,pos,af,gd⟩ ev m (.arr id2 ys.length) ((m.put id (.c6 e0 k os (ls.set i (.agg dj)) i o0 id2 ys.length)).put id2 (.arr e' k' (ys.map g))):=by
 subst hcs
 have:=Gg (pr:=pr) (d:=d) (ty:=ty) (pos:=pos) (af:=af) (gd:=gd) hx hm (by simpa using hn) hz hc hl bB ht ha
 rwa [List.length_map,List.set_set] at this
theorem Wk.sd {e:Env} {n2 e' k' id2:Nat} {ys:List β} {ls:List LV} (hm:m id=some (.c6 e0 k os (ls.set i (.agg cs)) i o0 id2 n2)) (hz:(ls.set i (.agg cs))[i]?=some (.agg cs)) (hc:cs[o0]?=some .eD) (hl:os.lookup o0=some (e',k')) (jq:m id2=some (.arr e' k' (ys.map g))) (H0:n2=ys.length) (ta:¬ pr id2) {dj:List LV} (hcs:cs.set o0 (.al k' (ys.map g))=dj) :
  Wk pr e m e ((m.put id (.nest e0 k os (ls.set i (.agg dj)))).put id2 .dead):=by
 subst hcs
 have:=Wk.unlink (pr:=pr) (e:=e) hm hz hc hl jq (by simpa using H0) ta
 rwa [List.set_set] at this
end
section
variable {P:Program} {pr:Nat→Prop} {ev:Operand→LV} {m:Mem} {α β:Type} [DecidableEq α] {f:α→LV} {g:β→LV}
theorem Em {β:Type} {a k:Int} {b:β} {r:List (Int × β)} (h:(k == a)=false) (h':gU r k=.none):gU ((a,b) :: r) k=.none:=by
 have eA:¬ a=k:=fun e=>by subst e; simp at h
 simp [gU,eA,h']
theorem o3 {i id:Nat} {t ty:TypeId} {pos:String} {af:Array Edge} {gd:Option (Nat × Bool)} {z:LV} {cs:List LV} (d0:Nat) (hi:100+d0=id) (hz:tzero P t=some z) (hc:z.cells=cs) (bB:m id=.none):cj P pr ⟨some i,.alloc t,ty,pos,af,gd⟩ ev m (.ptr id 0) (m.put id (.box cs)):=by
 subst hi; subst hc
 exact yn t d0 z rfl hz bB
theorem eO {id kt vt:Nat} {t:TypeId} {d:Option Nat} {x k:Operand} {ty:TypeId} {pos:String} {af:Array Edge} {gd:Option (Nat × Bool)} {S:Value→Prop} {xs:List (α × β)} {key:α} {z:β} {o:Option β} (ht:zD P t=some (kt,vt)) (K:IZ P kt S) (hf:xv f S) (hx:ev x=.mp id) (bB:m id=some (.map kt vt (dO f g xs))) (hk:ev k=f key) (hz:tzero P vt=some (g z)) (ho:gU xs key=o) :
  bn P pr ⟨d,.lookup t x k true,ty,pos,af,gd⟩ ev m (.cV [g (o.getD z),.bool o.isSome]) m:=by
 subst ho
 exact tw ht K hf hx bB hk hz
end
end Go.L
namespace Go.L
section
variable {P:Program} {pr:Nat→Prop} {ev:Operand→LV} {m:Mem} {d:Option Nat} {x y:Operand} {t t' ty:TypeId} {pos:String} {af:Array Edge} {gd:Option (Nat × Bool)} {k:IntKind} {u w:Int}
end
end Go.L
namespace Go.L
section
variable {P:Program} {N:Nat} {pr:Nat→Prop} {ev:Operand→LV} {m m1 m':Mem} {d:Option Nat} {x y z:Operand} {t t' ty:TypeId} {pos:String} {af:Array Edge} {gd:Option (Nat × Bool)} {lv:LV} {α β:Type} {f:α→LV} {g:β→LV} {e0 k id n i o0:Nat} {os:List (Nat × Nat × Nat)} {xs cs:List LV}
abbrev R3 (l:List Int):LV:=.agg [.L l]
end
end Go.L
namespace Go.L
open Go.Sort Go.Proofs Go.Shelf Go.Lib
end Go.L
namespace Go.L
open Go.RowKit
abbrev RZ (w:World):Cx:=⟨w,fun _=>.none,fun _=>False,fun _=>.none⟩
theorem Xk {c:Cx}:aC c [] []:=by simp [aC]
theorem WQ {c:Cx} {x:LV} {v:Value} {xs:List LV} {vs:List Value} (h:av c x v) (hr:aC c xs vs):aC c (x :: xs) (v :: vs):=by simp only [aC]; exact ⟨v,vs,rfl,h,hr⟩
theorem WR {c:Cx} {k:IntKind} {n:Int}:av c (.int k n) (.int k n):=by simp [av]
theorem WN (w:World) (b:Nat):¬ (RZ w).X b:=by
 rintro ((h | h) | ⟨_,_,h,_⟩)
 ·exact h
 ·exact h rfl
 ·cases h
theorem CA {c:Cx} {k:IntKind}:∀ (zs:List Int),aC c (zs.map (LV.int k)) (zs.map (Value.int k))
 | []=>by simp [aC]
 | z :: zs=>WQ WR (CA zs)
theorem xE {k:IntKind}:∀ (zs:List Int),flat (zs.map (Value.int k))=zs.map (Value.int k)
 | []=>rfl
 | z :: zs=>by
  have:=xE (k:=k) zs
  simp only [flat,List.map_cons,List.flatMap_cons,Value.cells] at this ⊢
  rw [this]; rfl
theorem Xl {k:IntKind} {w:World} {a:Option Addr} {len cap:Nat} {zs:List Int} (h:(a=.none∧len=0∧cap=0∧zs=[]) ∨ ∃ x,a=some x∧len≤cap∧cap≤maxLen∧zs.length=cap∧(∀ i,i<zs.length→w.cell? (x.add i)=some (.int k (zs.getD i 0)))∧∀ n ∈ zs,(Lit.int k n).wf=true) :
  av (RZ w) (.al 1 (List.map (LV.int k) (zs.take len))) (.slice a len cap):=by
 rcases h with ⟨rfl,rfl,rfl,rfl⟩ | ⟨x,rfl,hl,hm,hz,hcell,_⟩
 ·simp only [av]
  exact ⟨.none,0,rfl,Nat.le_refl _,fun _=>rfl,rfl,.inl rfl⟩
 ·simp only [av]
  have hlen:(List.map (LV.int k) (zs.take len)).length=len:=by simp; omega
  refine ⟨some x,cap,by rw [hlen],by omega,(fun h=>by cases h),cK.2 fun y hy=>?_,?_⟩
  ·obtain ⟨n,_,rfl⟩:=List.mem_map.1 hy; rfl
  ·by_cases h0:len=0
   ·left; subst h0; simp
   ·right
    obtain ⟨b,off,spot⟩:=x
    have hc:=hcell 0 (by omega)
    have Oj:spot=.none:=by simpa [Addr.add] using World.cell?_spot hc
    subst Oj
    refine ⟨b,off,(zs.take len).map (Value.int k),rfl,?_,WN w b,CA _,?_,?_⟩
    ·by_cases ec:b<w.heap.size
     ·exact ec
     ·have:w.heap[b]?=.none:=by simp; omega
      simp [World.cell?,Addr.add,this] at hc
    ·intro u hu
     obtain ⟨n,_,rfl⟩:=List.mem_map.1 hu
     exact ⟨rfl,fun y hy=>by simp [Value.cells] at hy; subst hy; rfl⟩
    ·rw [xE]
     intro j v hv
     simp only [List.getElem?_map,List.getElem?_take] at hv
     split at hv
     ·rename_i hj
      have Fb:j<zs.length:=by omega
      have:=hcell j Fb
      simp [Fb] at hv
      have Sg:(Addr.mk b off .none).add j=Addr.mk b (off+j) .none:=by
       simp only [Addr.add]; split
       ·rename_i h; subst h; rfl
       ·rfl
      rw [Sg] at this
      rw [this,← hv]; simp [Fb]
     ·cases hv
theorem RB {P:Program} {f:Nat} {args:List LV} (h:aO P f args (Mem.of []) (.bool true) (Mem.of [])) (w:World) (vs:List Value) (ha:aC (RZ w) args vs) :
  Calls P f vs.toArray w fun e w'=>e=.returned (.bool true)∧Below w.heap.size w w':=by
 refine (sr.calls h w vs ha).mono ?_
 rintro en w' ⟨⟨v,c',rfl,rfl,hv⟩,hb⟩
 simp only [av] at hv
 subst hv
 exact ⟨rfl,hb⟩
end Go.L
