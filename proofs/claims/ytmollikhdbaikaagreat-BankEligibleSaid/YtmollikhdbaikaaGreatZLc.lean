import Derived.Test.YtmollikhdbaikaaGreatZLb
import Derived.Shelf.SlSortCmp.NoneTotal
import Derived.Test.YtmollikhdbaikaaGreatZLa
import Derived.Laws.Strings
import Derived.Laws.Concat
import Derived.Laws.BytesString
import Derived.Shelf.Sort.Plain
import Derived.Shelf.Slices.In.SortNone
import Derived.Below
set_option linter.unusedVariables false
set_option linter.unusedSimpArgs false
namespace Go.L
theorem AW {α:Type} {cf:α→α→Int} {ys zs:List α} (hp:zs.Perm ys) (hy:ys.Pairwise fun a b=>cf a b<0) (hz:zs.Pairwise fun a b=>¬ cf b a<0):zs=ys:=by
 induction ys generalizing zs with
 | nil=>exact hp.eq_nil
 | cons y ys ih =>
  obtain ⟨ue,SQ⟩:=List.pairwise_cons.1 hy
  cases zs with
  | nil=>exact absurd hp.symm.eq_nil (by simp)
  | cons z zs =>
   obtain ⟨DT,K5⟩:=List.pairwise_cons.1 hz
   have SY:z=y:=by
    rcases List.mem_cons.1 (hp.mem_iff.1 (List.mem_cons_self)) with h | h
    ·exact h
    ·have h1:=ue z h
     rcases List.mem_cons.1 (hp.mem_iff.2 (List.mem_cons_self:y ∈ y :: ys)) with h2 | h2
     ·exact h2.symm
     ·exact absurd h1 (DT y h2)
   subst SY
   rw [ih (List.Perm.cons_inv hp) SQ K5]
def nY {α:Type} (c:α→α→Option Int) (xs ys:List α):Prop :=
 ys.Perm xs∧xs.length<1000000∧∃ cf:α→α→Int,(∀ x ∈ xs,∀ y ∈ xs,c x y=some (cf x y))∧(∀ x ∈ xs,¬ cf x x<0)∧(∀ x ∈ xs,∀ y ∈ xs,∀ z ∈ xs,cf x y<0→cf y z<0→cf x z<0) ∧
  (∀ x ∈ xs,∀ y ∈ xs,∀ z ∈ xs,¬ cf x y<0→¬ cf y z<0→¬ cf x z<0)∧ys.Pairwise fun a b=>cf a b<0
theorem nY.unique {α:Type} {c:α→α→Option Int} {xs ys zs:List α} (h:nY c xs ys) (h':nY c xs zs):ys=zs:=by
 obtain ⟨hp,_,cf,hc,_,ht,_,hs⟩:=h
 obtain ⟨Ag,_,Q5,wB,gV,_,_,E6⟩:=h'
 refine AW (cf:=Q5) (hp.trans Ag.symm) E6 ?_
 refine List.Pairwise.imp_of_mem ?_ hs
 intro a b ha hb pd TP
 have ma:=hp.mem_iff.1 ha
 have mb:=hp.mem_iff.1 hb
 have h1:Q5 b a=cf b a:=by have:=hc b mb a ma; rw [wB b mb a ma] at this; exact Option.some.inj this
 have h2:Q5 a a=cf a a:=by have:=hc a ma a ma; rw [wB a ma a ma] at this; exact Option.some.inj this
 rw [h1] at TP
 exact gV a ma (by rw [h2]; exact ht a ma b mb a ma pd TP)
open Classical in
noncomputable def pM {α:Type} (c:α→α→Option Int) (xs:List α):Option (List α):=if h:∃ ys,nY c xs ys then some h.choose else .none
theorem GM {α:Type} {c:α→α→Option Int} {xs ys:List α} (h:nY c xs ys):pM c xs=some ys:=by
 have hx:∃ ys,nY c xs ys:=⟨ys,h⟩
 unfold pM
 rw [dif_pos hx]
 exact congrArg some (hx.choose_spec.unique h)
theorem yO {α:Type} {c:α→α→Option Int} {xs ys:List α} (h:pM c xs=some ys):nY c xs ys:=by
 unfold pM at h
 split at h
 ·rename_i hx; cases h; exact hx.choose_spec
 ·cases h
theorem u9 {α:Type} {c:α→α→Option Int} {xs ys:List α} (h:pM c xs=some ys):xs.length=ys.length:=(yO h).1.length_eq.symm
end Go.L
namespace Go.L
open Go.Sort Go.Proofs Go.Shelf Go.Lib
theorem Dx {α:Type} {cf:α→α→Int} {ys zs:List α} (hp:zs.Perm ys) (hy:ys.Pairwise fun a b=>cf a b<0) (hz:zs.Pairwise fun a b=>¬ cf b a<0):zs=ys:=by
 induction ys generalizing zs with
 | nil=>exact hp.eq_nil
 | cons y ys ih =>
  obtain ⟨ue,SQ⟩:=List.pairwise_cons.1 hy
  cases zs with
  | nil=>exact absurd hp.symm.eq_nil (by simp)
  | cons z zs =>
   obtain ⟨DT,K5⟩:=List.pairwise_cons.1 hz
   have SY:z=y:=by
    rcases List.mem_cons.1 (hp.mem_iff.1 (List.mem_cons_self)) with h | h
    ·exact h
    ·have h1:=ue z h
     rcases List.mem_cons.1 (hp.mem_iff.2 (List.mem_cons_self:y ∈ y :: ys)) with h2 | h2
     ·exact h2.symm
     ·exact absurd h1 (DT y h2)
   subst SY
   rw [ih (List.Perm.cons_inv hp) SQ K5]
theorem Hs {w w':World} (DO:w'.os=w.os) (ht:w'.tape=w.tape) (ho:w'.output=w.output) (hd:w.drawn≤w'.drawn) (hs:w.heap.size≤w'.heap.size) (hk:∀ b,b<w.heap.size→w'.heap[b]?=w.heap[b]?) :
  w'=grow (w.drewN (w'.drawn - w.drawn)) (w'.heap.extract w.heap.size w'.heap.size):=by
 obtain ⟨h',t',d',o',p'⟩:=w'
 obtain ⟨h,t,d,o,p⟩:=w
 simp only at DO ht ho hd hs hk
 subst DO; subst ht; subst ho
 simp only [grow,World.drewN,World.mk.injEq,true_and,and_true]
 refine ⟨?_,by omega⟩
 apply Array.ext_getElem?
 intro i
 rw [Array.getElem?_append]
 split
 ·rename_i hi; exact hk i hi
 ·rename_i hi
  rw [Array.getElem?_extract]
  by_cases gV:i<h'.size
  ·rw [if_pos (by omega)]; congr 1; omega
  ·rw [if_neg (by omega),Array.getElem?_eq_none (by omega)]
theorem sY {c:Cx} {α:Type} (en:α→Int):∀ {xs:List α} {us:List Value},aC c (xs.map fun x=>LV.int .i64 (en x)) us→us=xs.map fun x=>Value.int .i64 (en x)
 | [],us,h=>by simpa [aC] using h
 | x :: xs,us,h=>by
  simp only [List.map_cons,aC] at h
  obtain ⟨v,vs,rfl,h1,h2⟩:=h
  simp only [au] at h1
  rw [h1,sY en h2]; rfl
theorem xz {c:Cx} {α:Type} (en:α→Int):∀ (xs:List α),aC c (xs.map fun x=>LV.int .i64 (en x)) (xs.map fun x=>Value.int .i64 (en x))
 | []=>by simp [aC]
 | x :: xs=>by simp only [List.map_cons,aC]; exact ⟨_,_,rfl,by simp [au],xz en xs⟩
theorem pY {α:Type} (en:α→Int):∀ (xs:List α),flat (xs.map fun x=>Value.int .i64 (en x))=xs.map fun x=>Value.int .i64 (en x)
 | []=>rfl
 | x :: xs=>by rw [List.map_cons,gh,pY en xs]; rfl
theorem uT {α:Type} (en:α→Int):∀ (xs:List α),LV.bj (xs.map fun x=>LV.int .i64 (en x))=true
 | []=>rfl
 | x :: xs=>by simp only [List.map_cons,LV.bj,LV.pure,uT en xs,Bool.and_self]
theorem JB {α:Type} [Inhabited α] (enc:α→Value) (w:World) (mY m:Nat) (d:Array α) (os:Array Obj):(sortWorld enc w mY 0 m d os).os=w.os∧(sortWorld enc w mY 0 m d os).tape=w.tape∧(sortWorld enc w mY 0 m d os).output=w.output∧w.drawn≤(sortWorld enc w mY 0 m d os).drawn∧w.heap.size≤(sortWorld enc w mY 0 m d os).heap.size:=by
 refine ⟨rfl,rfl,rfl,Nat.le_add_right _ _,?_⟩
 simp [sortWorld,grow,putRow,mapBlock,ahead]
theorem B5 {α:Type} [Inhabited α] (enc:α→Value) (w:World) (mY m:Nat) (d:Array α) (os:Array Obj) (b:Nat) (hb:b<w.heap.size) (ep:b ≠ mY):(sortWorld enc w mY 0 m d os).heap[b]?=w.heap[b]?:=by
 simp only [sortWorld,grow,putRow,mapBlock,ahead]
 rw [Array.getElem?_append_left (by simpa using hb),Array.getElem?_modify]
 simp [Ne.symm ep]
theorem P5 {α:Type} [Inhabited α] (enc:α→Value) (w:World) (mY m:Nat) (d:Array α) (os:Array Obj) {cur:Array Value} {e:TypeId} {z:Nat × Nat} (hg:w.heap[mY]?=some (.cells cur e z)):(sortWorld enc w mY 0 m d os).heap[mY]?=some (.cells (putCells enc 0 d cur) e z):=by
 have hb:mY<w.heap.size:=(Array.getElem?_eq_some_iff.1 hg).1
 simp only [sortWorld,grow,putRow,mapBlock,ahead]
 rw [Array.getElem?_append_left (by simpa using hb),Array.getElem?_modify]
 simp [hg,onCells]
theorem GN {P:Program} {ρ:Ren} (L:SlLaysF.n6 P ρ) {α:Type} (en:α→Int) (cf:α→α→Int) (hO:SWO (ltOf cf)) (g:Nat) (cap:List LV) (mu:LV.bj cap=true)
  (eg:∀ args w,(callFunc g args).run P w=.ok (.enter g args) w) (Kb:∀ x y,rV P g ([.int .i64 (en x),.int .i64 (en y)]++cap) (.int .i64 (cf x y)))
  (xs ys:List α) (EY:ys.Perm xs) (Nr:ys.Pairwise fun a b=>cf a b<0) (hlen:xs.length<1000000) (id e:Nat) :
  aP P (ρ.f 6) [.arr id xs.length,.fn g cap] (Mem.of [(id,.arr e 1 (xs.map fun x=>.int .i64 (en x)))]) (.de []) (Mem.of [(id,.arr e 1 (ys.map fun x=>.int .i64 (en x)))]):=by
 intro c vs hm ha
 simp only [aC] at ha
 obtain ⟨v0,vs1,rfl,Mg,v1,vs2,rfl,kz,rfl⟩:=ha
 obtain ⟨us,hB,hk,bd,hl,hc,hp⟩:=gf (e:=e) (k:=1) (xs:=xs.map fun x=>LV.int .i64 (en x)) hm Mg (by simp [Mem.of]) (by simp)
 simp only [au] at kz
 obtain ⟨cb,rfl,MN⟩:=kz
 have Fb:=sY en hl
 subst Fb
 rw [pY] at bd
 have M7:(xs.map fun x=>LV.int .i64 (en x)).length=xs.length:=by simp
 rw [M7] at bd hB
 by_cases IY:xs=[]
 ·subst IY
  have HN:ys=[]:=EY.eq_nil
  subst HN
  obtain ⟨ad,cp,rfl⟩:=du bd
  refine (AnyF.slices_SortFunc_none { L with } ad cp (.func (.func g) #[] cb.toArray) c.w).mono ?_
  rintro Qp w' ⟨rfl,rfl⟩
  exact ⟨_,c,rfl,rfl,hm,by simp only [au,aC]; exact ⟨[],rfl,rfl⟩,Grow.refl _ c⟩
 ·haveI:Inhabited α:=⟨xs.head IY⟩
  have uH:0<xs.length:=List.length_pos_iff.2 IY
  rcases bd.2 with ⟨rfl,h0⟩ | ⟨mY,cp,cur,rfl,_,hg,kf,zi,hcs,wD⟩
  ·omega
  ·have hblk : mY < c.w.heap.size := (Array.getElem?_eq_some_iff.1 hg).1
   have Kc:∀ j,j<xs.length→cur[j]?=some (.int .i64 (en xs[j]!)):=by
    intro j hj
    have h1:=congrArg (fun l=>l[j]?) wD
    simp only [List.getElem?_take,Nat.mul_one,List.getElem?_map] at h1
    rw [if_pos hj] at h1
    rw [← Array.getElem?_toList,h1]
    simp [hj]
   have hH:Holds (fun x=>Value.int .i64 (en x)) c.w mY 0 xs.toArray:=by
    intro j hj
    have EN:j<xs.length:=by simpa using hj
    constructor
    ·simp [World.cell?,hg,Kc j EN]
    ·simp [World.frozen?,hg]
   have MO:CmpLays1 P g cb.toArray (fun x=>Value.int .i64 (en x)) cf mY 0 xs.toArray.size c.w:=by
    intro q os dk Wo x y
    obtain ⟨s1,s2,s3,s4,s5⟩:=JB (fun x=>Value.int .i64 (en x)) c.w mY q dk os
    have QC:=B5 (fun x=>Value.int .i64 (en x)) c.w mY q dk os
    have TO:c.own mY:=⟨id,_,hB,by simp [BE.has,Value.ownBlock]⟩
    have hX:c.X mY:=.inr TO
    have hle:c.Le ⟨sortWorld (fun x=>Value.int .i64 (en x)) c.w mY 0 q dk os,fun _=>.none,fun b=>c.O b ∨ c.own b,c.Q⟩:=by
     refine ⟨s5,fun b hb hx=>⟨QC b hb (fun h=>hx (h ▸ hX)),?_⟩,fun b n hb=>⟨QC b (hm.cN b (by rw [hb]; simp)).2.2 (fun h=>(hm.cN b (by rw [hb]; simp)).2.1 (h ▸ TO)),hb⟩⟩
     rintro (((h | h) | h) | ⟨_,_,h,_⟩)
     ·exact hx (.inl (.inl h))
     ·exact hx (.inr h)
     ·exact hx (.inl (.inr h))
     ·cases h
    have ph:bU ⟨sortWorld (fun x=>Value.int .i64 (en x)) c.w mY 0 q dk os,fun _=>.none,fun b=>c.O b ∨ c.own b,c.Q⟩ Mem.none:=by
     refine ⟨fun _=>by simp [br,Mem.none],(fun _ _ _ _ _ h=>by cases h),(fun b ⟨_,_,h,_⟩=>by cases h),fun b hb=>?_,fun b hb=>⟨fun h=>h.elim (hm.cN b hb).1 (hm.cN b hb).2.1,(fun ⟨_,_,h,_⟩=>by cases h),Nat.lt_of_lt_of_le (hm.cN b hb).2.2 s5⟩⟩
     rcases hb with hb | hb
     ·exact Nat.lt_of_lt_of_le (hm.o3 b hb) s5
     ·exact Nat.lt_of_lt_of_le (hm.kP hb) s5
    have hargs:aC ⟨sortWorld (fun x=>Value.int .i64 (en x)) c.w mY 0 q dk os,fun _=>.none,fun b=>c.O b ∨ c.own b,c.Q⟩ ([.int .i64 (en x),.int .i64 (en y)]++cap) ([.int .i64 (en x),.int .i64 (en y)]++cb):=by
     simp only [List.cons_append,List.nil_append,aC]
     refine ⟨_,_,rfl,by simp [au],_,_,rfl,by simp [au],aC.mono hle cap cb (fun j hj=>?_) MN⟩
     rw [ay cap mu] at hj; cases hj
    have nP:=Kb x y _ _ ph hargs
    have JW:(([.int .i64 (en x),.int .i64 (en y)]++cb:List Value)).toArray=#[Value.int .i64 (en x),Value.int .i64 (en y)]++cb.toArray:=by simp
    rw [JW] at nP
    refine nP.mono ?_
    rintro Qp w' ⟨v,c',rfl,rfl,_,hv,Ki⟩
    simp only [au] at hv
    refine ⟨by rw [hv],_,_,Hs Ki.os Ki.tape Ki.output Ki.drawn Ki.size fun b hb=>Ki.jr b hb ?_ (.inr fun h=>h rfl)⟩
    rintro ⟨_,_,h,_⟩
    cases h
   have hS:=Any.slices_SortFunc L (fun x=>Value.int .i64 (en x)) (fun _=>rfl) cf hO g cb.toArray mY 0 cp xs.toArray c.w eg MO hH hblk (by simp; omega)
   simp only [List.size_toArray] at hS
   refine hS.mono ?_
   rintro Qp w' ⟨rfl,d',q,os,hP,U0,rfl⟩
   have RA:d'.size=xs.length:=by simpa using hP.1
   have Qx:d'.toList=ys:=by
    have T9:d'.toList.Perm xs:=by
     have:=hP.2.2
     simp only [List.size_toArray,Array.toList_extract,List.extract_eq_take_drop,Nat.sub_zero,List.drop_zero,List.take_length] at this
     rwa [List.take_of_length_le (by simp [RA])] at this
    refine Dx (cf:=cf) (T9.trans EY.symm) Nr ?_
    rw [List.pairwise_iff_getElem]
    intro i j hi hj rA
    simp only [Array.length_toList] at hi hj
    have:=U0 i j (Nat.zero_le _) rA (by omega)
    simp only [ltOf,decide_eq_false_iff_not] at this
    rw [getElem!_pos d' j hj,getElem!_pos d' i hi] at this
    simpa using this
   obtain ⟨s1,s2,s3,s4,s5⟩:=JB (fun x=>Value.int .i64 (en x)) c.w mY q d' os
   have QC:=B5 (fun x=>Value.int .i64 (en x)) c.w mY q d' os
   have Ru:=P5 (fun x=>Value.int .i64 (en x)) c.w mY q d' os hg
   have DS:ys.length=xs.length:=EY.length_eq
   obtain ⟨c',He,iq,gW,ko⟩:=hm.A9 (pr:=fun i=>Mem.of [(id,LE.arr e 1 (xs.map fun x=>LV.int .i64 (en x)))] i ≠ .none) id (.arr e 1 (ys.map fun x=>LV.int .i64 (en x))) _ (sortWorld (fun x=>Value.int .i64 (en x)) c.w mY 0 q d' os) s1 s2 s3 s4 s5 
    (fun b hb hn=>QC b hb fun h=>hn _ hB (by rw [h]; simp [BE.has,Value.ownBlock]))
    (fun b hb=>.inl ⟨_,hB,hb⟩) (by rw [hB]; exact jk.refl _) (fun _ di h=>by rw [hB] at h; cases h; exact .refl _) (by
     intro c1 jw Aa Wm
     simp only [br]
     refine ⟨_,ys.map fun x=>Value.int .i64 (en x),by simp only [List.length_map,DS]; rfl,by decide,?_,xz en ys,?_,?_⟩
     ·rw [pY,List.length_map,DS,jw]
      refine ⟨by simp [DS],.inr ⟨mY,cp,_,rfl,Nat.zero_le _,Ru,kf,zi,?_,?_⟩⟩
      ·simpa [putCells] using hcs
      ·apply List.ext_getElem?
       intro j
       have TT:cur.size=cp:=by simpa using hcs
       by_cases hj:j<xs.length
       ·have EO:j<d'.size:=by omega
        have Vk:j<ys.length:=by omega
        have VU:d'[j]=ys[j]:=by
         simp only [← Qx,Array.getElem_toList]
        rw [List.getElem?_take,if_pos (by omega),Array.getElem?_toList]
        simp only [putCells,Array.getElem?_mapIdx,Nat.zero_le,Nat.zero_add,Nat.sub_zero,true_and]
        rw [Array.getElem?_eq_getElem (by omega)]
        simp [EO,VU,Vk]
       ·rw [List.getElem?_take,if_neg (by omega),List.getElem?_eq_none (by simp; omega)]
     ·intro v hv
      obtain ⟨y,_,rfl⟩:=List.mem_map.1 hv
      exact ⟨rfl,fun z hz=>by simp [Value.cells] at hz; subst hz; rfl⟩
     ·exact uT en ys)
   refine ⟨_,c',rfl,He,?_,by simp only [au,aC]; exact ⟨[],rfl,rfl⟩,ko.grow⟩
   have Vr:Mem.put (Mem.of [(id,LE.arr e 1 (xs.map fun x=>LV.int .i64 (en x)))]) id (.arr e 1 (ys.map fun x=>LV.int .i64 (en x)))=Mem.of [(id,LE.arr e 1 (ys.map fun x=>LV.int .i64 (en x)))]:=by
    funext i
    by_cases hi:i=id
    ·subst hi; simp [Mem.put,Mem.of]
    ·simp [Mem.put,Mem.of,hi]
   rwa [Vr] at gW 
end Go.L
namespace Go.L
open Go.Sort Go.Proofs Go.Shelf
theorem enters_of {P : Program} {g : Nat} (h : ∃ fn, P.funcs[g]? = some fn ∧ (fn.name == "runtime.NumGoroutine") = false ∧ fn.body.isNone = false) (args : Array Value) (w : World) : (callFunc g args).run P w = .ok (.enter g args) w := by
 obtain ⟨fn,h1,h2,h3⟩:=h
 have MF : ¬ fn.name = "runtime.NumGoroutine" := by simpa using h2
 have UR:¬ fn.body=Option.none:=fun hn=>by rw [hn] at h3; cases h3
 simp [callFunc,h1,MF,UR]
theorem LL {xs:List Int} {cf:Int→Int→Int} (h1:∀ x ∈ xs,¬ cf x x<0) (h2:∀ x ∈ xs,∀ y ∈ xs,∀ z ∈ xs,cf x y<0→cf y z<0→cf x z<0) (h3:∀ x ∈ xs,∀ y ∈ xs,∀ z ∈ xs,¬ cf x y<0→¬ cf y z<0→¬ cf x z<0):SWO (ltOf fun a b:{x // x ∈ xs}=>cf a.1 b.1):=by
 constructor
 ·intro x; simp only [ltOf,decide_eq_false_iff_not]; exact h1 x.1 x.2
 ·intro x y z; simp only [ltOf,decide_eq_true_eq]; exact h2 x.1 x.2 y.1 y.2 z.1 z.2
 ·intro x y z; simp only [ltOf,decide_eq_false_iff_not]; exact h3 x.1 x.2 y.1 y.2 z.1 z.2
theorem yP {P : Program} {ρ : Ren} (L : SlLaysF.n6 P ρ) {f : Nat} (hf : ρ.f 6 = f) {c : Int → Int → Option Int} {xs r : List Int} {g : Nat} {cap : List LV} (hg : ∃ fn, P.funcs[g]? = some fn ∧ (fn.name == "runtime.NumGoroutine") = false ∧ fn.body.isNone = false) (mu : LV.bj cap = true)
  (Kb:∀ x y q,c x y=some q→aP P g ([.int .i64 x,.int .i64 y]++cap) (Mem.of []) (.int .i64 q) (Mem.of [])) (id e:Nat) (h:pM c xs=some r) :
  aP P f [.arr id xs.length,.fn g cap] (Mem.of [(id,.arr e 1 (xs.map (LV.int .i64)))]) (.de []) (Mem.of [(id,.arr e 1 (r.map (LV.int .i64)))]):=by
 subst hf
 obtain ⟨hp,hn,cf,hc,h1,h2,h3,hs⟩:=yO h
 have hr:∀ x ∈ r,x ∈ xs:=fun x hx=>hp.mem_iff.1 hx
 have key:=GN L (fun x:{x // x ∈ xs}=>x.1) (fun a b=>cf a.1 b.1) (LL h1 h2 h3) g cap mu (enters_of hg)
  (fun x y=>Kb _ _ _ (hc x.1 x.2 y.1 y.2)) (xs.pmap Subtype.mk fun _ h=>h) (r.pmap Subtype.mk hr) (hp.pmap _) ?_ (by simpa using hn) id e
 ·simp only [List.map_pmap,List.pmap_eq_map,List.length_pmap] at key
  exact key
 ·refine (List.pairwise_pmap _).2 ?_
  exact hs.imp fun {a b} h _ _=>h
end Go.L
namespace Go.L
open Go.Sort Go.Proofs Go.Shelf Go.Lib
end Go.L
namespace Go.L
def DC (P:Program) (t:TypeId):Bool:=match P.underlying t with | some .string=>true | _=>false
theorem A1 {P:Program} {t:TypeId} (h:DC P t=true):P.underlying t=some .string:=by
 unfold DC at h; split at h
 ·assumption
 ·cases h
def wi (a b:ByteArray):Option ByteArray:=if a.size+b.size≤1000000000 then some (a++b) else .none
def yL (s:ByteArray) (i:Int):Option Int:=if 0≤i then (s.data.toList[i.toNat]?).map fun b=>(b.toNat:Int) else .none
def AV (ns:List Int):ByteArray:=ns.foldl (fun r n=>r.push (UInt8.ofNat n.toNat)) ByteArray.empty
theorem P2 (a b:ByteArray):(a.toList == b.toList)=decide (a=b):=by
 rw [Bool.eq_iff_iff]
 simp only [beq_iff_eq,decide_eq_true_eq]
 constructor
 ·intro h
  rw [ByteArray.toList_eq,ByteArray.toList_eq] at h
  exact ByteArray.ext (Array.toList_inj.1 h)
 ·intro h; rw [h]
theorem Up:pU 1 LV.str:=fun _=>⟨rfl,rfl,rfl⟩
section
variable {P:Program} {pr:Nat→Prop} {ev:Operand→LV} {m:Mem} {d:Option Nat} {x y:Operand} {t t' ty:TypeId} {pos:String} {af:Array Edge} {gd:Option (Nat × Bool)} {a b:ByteArray}
theorem GI {op:BinOp} (w:World):(eqGuard op t x y (.string a) (.string b)).run P w=.ok () w:=by unfold eqGuard; cases op <;> simp
theorem vR (hx:ev x=.str a) (hy:ev y=.str b):bm P pr ⟨d,.binOp .eql t x y t',ty,pos,af,gd⟩ ev m (.bool (decide (a=b))) m:=by
 refine bm.value fun c act bw hM=>?_
 have hv:=bw x (by simp [Op.operands])
 have hw:=bw y (by simp [Op.operands])
 rw [hx] at hv
 rw [hy] at hw
 simp only [au] at hv hw
 exact ⟨.bool (decide (a=b)),c,by simp [execOp,hv,hw,GI,binOp_string_eql,P2],by simp [au],hM,Step.refl pr c⟩
theorem BM {r:ByteArray} (hx:ev x=.str a) (hy:ev y=.str b) (h:wi a b=some r):bm P pr ⟨d,.binOp .add t x y t',ty,pos,af,gd⟩ ev m (.str r) m:=by
 unfold wi at h
 split at h
 ·rename_i hs
  cases h
  refine bm.value fun c act bw hM=>?_
  have hv:=bw x (by simp [Op.operands])
  have hw:=bw y (by simp [Op.operands])
  rw [hx] at hv
  rw [hy] at hw
  simp only [au] at hv hw
  exact ⟨.string (a++b),c,by simp [execOp,hv,hw,GI,binOp_string_add,run_string_add_sum c.w a b (by omega)],by simp [au],hM,Step.refl pr c⟩
 ·cases h
theorem rE (ht:DC P t=true) (hx:ev x=.str a):bm P pr ⟨d,.call ⟨.builtin .len,#[x],#[t]⟩,ty,pos,af,gd⟩ ev m (.int .i64 a.size) m:=by
 have hu:=A1 ht
 refine bm.value fun c act bw hM=>?_
 have hv:=bw x (by simp [Op.operands,Call.operands])
 rw [hx] at hv
 simp only [au] at hv
 exact ⟨.int .i64 a.size,c,by simp [execOp,resolve,invoke,builtin,Builtin.len_,hv,run_underlying hu,goInt],by simp [au],hM,Step.refl pr c⟩
theorem vS {k:IntKind} {u z:Int} (ht:DC P t=true) (hx:ev x=.str a) (hy:ev y=.int k u) (h:yL a u=some z):bm P pr ⟨d,.index t x y,ty,pos,af,gd⟩ ev m (.int .u8 z) m:=by
 have hu:=A1 ht
 unfold yL at h
 split at h
 ·rename_i h0
  obtain ⟨q,hq,hz⟩:=Option.map_eq_some_iff.1 h
  have oW:a[u.toNat]?=some q:=by
   obtain ⟨hl,he⟩:=List.getElem?_eq_some_iff.1 hq
   have iD:u.toNat<a.size:=by rw [Array.length_toList] at hl; exact hl
   rw [getElem?_pos a u.toNat iD]
   simp only [Option.some.injEq]
   rw [← he]; simp [ByteArray.getElem_eq_getElem_data]
  refine bm.value fun c act bw hM=>?_
  have hv:=bw x (by simp [Op.operands])
  have hw:=bw y (by simp [Op.operands])
  rw [hx] at hv
  rw [hy] at hw
  simp only [au] at hv hw
  refine ⟨.int .u8 z,c,?_,by simp [au],hM,Step.refl pr c⟩
  simp [execOp,hv,hw,Instr.index,asIntOf,run_underlying hu,h0,oW,hz]
 ·cases h
theorem qq {c:Cx}:∀ {ns:List Int} {us:List Value},aC c (ns.map (LV.int .u8)) us→us=ns.map (Value.int .u8)
 | [],us,h=>by simpa [aC] using h
 | n :: ns,us,h=>by
  simp only [List.map_cons,aC] at h
  obtain ⟨v,vs,rfl,hv,hl⟩:=h
  simp only [au] at hv
  rw [hv,qq hl]; rfl
theorem sr:∀ (ns:List Int),flat (ns.map (Value.int .u8))=ns.map (Value.int .u8)
 | []=>rfl
 | n :: ns=>by simp only [flat,List.map_cons,List.flatMap_cons]; rw [show (Value.int .u8 n).cells.toList=[Value.int .u8 n] from rfl]; exact congrArg _ (sr ns)
theorem Ll {e:Nat} {ns:List Int} (hs:telem P t=some e) (he:tint P e=some .u8) (hd:DC P t'=true) (hx:ev x=.ak 1 (ns.map (LV.int .u8))):bm P pr ⟨d,.convert t t' x,ty,pos,af,gd⟩ ev m (.str (AV ns)) m:=by
 have Fb:=fG hs
 have VK:=A1 hd
 have VL:P.underlying e=some (.int .u8):=by
  unfold tint at he; split at he
  ·rename_i k hk; cases he; exact hk
  ·cases he
 refine bm.value fun c act bw hM=>?_
 have hv:=bw x (by simp [Op.operands])
 rw [hx] at hv
 simp only [au] at hv
 obtain ⟨ad,cap,hval,mu,pj,_,MM⟩:=hv
 refine ⟨.string (AV ns),c,?_,by simp [au],hM,Step.refl pr c⟩
 have dD:(Conv.bytesToString (.slice ad (ns.map (LV.int .u8)).length cap)).run P c.w=.ok (.string (AV ns)) c.w:=by
  cases ad with
  | none =>
   have h0:=pj rfl
   have:ns=[]:=by
    rw [h0] at mu; simp at mu; exact mu
   subst this
   rfl
  | some a0 =>
   rw [List.length_map]
   refine run_bytesToString c.w a0 ns.length cap ns ?_
   have:=run_loadCells_list (P:=P) (w:=c.w) a0 (ns.map (Value.int .u8)) (fun j v hj=>by
    rcases MM with h | ⟨b0,off,vs,h1,_,_,h2,_,h3⟩
    ·have:ns=[]:=by simpa using h
     subst this; simp at hj
    ·cases h1
     have DP:=qq h2
     subst DP
     rw [sr] at h3
     have:=h3 j v hj
     simpa [Addr.add_mid] using this)
   simpa using this
 rw [List.length_map] at hval dD
 simp [execOp,hval,run_convert_bytes_string c.w t t' e ad _ cap Fb VL VK,dD]
end
end Go.L
namespace Go.L
theorem FF {c:Cx} {e k i o id2 n2 g len:Nat} {os:List (Nat × Nat × Nat)} {xs:List LV} {u v:Value} {bs:List Nat} (h:br c (some (.nest e k os xs)) (some (.arr u k len bs))) (hg:u.ownBlock=some g) (hc:c.w.cell? ⟨g,i * k+o,Option.none⟩=some v) (hv:au c (.arr id2 n2) v):br c (some (.cU e k os xs i o id2 n2)) (some (.arr u k len bs)):=by
 simp only [br] at h ⊢
 obtain ⟨u',vs,Bk,h1,h2,h3,h4,h5⟩:=h
 cases h1
 exact ⟨u,vs,bs,rfl,h2,h3,h4,⟨g,v,hg,hc,hv⟩,h5⟩
theorem FG {c:Cx} {e k i o id2 n2:Nat} {os:List (Nat × Nat × Nat)} {xs:List LV} {y:Option BE} (h:br c (some (.cU e k os xs i o id2 n2)) y):br c (some (.nest e k os xs)) y∧∃ u bs g v,y=some (.arr u k xs.length bs)∧u.ownBlock=some g∧c.w.cell? ⟨g,i * k+o,Option.none⟩=some v∧au c (.arr id2 n2) v:=by
 simp only [br] at h ⊢
 obtain ⟨u,vs,bs,h1,h2,h3,h4,⟨g,v,q1,q2,q3⟩,h5⟩:=h
 exact ⟨⟨u,vs,bs,h1,h2,h3,h4,h5⟩,u,bs,g,v,h1,q1,q2,q3⟩
section
variable {P:Program} {N:Nat} {pr:Nat→Prop} {ev:Operand→LV} {m:Mem} {d:Option Nat} {x y:Operand} {t ty:TypeId} {pos:String} {af:Array Edge} {gd:Option (Nat × Bool)} {e0 k id n i o0 id2 e' k':Nat} {os:List (Nat × Nat × Nat)} {xs cs ys:List LV}
theorem FR (hx:ev x=.bE id n i o0) (hm:m id=some (.nest e0 k os xs)) (hn:n=xs.length) (hz:xs[i]?=some (.agg cs)) (hc:cs[o0]?=some (.ak k' ys)) (hl:os.lookup o0=some (e',k')) (bC:m id2=.none) (ht:tok P t=true) (ha:tagg P t=false) :
  bm P pr ⟨d,.load t x,ty,pos,af,gd⟩ ev m (.arr id2 ys.length) ((m.put id (.cU e0 k os (xs.set i (.agg (cs.set o0 .eB))) i o0 id2 ys.length)).put id2 (.arr e' k' ys)):=by
 have ep:id ≠ id2:=fun h=>by rw [h,bC] at hm; cases hm
 refine bm.value fun c a bw hM=>?_
 have hv:=bw x (by simp [Op.operands])
 rw [hx] at hv
 have im:=hM.gr id
 rw [hm] at im
 obtain ⟨g,cap,cur,v,bp,bs,bq,hB,hg,hcs,kf,hk,By,kz,tP,q9,hnd,qA,oo⟩:=pB im hz
 have he:=iX hv hB hn
 obtain ⟨dr,ws,h1,rfl,hC⟩:=q9
 cases h1
 have sz:(cur.toList.drop (i * k)).take k=ws:=by simpa [Value.cells] using tP
 obtain ⟨w,cp,cb,cq,g1,rfl,g3,g4⟩:=hC.at hc
 have hcell:=nm hg sz g1
 rw [Nat.zero_add] at g3 g4
 unfold fq at g3
 rw [hl] at g3
 obtain ⟨us,DL,bd,zk,KQ,E2,rfl⟩:∃ us,0<k'∧c.w.ownsRow 0 e' k' w ys.length (flat us)∧aC c ys us∧(∀ u ∈ us,u.cells.size=k'∧∀ y ∈ u.cells,y.oneCell'=true)∧LV.bj ys=true∧cb=w.ownBlock.toList:=by
  rcases g3 with ⟨h,_⟩ | ⟨UD,us,h,q0,q1,q2,q3,q4,q5⟩
  ·cases h
  ·cases h; exact ⟨us,q0,q1,q2,q3,q4,q5⟩
 have dD:(Instr.loadAt t (a.eval x)).run P c.w=.ok w c.w:=by
  rw [he]
  exact (fW (cs:=[.eB]) (vs:=[w]) (c:=c) ht (by simp [aC,au]) (fun j v hj=>by
   cases j with
   | zero=>simp at hj; subst hj; simpa using hcell
   | succ j=>simp at hj)).2 ha w [] rfl
 have vz:=hM.fresh bC
 have ox:∀ b,b ∈ bp++((cp++([]++cq))++bq)→b ∈ bp++((cp++(w.ownBlock.toList++cq))++bq):=fun b hb=>by
  simp only [List.mem_append,List.nil_append] at hb ⊢
  rcases hb with h | (h | h) | h <;> simp [h]
 have ou:(bp++((cp++([]++cq))++bq)).Nodup:=by
  refine List.Nodup.sublist ?_ hnd
  refine List.Sublist.append (List.Sublist.refl _) (List.Sublist.append (List.Sublist.append (List.Sublist.refl _) ?_) (List.Sublist.refl _))
  exact List.Sublist.append (List.nil_sublist _) (List.Sublist.refl _)
 have pq:ws.set o0 w=ws:=by
  obtain ⟨dN,hw⟩:=List.getElem?_eq_some_iff.1 g1
  rw [← hw]; exact List.set_getElem_self dN
 obtain ⟨c',hw,Q9,Mz,h2,h3⟩:=hM.Io (pr:=pr) id id2 ep (.cU e0 k os (xs.set i (.agg (cs.set o0 .eB))) i o0 id2 ys.length) (.arr e' k' ys) (.arr (.slice (some ⟨g,0,.none⟩) xs.length cap) k xs.length (bp++((cp++([]++cq))++bq))) (.arr w k' ys.length []) c.w rfl rfl rfl (Nat.le_refl _) (Nat.le_refl _)
  (fun b _ _ _=>rfl)
  (fun b hb=>by
   rcases hb with hb | hb
   ·rcases hb with hb | hb
    ·exact .inl ⟨_,hB,.inl hb⟩
    ·exact .inl ⟨_,hB,.inr (ox b hb)⟩
   ·rcases hb with hb | hb
    ·exact .inl ⟨_,hB,.inr (by simp [hb])⟩
    ·cases hb)
  (fun b hb cL=>by
   have ED:w.ownBlock=some b:=by
    rcases cL with h | h
    ·exact h
    ·cases h
   rcases hb with hb | hb
   ·have:g=b:=by simpa [Value.ownBlock] using hb
    subst this
    exact qA (by simp [ED])
   ·have n1:=List.nodup_append.1 hnd
    have n2:=List.nodup_append.1 n1.2.1
    have n3:=List.nodup_append.1 n2.1
    have n4:=List.nodup_append.1 n3.2.1
    have DK:b ∈ w.ownBlock.toList:=by simp [ED]
    simp only [List.mem_append,List.nil_append] at hb
    rcases hb with h | (h | h) | h
    ·exact n1.2.2 b h b (by simp [ED]) rfl
    ·exact n3.2.2 b h b (by simp [ED]) rfl
    ·exact n4.2.2 b DK b h rfl
    ·exact n2.2.2 b (by simp [ED]) b h rfl)
  (by rw [hB]; exact ⟨_,_,_,rfl,Nat.le_refl _,fun _=>rfl⟩) (by rw [vz]; trivial) (fun _ di h0=>by rw [hB] at h0; cases h0; exact ⟨_,_,_,rfl,Nat.le_refl _,fun _=>rfl⟩) (fun _ di h0=>by rw [vz] at h0; cases h0)
  (fun c' hw hle dw cL=>by
   refine FF (g:=g) (v:=w) ?_ rfl (by rw [hw]; exact hcell) (by
    simp only [au]
    refine ⟨?_,_,_,_,_,cL,Nat.le_refl _,fun _=>rfl⟩
    obtain ⟨ad,Mx,Fj⟩:=du bd
    rw [Fj]; rfl)
   refine oo c' _ (.agg ws.toArray) _ hle ?_ (fun q _=>by rw [hw]) By kz ⟨_,ws,rfl,rfl,?_⟩ ou (fun h=>qA (by
    simp only [List.mem_append,List.nil_append] at h ⊢
    rcases h with h | h <;> simp [h]))
   ·rw [hw,hg]
    congr 2
    apply Array.toList_inj.1
    simp only [List.toList_toArray]
    rw [← tP,← List.drop_drop,List.append_assoc,List.take_append_drop,List.take_append_drop]
   ·have:=g4 (c':=c') (x':=.eB) (w':=w) (b':=[]) hle (fun r _=>by rw [hw]) (by unfold fq; rw [hl]; exact .inl ⟨rfl,rfl⟩)
    rw [pq] at this
    exact this)
  (fun c' hw hle dw=>by
   simp only [br]
   exact ⟨w,us,rfl,DL,by rw [hw]; exact bd,aC.mono hle ys us (fun j hj=>by rw [ay ys E2] at hj; cases hj) zk,KQ,E2⟩)
 refine ⟨w,c',by rw [hw]; simp [execOp,dD],?_,h2,h3⟩
 simp only [au]
 refine ⟨?_,_,_,_,_,Mz,Nat.le_refl _,fun _=>rfl⟩
 obtain ⟨ad,Mx,Fj⟩:=du bd
 rw [Fj]; rfl
theorem bU.unlink {c:Cx} (hM:bU c m) {n2:Nat} (hm:m id=some (.cU e0 k os xs i o0 id2 n2)) (hz:xs[i]?=some (.agg cs)) (hc:cs[o0]?=some .eB) (hl:os.lookup o0=some (e',k')) (jc:m id2=some (.arr e' k' ys)) (HC:n2=ys.length) (sI:¬ pr id2) :
  ∃ c':Cx,c'.w=c.w∧bU c' ((m.put id (.nest e0 k os (xs.set i (.agg (cs.set o0 (.ak k' ys)))))).put id2 .dead)∧Step pr c c':=by
 have ep:id ≠ id2:=fun h=>by rw [h,jc] at hm; cases hm
 have IH:=hM.gr id
 rw [hm] at IH
 obtain ⟨im,uL,Wj,gL,y0,Uf,Vd,TR,oX⟩:=FG IH
 obtain ⟨us,vz,DL,bd,zk,KQ,E2⟩:=gf hM oX jc HC
 obtain ⟨g,cap,cur,v,bp,bs,bq,hB,hg,hcs,kf,hk,By,kz,tP,q9,hnd,qA,oo⟩:=pB im hz
 obtain ⟨dr,ws,h1,rfl,hC⟩:=q9
 cases h1
 have BA:ws.length=k:=by simpa [Value.cells] using By
 have sz:(cur.toList.drop (i * k)).take k=ws:=by simpa [Value.cells] using tP
 obtain ⟨w0,cp,cb,cq,g1,rfl,g3,g4⟩:=hC.at hc
 rw [Nat.zero_add] at g3 g4
 have MN:cb=[]:=by
  unfold fq at g3
  rw [hl] at g3
  rcases g3 with ⟨_,h⟩ | ⟨_,_,h,_⟩
  ·exact h
  ·cases h
 subst MN
 have VP:w0=y0:=by
  have hcell:=nm hg sz g1
  rw [hB] at Uf
  cases Uf
  have:g=gL:=by simpa [Value.ownBlock] using Vd
  subst this
  rw [hcell] at TR
  exact Option.some.inj TR
 subst VP
 have gv:o0<k:=by rw [← BA]; exact (List.getElem?_eq_some_iff.1 g1).1
 have hi:i<xs.length:=(List.getElem?_eq_some_iff.1 hz).1
 have Kj:i * k+k≤cur.size:=by
  have h1:=Nat.mul_le_mul_right k (show i+1≤cap by omega)
  rw [Nat.add_mul,Nat.one_mul] at h1; omega
 have ue:(w0).oneCell'=true:=by
  obtain ⟨ad,Mx,Fj⟩:=du bd
  rw [Fj]; rfl
 have pq:ws.set o0 w0=ws:=by
  obtain ⟨dN,hw⟩:=List.getElem?_eq_some_iff.1 g1
  rw [← hw]; exact List.set_getElem_self dN
 -- the block of the slice is not one of the P0
 have oq:∀ b,(w0).ownBlock=some b→b ≠ g∧b ∉ bp++((cp++([]++cq))++bq):=fun b hb=>by
  constructor
  ·intro Cr
   exact ep (hM.inj id id2 _ _ b hB vz (.inl (by rw [Cr]; rfl)) (.inl hb))
  ·intro DK
   exact ep (hM.inj id id2 _ _ b hB vz (.inr DK) (.inl hb))
 have ou:(bp++((cp++((w0).ownBlock.toList++cq))++bq)).Nodup:=by
  cases hb:(w0).ownBlock with
  | none=>simpa [hb] using hnd
  | some b =>
   have hf:=(oq b hb).2
   have hp:(bp++((cp++((some b).toList++cq))++bq)).Perm (b :: (bp++((cp++([]++cq))++bq))):=by
    simp only [Option.toList_some,List.singleton_append,List.nil_append]
    refine (List.Perm.append_left bp ?_).trans (List.perm_middle)
    rw [List.append_assoc,List.append_assoc,List.cons_append]
    exact List.perm_middle
   exact hp.nodup_iff.2 (List.nodup_cons.2 ⟨hf,hnd⟩)
 obtain ⟨c',hw,Q9,Mz,h2,h3⟩:=hM.Io (pr:=pr) id id2 ep (.nest e0 k os (xs.set i (.agg (cs.set o0 (.ak k' ys))))) .dead (.arr (.slice (some ⟨g,0,.none⟩) xs.length cap) k xs.length (bp++((cp++((w0).ownBlock.toList++cq))++bq))) (.arr (.slice .none 0 0) k' (ys.length+1) []) c.w rfl rfl rfl (Nat.le_refl _) (Nat.le_refl _)
  (fun b _ _ _=>rfl)
  (fun b hb=>by
   rcases hb with hb | hb
   ·rcases hb with hb | hb
    ·exact .inl ⟨_,hB,.inl hb⟩
    ·simp only [List.mem_append,Option.mem_toList] at hb
     rcases hb with h | (h | h | h) | h
     ·exact .inl ⟨_,hB,.inr (by simp [h])⟩
     ·exact .inl ⟨_,hB,.inr (by simp [h])⟩
     ·exact .inr (.inl ⟨_,vz,.inl h⟩)
     ·exact .inl ⟨_,hB,.inr (by simp [h])⟩
     ·exact .inl ⟨_,hB,.inr (by simp [h])⟩
   ·rcases hb with hb | hb
    ·simp [Value.ownBlock] at hb
    ·cases hb)
  (fun b _ cL=>by
   rcases cL with hb | hb
   ·simp [Value.ownBlock] at hb
   ·cases hb)
  (by rw [hB]; exact ⟨_,_,_,rfl,Nat.le_refl _,fun _=>rfl⟩) (by rw [vz]; exact ⟨_,_,_,rfl,by omega,fun h=>by omega⟩) (fun _ di h0=>by rw [hB] at h0; cases h0; exact ⟨_,_,_,rfl,Nat.le_refl _,fun _=>rfl⟩) (fun h=>absurd h sI)
  (fun c' hw hle dw _=>by
   have Af:∀ b,b ≠ g→c'.w.heap[b]?=c.w.heap[b]?:=fun b _=>by rw [hw]
   refine oo c' _ (.agg (ws.set o0 (w0)).toArray) _ hle (by
    rw [hw,hg,pq]
    congr 2
    apply Array.toList_inj.1
    simp only [List.toList_toArray]
    rw [← tP,← List.drop_drop,List.append_assoc,List.take_append_drop,List.take_append_drop]) (fun q hq=>Af q (fun Nk=>qA (by rw [← Nk]; simp at hq ⊢; rcases hq with h | h <;> simp [h]))) (by simp [Value.cells,BA]) (fun q hq=>by
    simp only [Value.cells] at hq kz
    have oW:q ∈ ws.set o0 (w0):=by simpa using hq
    rcases List.mem_or_eq_of_mem_set oW with h | h
    ·exact kz q (by simpa using h)
    ·rw [h]; exact ue) ⟨_,_,rfl,rfl,?_⟩ ou (fun h=>?_)
   ·refine g4 (c':=c') (x':=.ak k' ys) (w':=w0) (b':=(w0).ownBlock.toList) hle (fun r hr=>Af r (fun Nn=>qA (by rw [← Nn]; simp at hr ⊢; rcases hr with h | h <;> simp [h]))) ?_
    unfold fq
    rw [hl]
    exact .inr ⟨ys,us,rfl,DL,dF bd (fun b hb=>Af b (oq b hb).1),aC.mono hle ys us (fun j hj=>by rw [ay ys E2] at hj; cases hj) zk,KQ,E2,rfl⟩
   ·simp only [List.mem_append,Option.mem_toList] at h
    rcases h with h | h | h
    ·exact qA (by simp [h])
    ·exact (oq g h).1 rfl
    ·exact qA (by simp [h]))
  (fun c' hw hle dw=>by simp only [br]; exact ⟨_,_,_,rfl,rfl⟩)
 exact ⟨c',hw,h2,h3⟩
theorem Wk.unlink {e:Env} {n2:Nat} (hm:m id=some (.cU e0 k os xs i o0 id2 n2)) (hz:xs[i]?=some (.agg cs)) (hc:cs[o0]?=some .eB) (hl:os.lookup o0=some (e',k')) (jc:m id2=some (.arr e' k' ys)) (HC:n2=ys.length) (sI:¬ pr id2) :
  Wk pr e m e ((m.put id (.nest e0 k os (xs.set i (.agg (cs.set o0 (.ak k' ys)))))).put id2 .dead):=by
 intro N c a bQ
 obtain ⟨c',hw,h2,h3⟩:=bQ.mem.unlink (pr:=pr) hm hz hc hl jc HC sI
 exact ⟨c',hw,⟨fun i=>h3.wg (bQ.env i),h2,bQ.size,bQ.defers⟩,h3.grow⟩
end
end Go.L
namespace Go.L
theorem aP.OT {P:Program} {f:Nat} {args gk:List LV} {ml dg:List (Nat × LE)} {r:LV} (id e k:Nat) (os:List (Nat × Nat × Nat)) {xs:List LV} (hp:LV.bj xs=true) (h:aP P f gk (Mem.of ml) r (Mem.of dg)) (ha:o2 id k xs args gk)
  (h1:Mem.of ml id=.none) (h2:Mem.of dg id=.none) (jX:su id ml=true) (hr:r.kA=true) (Sk:r.a7 id=true) (tQ:zE id dg) (vI:Mem.of ml dj=.none:=by exact rfl) :
  aP P f args (Mem.of ((id,.nest e k os xs) :: ml)) r (Mem.of ((id,.nest e k os xs) :: dg)):=by
 intro c vs hm hargs
 have bC:Mem.of ((id,LE.nest e k os xs) :: ml) id=some (.nest e k os xs):=by simp [Mem.of]
 have im:=hm.gr id
 rw [bC] at im
 simp only [br] at im
 obtain ⟨u,us,bs,hB,hk,bd,hn,hc,hnd,RR⟩:=im
 have pe:∀ i le,i ≠ id→Mem.of ((id,LE.nest e k os xs) :: ml) i=some le→le.kN id=true:=fun i cs hi xl=>by
  simp only [Mem.of,hi,if_false] at xl
  exact mr jX i cs hi xl
 obtain ⟨c1,hw,hO,iv,hV,gP,hX,Ht⟩:=hm.del id pe
 have Ke:(Mem.of ((id,LE.nest e k os xs) :: ml)).del id=Mem.of ml:=by
  funext i
  unfold Mem.del
  by_cases hi:i=id
  ·subst hi; simp [h1]
  ·simp [hi,Mem.of]
 rw [Ke] at iv
 have ES:c.Le c1:=Cx.sub_le hw hO gP
 have hR:∀ v,au c (.arr id xs.length) v→au c1 (.ak k xs) v:=by
  intro v hv
  have QF:v=u:=by
   simp only [au] at hv
   obtain ⟨_,u',k',k8,k7,iq,_,hv⟩:=hv
   rw [hB] at iq; cases iq
   exact hv rfl
  subst QF
  simp only [au]
  have Kl:aC c1 xs us:=hn.zP ES hw (fun b hb=>hX b _ hB (.inr hb))
  rcases bd.2 with ⟨rfl,h0⟩ | ⟨g,cap,cur,rfl,_,hg,kf,_⟩
  ·exact ⟨.none,0,by rw [h0],by omega,fun _=>rfl,hp,.inl (List.eq_nil_of_length_eq_zero h0)⟩
  ·refine ⟨some ⟨g,0,.none⟩,cap,rfl,kf,by simp,hp,.inr ⟨g,0,us,rfl,by rw [hw]; exact (Array.getElem?_eq_some_iff.1 hg).1,hX g _ hB (.inl rfl),Kl,hc,?_⟩⟩
   rw [hw]; exact cR bd rfl
 have nP:=h c1 vs iv (ha.rep hV hR hargs)
 rw [hw] at nP
 refine nP.mono ?_
 rintro en w' ⟨v,c2,rfl,rfl,jc,wE,hg⟩
 have vz:c2.B id=.none:=jc.fresh h2
 have CH:¬ (fun i=>Mem.of ml i ≠ .none) dj:=fun h'=>h' vI
 have lI:gM c c2:=fun b n hb=>by
  have:=hg.keeps CH iv b n (by rw [hO.2]; exact hb)
  rw [hw] at this; exact this
 -- the block of the row
 have hblk:∀ b,(u.ownBlock=some b ∨ b ∈ bs)→b<c.w.heap.size∧c2.w.heap[b]?=c.w.heap[b]?∧¬ c2.own b∧¬ c2.O b:=by
  intro b hb
  have dN:=(hm.gr id).lt hB (show (BE.arr u k xs.length bs).has b from hb)
  have Nf:¬ c1.X b:=hX b _ hB hb
  have km:¬ c1.own b:=fun ho=>Nf (.inr ho)
  refine ⟨dN,?_,?_,?_⟩
  ·have:=hg.jr b (by rw [hw]; exact dN) km (.inr CH); rw [hw] at this; exact this
  ·intro ho
   rcases hg.own b ho with h' | h'
   ·exact km h'
   ·rw [hw] at h'; omega
  ·rw [hg.O]; exact fun ho=>Nf (.inl (.inl ho))
 let c3:Cx:=⟨c2.w,fun i=>if i=id then c.B id else c2.B i,c2.O,c2.Q⟩
 have vA:∀ i,i ≠ id→c3.B i=c2.B i:=fun i hi=>by simp [c3,hi]
 have sw:c3.B id=c.B id:=by simp [c3]
 have pk:∀ b,c3.own b→c2.own b ∨ (u.ownBlock=some b ∨ b ∈ bs):=by
  rintro b ⟨i,be,g1,g2⟩
  by_cases hi:i=id
  ·subst hi; rw [sw,hB] at g1; cases g1; exact .inr g2
  ·rw [vA i hi] at g1; exact .inl ⟨i,be,g1,g2⟩
 have MJ:c3.O=c.O:=by show c2.O=c.O; rw [hg.O,hO.1]
 have ET:c.Le c3:=by
  refine ⟨by have:=hg.size; rw [hw] at this; exact this,fun b hb hx=>⟨?_,?_⟩,lI⟩
  ·have:=hg.jr b (by rw [hw]; exact hb) (fun ho=>hx (.inr (gP b ho))) (.inr CH); rw [hw] at this; exact this
  ·rintro ((ho | ho) | ho)
   ·rw [MJ] at ho; exact hx (.inl (.inl ho))
   ·rcases hg.qn b ho with h' | h' | h'
    ·rw [hO.2] at h'; exact hx (.inl (.inr h'))
    ·exact hx (.inr (gP b h'))
    ·rw [hw] at h'; omega
   ·rcases pk b ho with h' | h'
    ·rcases hg.own b h' with xa | xa
     ·exact hx (.inr (gP b xa))
     ·rw [hw] at xa; omega
    ·exact hx (.inr ⟨id,_,hB,h'⟩)
 have RU:∀ b,c3.Q b ≠ .none→¬ c3.O b∧¬ c3.own b∧b<c3.w.heap.size:=fun b hb=>by
  refine ⟨(jc.cN b hb).1,fun ho=>?_,(jc.cN b hb).2.2⟩
  rcases pk b ho with h' | h'
  ·exact (jc.cN b hb).2.1 h'
  ·rcases hg.qn b hb with q | q | q
   ·rw [hO.2] at q; exact (hm.cN b q).2.1 ⟨id,_,hB,h'⟩
   ·exact hX b _ hB h' (.inr q)
   ·have:=(hblk b h').1; rw [hw] at q; omega
 refine ⟨v,c3,rfl,rfl,⟨fun i=>?_,?_,?_,?_,RU⟩,?_,?_⟩
 ·by_cases hi:i=id
  ·subst hi
   rw [sw,hB]
   simp only [Mem.of,if_true,br]
   exact ⟨u,us,bs,rfl,hk,dF bd (fun b hb=>(hblk b (.inl hb)).2.1),hn.mono ET (fun b hb=>(hblk b (.inr hb)).2.1),hc,hnd,RR⟩
  ·rw [vA i hi]
   simp only [Mem.of,hi,if_false]
   have he:=jc.gr i
   cases xl:Mem.of dg i with
   | none=>rw [xl] at he; simpa only [br] using he
   | some le=>rw [xl] at he; exact br.je (c:=c2) (c':=c3) rfl vA (tQ i le xl) he
 ·intro i j be ey b g1 g2 g3 g4
  by_cases hi:i=id
  ·by_cases hj:j=id
   ·rw [hi,hj]
   ·subst hi
    rw [sw,hB] at g1; cases g1
    rw [vA j hj] at g2
    exact absurd ⟨j,ey,g2,g4⟩ (hblk b g3).2.2.1
  ·by_cases hj:j=id
   ·subst hj
    rw [sw,hB] at g2; cases g2
    rw [vA i hi] at g1
    exact absurd ⟨i,be,g1,g3⟩ (hblk b g4).2.2.1
   ·rw [vA i hi] at g1; rw [vA j hj] at g2
    exact jc.inj i j be ey b g1 g2 g3 g4
 ·intro b ho
  rcases pk b ho with h' | h'
  ·exact jc.jG b h'
  ·exact (hblk b h').2.2.2
 ·intro b ho; exact jc.o3 b ho
 ·exact au.je r v hr (fun i hi=>vA i (fun he=>by subst he; rw [Sk] at hi; cases hi)) wE
 ·refine ⟨MJ,?_,?_,?_,?_,?_,?_,fun _ b n hb=>(lI b n hb).2,fun b hb=>?_,?_,?_⟩
  ·have:=hg.os; rw [hw] at this; exact this
  ·have:=hg.tape; rw [hw] at this; exact this
  ·have:=hg.output; rw [hw] at this; exact this
  ·have:=hg.drawn; rw [hw] at this; exact this
  ·have:=hg.size; rw [hw] at this; exact this
  ·intro b hb ho _
   have:=hg.jr b (by rw [hw]; exact hb) (fun rb=>ho (gP b rb)) (.inr CH); rw [hw] at this; exact this
  ·rcases hg.qn b hb with q | q | q
   ·rw [hO.2] at q; exact .inl q
   ·exact .inr (.inl (gP b q))
   ·rw [hw] at q; exact .inr (.inr q)
  ·intro b ho
   rcases pk b ho with h' | h'
   ·rcases hg.own b h' with xa | xa
    ·exact .inl (gP b xa)
    ·rw [hw] at xa; exact .inr xa
   ·exact .inl ⟨id,_,hB,h'⟩
  ·intro i be Ai ML
   by_cases hi:i=id
   ·subst hi; exact ⟨be,by rw [sw]; exact ML,.refl be⟩
   ·rw [vA i hi]
    have JX:c1.B i=some be:=by rw [Ht i hi]; exact ML
    exact hg.AB i be (by simpa [Mem.of,hi] using Ai) JX
end Go.L
namespace Go.L
theorem Wk.Ly {pr:Nat→Prop} {el:List (Nat × LV)} {ml:List (Nat × LE)} (id e k:Nat) (os:List (Nat × Nat × Nat)) (kx j:Nat) {cs dr:List LV} (bC:Mem.of ml id=.none) (hk:Nat.ble 1 k=true) (hb:Mem.of ml kx=some (.box cs)) (hj:cs[j]?=some .nil) (hcs:cs.set j (.arr id 0)=dr) (lX:¬ pr id) :
  Wk pr (Env.of el) (Mem.of ml) (Env.of el) (((Mem.of ml).put id (.nest e k os [])).put kx (.box dr)):=by
 intro N c a bQ
 have ep:kx ≠ id:=fun h=>by rw [h,bC] at hb; cases hb
 have hB:=bQ.mem.fresh bC
 obtain ⟨c',hw,hT,h2,h3⟩:=bQ.mem.A9 (pr:=pr) id (.nest e k os []) (.arr (.slice .none 0 0) k 0 []) c.w rfl rfl rfl (Nat.le_refl _) (Nat.le_refl _)
  (fun b _ _=>rfl) (fun b hb=>by simp [BE.has,Value.ownBlock] at hb) (by rw [hB]; trivial) (fun h=>absurd h lX)
  (fun c' hw hle dw=>by
   simp only [br]
   exact ⟨.slice .none 0 0,[],[],rfl,Nat.le_of_ble_eq_true hk,by rw [hw]; exact World.ownsRow_nil c.w 0 e k,by simp [dJ],by simp,by simp,by simp [Value.ownBlock]⟩)
 have cL:((Mem.of ml).put id (.nest e k os [])) kx=some (.box cs):=by simp only [Mem.put,ep,if_false]; exact hb
 obtain ⟨b,vs,e1,zf,hh,hl,h1⟩:=iV h2 cL
 have iE:∀ (cs:List LV) (vs:List Value) (j:Nat),aC c' cs vs→cs[j]?=some .nil→aC c' (cs.set j (.arr id 0)) vs:=by
  intro cs
  induction cs with
  | nil=>intro vs j _ h; simp at h
  | cons x xs ih =>
   intro vs j hl hj
   simp only [aC] at hl
   obtain ⟨v,fH,rfl,hv,iD⟩:=hl
   cases j with
   | zero =>
    simp at hj; subst hj
    simp only [au] at hv
    simp only [List.set_cons_zero,aC]
    refine ⟨v,fH,rfl,?_,iD⟩
    simp only [au]
    exact ⟨by rw [hv]; rfl,_,_,_,_,hT,Nat.le_refl _,fun _=>hv⟩
   | succ j =>
    simp only [List.set_cons_succ,aC]
    exact ⟨v,fH,rfl,hv,ih fH j iD (by simpa using hj)⟩
 have jc:=h2.re (dr:=dr) cL zf hh (by rw [← hcs]; exact iE cs vs j hl hj) h1 (by rw [← hcs]; simp)
 exact ⟨c',hw,⟨fun i=>h3.wg (bQ.env i),jc,bQ.size,bQ.defers⟩,h3.grow⟩
theorem dJ.split {c:Cx} {os:List (Nat × Nat × Nat)}:∀ {i:Nat} {xs:List LV} {vs:List Value} {bs:List Nat},dJ c os xs vs bs→∃ b1 b2,bs=b1++b2∧dJ c os (xs.take i) (vs.take i) b1∧dJ c os (xs.drop i) (vs.drop i) b2
 | 0,xs,vs,bs,h=>⟨[],bs,rfl,by simp [dJ],by simpa using h⟩
 | i+1,[],vs,bs,h=>by
  simp only [dJ] at h
  obtain ⟨rfl,rfl⟩:=h
  exact ⟨[],[],rfl,by simp [dJ],by simp [dJ]⟩
 | i+1,x :: xs,vs,bs,h=>by
  simp only [dJ] at h
  obtain ⟨v,fH,b1,b2,rfl,rfl,h1,h2⟩:=h
  obtain ⟨c1,c2,rfl,h3,h4⟩:=dJ.split (i:=i) h2
  refine ⟨b1++c1,c2,by simp,?_,by simpa using h4⟩
  simp only [List.take_succ_cons,dJ]
  exact ⟨v,_,b1,c1,rfl,rfl,h1,h3⟩
theorem dJ.app {c:Cx} {os:List (Nat × Nat × Nat)}:∀ {xs ys:List LV} {vs us:List Value} {b1 b2:List Nat},dJ c os xs vs b1→dJ c os ys us b2→dJ c os (xs++ys) (vs++us) (b1++b2)
 | [],ys,vs,us,b1,b2,h,h'=>by
  simp only [dJ] at h
  obtain ⟨rfl,rfl⟩:=h
  simpa using h'
 | x :: xs,ys,vs,us,b1,b2,h,h'=>by
  simp only [dJ] at h
  obtain ⟨v,fH,c1,c2,rfl,rfl,h1,h2⟩:=h
  simp only [List.cons_append,dJ]
  exact ⟨v,fH++us,c1,c2++b2,rfl,by simp,h1,dJ.app h2 h'⟩
section
variable {P:Program} {N:Nat} {pr:Nat→Prop} {ev:Operand→LV} {m m':Mem} {d:Option Nat} {x y z:Operand} {t ty:TypeId} {pos:String} {af:Array Edge} {gd:Option (Nat × Bool)} {lv:LV} {α β:Type} {f:α→LV} {g:β→LV} {e0 k id n:Nat} {os:List (Nat × Nat × Nat)}
theorem Ln {d0 kk:Nat} {el:TypeId} {cs dr:List LV} {S:List Nat} (he:telem P t=some el) (ow:gy P el=true) (hk:tsize P el=kk) (KO:Nat.ble kk 16777216=true) (hx:ev x=.agg cs) (IM:cs.length=kk) (wC:cs.all LV.scalar=true) (bC:m id=.none) (pd:lR m os 0 cs dr S) (hS:S.Nodup) (Rp:∀ j ∈ S,¬ pr j) :
  bm P pr ⟨some d0,.buildSlice t 1 #[(0,x)],ty,pos,af,gd⟩ ev m (.arr id 1) (m.gone id (.nest el kk os [.agg dr]) S):=by
 subst hk
 have Nq:=Nat.le_of_ble_eq_true KO
 have hu:=fG he
 obtain ⟨i,zv,hi,DU,zm,DT,eY,DJ,qB⟩:=qa ow
 refine bm.value fun c a bw hM=>?_
 have pw:=bw x (by simp [Op.operands])
 rw [hx] at pw
 obtain ⟨DS,ue⟩:=pw.cellsOf (by simpa [LV.cells] using wC)
 simp only [au] at pw
 obtain ⟨ws,SR,zk⟩:=pw
 have BA:ws.length=i.size:=by rw [← zk.length,IM,qB]
 have CN:(a.eval x).cells.size=i.size:=by rw [SR]; simp [Value.cells,BA]
 have Cz:flat [a.eval x]=ws:=by rw [SR]; simp [flat,Value.cells]
 obtain ⟨cells,xf,xh⟩:∃ cells,Instr.fill (fun i'=>some (i' * i.size,i.size)) ((Array.range (1 * i.size)).map (zv.cells[· % zv.cells.size]!)) [(0,a.eval x)]=some cells∧cells.toList=flat [a.eval x]:=by
  obtain ⟨r,hr,Uc,No⟩:=Great.fill_dense eY [a.eval x] 0 ((Array.range (1 * i.size)).map (zv.cells[· % zv.cells.size]!)) (fun v hv=>by simp at hv; rw [hv]; exact CN) (by simp)
  refine ⟨r,by simpa using hr,?_⟩
  apply List.ext_getElem?
  intro j
  rw [flat_get eY (fun v hv=>by simp at hv; rw [hv]; exact CN),Array.getElem?_toList,No j]
  simp only [Nat.zero_mul,Nat.zero_le,true_and,Nat.zero_add,Nat.sub_zero,List.length_singleton]
  by_cases hj:j<1 * i.size
  ·rw [if_pos hj]
  ·rw [if_neg hj]
   have h1:¬ j / i.size<1:=fun hh=>hj ((Nat.div_lt_iff_lt_mul eY).1 hh)
   rw [List.getElem?_eq_none (by simp; omega:[a.eval x].length≤j / i.size)]
   simp; omega
 have om:cells=ws.toArray:=by rw [← Cz,← xh]
 subst om
 have dD:(execOp a.eval ⟨some d0,.buildSlice t 1 #[(0,x)],ty,pos,af,gd⟩).run P c.w=.ok (.value (.slice (some ⟨c.w.heap.size,0,.none⟩) 1 1)) (c.w.alloc (.cells ws.toArray el)):=by
  have hb:=run_buildSlice (P:=P) c.w t el 1 #[(0,a.eval x)] ws.toArray i zv hu hi DU (by rw [qB] at Nq; omega) (by omega) (by simpa using xf)
  simp [execOp,hb]
 have RL:id ∉ S:=fun h=>by
  obtain ⟨e,k',ys,h'⟩:=pd.ids id h
  rw [bC] at h'; cases h'
 have UZ:∀ j ∈ S,∃ u k len ins,c.B j=some (.arr u k len ins):=fun j hj=>by
  obtain ⟨e,k',ys,h'⟩:=pd.ids j hj
  have:=hM.gr j
  rw [h'] at this
  simp only [br] at this
  obtain ⟨u,vs,hb,_⟩:=this
  exact ⟨u,k',_,_,hb⟩
 have hold:∀ b ∈ jl c S,b<c.w.heap.size:=fun b hb=>by
  obtain ⟨j,hj,be,q1,q2⟩:=o6 hb
  exact (hM.gr j).lt q1 q2
 have hB:=hM.fresh bC
 have bd:(c.w.alloc (.cells ws.toArray el)).ownsRow 0 el i.size (.slice (some ⟨c.w.heap.size,0,.none⟩) 1 1) 1 (flat [a.eval x]):=by
  rw [Cz]
  exact ⟨by omega,.inr ⟨c.w.heap.size,1,ws.toArray,rfl,Nat.zero_le _,heap_alloc_new c.w _,Nat.le_refl _,by
   simp only [maxLen]; omega,by simp [BA],by rw [Nat.one_mul,← BA]; simp⟩⟩
 obtain ⟨c',hw,hb,h2,h3⟩:=hM.LQ (pr:=pr) id S RL UZ Rp (.nest el (tsize P el) os [.agg dr]) (.arr (.slice (some ⟨c.w.heap.size,0,.none⟩) 1 1) (tsize P el) 1 (jl c S)) (c.w.alloc (.cells ws.toArray el)) rfl rfl rfl (Nat.le_refl _) (by simp)
  (fun b hb _=>pn c.w _ b hb)
  (fun b hb=>by
   rcases hb with hb | hb
   ·simp [Value.ownBlock] at hb; exact .inr (.inr (by omega))
   ·exact .inr (.inl (o6 hb)))
  (by rw [hB]; trivial) (fun _ di h0=>by rw [hB] at h0; cases h0)
  (fun c' hw hle dw hO uF=>by
   simp only [br]
   refine ⟨_,[a.eval x],jl c S,rfl,by rw [qB]; exact eY,by rw [hw,qB]; exact bd,?_,fun v hv=>by simp at hv; subst hv; exact ⟨by rw [CN,qB],ue⟩,rZ hM hS,fun b hb cL=>?_⟩
   ·simp only [dJ]
    exact ⟨_,[],jl c S,[],rfl,by simp,⟨dr,ws,rfl,SR,pd.rep hM hle zk (fun b hb=>by rw [hw]; exact pn c.w _ b (hold b hb))⟩,rfl,rfl⟩
   ·simp [Value.ownBlock] at hb
    have:=hold b cL
    omega)
 refine ⟨_,c',by rw [hw]; exact dD,?_,h2,h3⟩
 simp only [au]
 exact ⟨rfl,_,_,_,_,hb,Nat.le_refl _,fun _=>rfl⟩
theorem HX {ff id2:Nat} {ts:Array TypeId} {xs r:List α} {z0:α} {i:Int}
  (hf : ∃ fn, P.funcs[ff]? = some fn ∧ (fn.name == "runtime.NumGoroutine") = false ∧ fn.body.isNone = false) (W : Mr P ff e0 k) (hx : ev x = .arr id xs.length) (bC : m id = some (.nest e0 k os (xs.map f))) (hy : ev y = .int .i64 i) (hz : ev z = .arr id2 1) (RK : m id2 = some (.nest e0 k os ([z0].map f))) (ep : id2 ≠ id) (lX : ¬ pr id2) (hi : HO xs i z0 = some r) :
  bm P pr ⟨d,.call ⟨.value (.func ff),#[x,y,z],ts⟩,ty,pos,af,gd⟩ ev m (.arr id r.length) (m.gone id (.nest e0 k os (r.map f)) [id2]):=by
 unfold HO at hi
 split at hi
 ·rename_i hb
  obtain rfl:=Option.some.inj hi
  intro c a Q bw hM
  have h1:=bw x (by simp [Op.operands,Call.operands])
  have h2:=bw y (by simp [Op.operands,Call.operands])
  have h3:=bw z (by simp [Op.operands,Call.operands])
  rw [hx] at h1; rw [hy] at h2; rw [hz] at h3
  have im:=hM.gr id
  rw [bC] at im
  simp only [br] at im
  obtain ⟨u,vs,bs,hB,hk,bd,hn,hc,hnd,km⟩:=im
  have xe:=hM.gr id2
  rw [RK] at xe
  simp only [br] at xe
  obtain ⟨u2,zs,bz,L7,_,Nh,Vw,TU,RT,Vt⟩:=xe
  simp only [au] at h1 h2 h3
  obtain ⟨_,u',k',k8,k7,iq,xk,kz⟩:=h1
  rw [hB] at iq; cases iq
  have kz:=kz (by simp)
  obtain ⟨_,u',k',k8,k7,iq,T5,Nz⟩:=h3
  rw [L7] at iq; cases iq
  have Nz:=Nz (by simp)
  unfold Oper.wp
  rw [JP hf a c.w]
  simp only [Oper.upon]
  have gV:a.eval y=.int .i64 ((i.toNat:Nat):Int):=by rw [h2,Int.toNat_of_nonneg hb.1]
  have e1:(#[x,y,z]:Array Operand).map a.eval=#[u,.int .i64 ((i.toNat:Nat):Int),u2]:=by simp [gV,kz,Nz]
  rw [e1]
  have NT:∀ b,b ∈ bz ∨ u2.ownBlock=some b→b ∉ bs∧u.ownBlock ≠ some b:=fun b hb=>⟨fun h=>ep (hM.inj id2 id _ _ b L7 hB (hb.elim .inr .inl) (.inr h)),fun h=>ep (hM.inj id2 id _ _ b L7 hB (hb.elim .inr .inl) (.inl h))⟩
  have nh:vs.length=xs.length:=by have:=hn.length; simpa using this.symm
  have:=W u xs.length i.toNat (flat vs) u2 (flat zs) c.w (by simpa using bd) (ss fun v hv=>(hc v hv).2) (by omega) hb.2.2 (by simpa using Nh) (ss fun v hv=>(TU v hv).2) (fun b JX=>(NT b (.inr JX)).2)
  refine this.mono ?_
  rintro en w' ⟨u',rfl,hr⟩
  have e2:((xs.take i.toNat++[z0]++xs.drop i.toNat).map f).length=xs.length+1:=by simp; omega
  have e3:(xs.take i.toNat++[z0]++xs.drop i.toNat).length=xs.length+1:=by simp; omega
  obtain ⟨b1,b2,rfl,n1,n2⟩:=hn.split (i:=i.toNat)
  have Nb:∀ b,b ∈ b1++b2 ∨ b ∈ bz→b<c.w.heap.size:=fun b hb=>hb.elim (fun h=>(hM.gr id).lt hB (.inr h)) (fun h=>(hM.gr id2).lt L7 (.inr h))
  have pq:∀ b,b ∈ b1++b2 ∨ b ∈ bz→w'.heap[b]?=c.w.heap[b]?:=fun b hb=>hr.grown.block b (Nb b hb) (fun h=>by
   rcases hb with hb | hb
   ·exact km b h.symm hb
   ·exact (NT b (.inl hb)).2 h.symm)
  obtain ⟨c',hw,eb,jc,ko⟩:=hM.LQ (pr:=pr) id [id2] (by simp; exact fun h=>ep h.symm) (fun j hj=>by simp at hj; subst hj; exact ⟨_,_,_,_,L7⟩) (fun j hj=>by simp at hj; subst hj; exact lX) (.nest e0 k os ((xs.take i.toNat++[z0]++xs.drop i.toNat).map f)) (.arr u' k (xs.length+1) (b1++bz++b2)) w' hr.grown.os hr.grown.tape hr.grown.output hr.drawn hr.grown.size
   (fun b hb ep=>hr.grown.block b hb (fun hh=>ep _ hB (.inl hh.symm)))
   (fun b hb=>by
    rcases hb with hb | hb
    ·exact (hr.mY b hb).imp (fun h=>⟨_,hB,.inl h⟩) (fun h=>.inr h)
    ·simp only [List.mem_append] at hb
     rcases hb with (h | h) | h
     ·exact .inl ⟨_,hB,.inr (by simp [h])⟩
     ·exact .inr (.inl ⟨id2,by simp,_,L7,.inr h⟩)
     ·exact .inl ⟨_,hB,.inr (by simp [h])⟩)
   (by rw [hB]; exact ⟨_,_,_,rfl,by simp,fun h=>by simp at h⟩)
   (fun _ di h0=>by rw [hB] at h0; cases h0; exact ⟨_,_,_,rfl,by simp,fun h=>by simp at h⟩)
   (fun c' hw hle dw hO uF=>by
    simp only [br]
    refine ⟨u',vs.take i.toNat++zs++vs.drop i.toNat,b1++bz++b2,by rw [e2],hk,?_,?_,?_,?_,?_⟩
    ·have h4:=hr.own
     rw [uC (fun v hv=>(hc v hv).1),uB (fun v hv=>(hc v hv).1),← eD,← eD] at h4
     rw [e2,hw]; exact h4
    ·rw [List.map_append,List.map_append,List.map_take,List.map_drop]
     exact ((n1.mono hle (fun b hb=>by rw [hw]; exact pq b (.inl (by simp [hb])))).app (Vw.mono hle (fun b hb=>by rw [hw]; exact pq b (.inr hb)))).app (n2.mono hle (fun b hb=>by rw [hw]; exact pq b (.inl (by simp [hb]))))
    ·intro v hv
     rcases List.mem_append.1 hv with hv | hv
     ·rcases List.mem_append.1 hv with hv | hv
      ·exact hc v (List.mem_of_mem_take hv)
      ·exact TU v hv
     ·exact hc v (List.mem_of_mem_drop hv)
    ·have q:=List.nodup_append.1 hnd
     rw [List.append_assoc,List.nodup_append]
     refine ⟨q.1,?_,?_⟩
     ·rw [List.nodup_append]
      exact ⟨RT,q.2.1,fun p hp p' Ag QE=>(NT p (.inl hp)).1 (by rw [QE]; simp [Ag])⟩
     ·intro p hp p' Ag QE
      rcases List.mem_append.1 Ag with h | h
      ·exact (NT p' (.inl h)).1 (by rw [← QE]; simp [hp])
      ·exact q.2.2 p hp p' h QE
    ·intro b hb qz
     have Hx:b ∈ b1++b2 ∨ b ∈ bz:=by
      simp only [List.mem_append] at qz ⊢
      rcases qz with (h | h) | h
      ·exact .inl (.inl h)
      ·exact .inr h
      ·exact .inl (.inr h)
     rcases hr.mY b hb with h | h
     ·rcases Hx with q | q
      ·exact km b h q
      ·exact (NT b (.inl q)).2 h
     ·have:=Nb b Hx
      omega)
  refine ⟨u',c',rfl,hw,?_,jc,ko⟩
  rw [e3]
  simp only [au]
  refine ⟨?_,_,_,_,_,eb,Nat.le_refl _,fun _=>rfl⟩
  rcases hr.own.2 with ⟨rfl,_⟩ | ⟨g,cap,cur,rfl,_⟩ <;> rfl
 ·cases hi
theorem qT.fresh {o:Oper} {ids:List Nat} {i:Nat} {le:LE} (EL:ids=[i]) (hm:m i=.none) (h:∀ m0:Mem,m0 i=.none→bm P pr o ev m0 lv (m0.put i le)):qT P pr o ev ids m lv (m.put i le):=by
 subst EL
 refine ⟨fun j hj=>by simp at hj; simp [Mem.put,hj],fun m0 ph=>?_⟩
 have:=h m0 (by rw [ph i (by simp)]; exact hm)
 refine Eq.mp (congrArg _ ?_) this
 funext j
 by_cases hj:j=i <;> simp [Mem.put,hj]
theorem qT.gone {o:Oper} {ids:List Nat} {i:Nat} {le:LE} {S:List Nat} (IJ:ids=i :: S) (h:∀ m0:Mem,(∀ j,j ∈ i :: S→m0 j=m j)→bm P pr o ev m0 lv (m0.gone i le S)):qT P pr o ev ids m lv (m.gone i le S):=by
 have EL:∀ j,j ∈ ids ↔ (j=i ∨ j ∈ S):=fun j=>by rw [IJ]; simp
 refine ⟨fun j hj=>?_,fun m0 ph=>?_⟩
 ·rw [EL] at hj
  simp only [not_or] at hj
  simp [Mem.gone,hj.1,hj.2]
 ·refine Eq.mp (congrArg _ ?_) (h m0 (fun j hj=>ph j (by rw [IJ]; exact hj)))
  funext j
  by_cases hj:j ∈ ids
  ·simp only [hj,if_true]
   rw [EL] at hj
   simp only [Mem.gone]
   rcases hj with hj | hj
   ·simp [hj]
   ·by_cases h1:j=i <;> simp [h1,hj]
  ·simp only [hj,if_false]
   rw [EL] at hj
   simp only [not_or] at hj
   simp [Mem.gone,hj.1,hj.2]
end
end Go.L
namespace Go.L
def rk (id n:Nat):Option Int→LV
 | .none=>.fe
 | some j=>.bE id n j.toNat 0
def pF {β:Type} (r:Option Int) (a:Option β) (b:Int→Option β):Option β:=match r with | .none=>a | some j=>b j
theorem FU {β:Type} {a:Option β} {b:Int→Option β} {r:β} (h:pF .none a b=some r):a=some r:=h
theorem FV {β:Type} {j:Int} {a:Option β} {b:Int→Option β} {r:β} (h:pF (some j) a b=some r):b j=some r:=h
def fI (P:Program) (t:TypeId):Bool:=match P.underlying t with | some (.pointer _)=>true | _=>false
section
variable {P:Program} {N:Nat} {pr:Nat→Prop} {ev:Operand→LV} {m m':Mem} {d:Option Nat} {x y z:Operand} {t t' ty:TypeId} {pos:String} {af:Array Edge} {gd:Option (Nat × Bool)} {lv:LV} {α β:Type} {f:α→LV} {g:β→LV} {e0 k id n i o0:Nat} {os:List (Nat × Nat × Nat)} {xs cs:List LV}
theorem lP (w:World) (dd:Nat) (h:fI P t=true) (p:Option Addr):(Op.equalIn (dd+1) t (.pointer p) (.pointer .none)).run P w=.ok p.isNone w:=by
 unfold fI at h
 split at h
 ·rename_i e hu
  cases p <;> simp [Op.equalIn,run_underlying hu]
 ·cases h
theorem tc (ht:fI P t=true) (hx:ev x=.fe) (hy:ev y=.fe):bm P pr ⟨d,.binOp .eql t x y t',ty,pos,af,gd⟩ ev m (.bool true) m:=by
 refine bm.value fun c a bw hM=>?_
 have h1:=bw x (by simp [Op.operands])
 have h2:=bw y (by simp [Op.operands])
 rw [hx] at h1; rw [hy] at h2
 simp only [au] at h1 h2
 have heq:=fun w=>lP (P:=P) (t:=t) w 9999 ht .none
 refine ⟨.bool true,c,?_,by simp [au],hM,Step.refl pr c⟩
 simp [execOp,h1,h2,eqGuard,binOp,Op.equal,Op.maxDepth,heq]
theorem tb {zz:LV} (ht:fI P t=true) (hx:ev x=.bE id n i o0) (hy:ev y=.fe) (hm:m id=some (.nest e0 k os xs)) (hn:n=xs.length) (hz:xs[i]?=some zz):bm P pr ⟨d,.binOp .eql t x y t',ty,pos,af,gd⟩ ev m (.bool false) m:=by
 refine bm.value fun c a bw hM=>?_
 have hv:=bw x (by simp [Op.operands])
 have h2:=bw y (by simp [Op.operands])
 rw [hx] at hv; rw [hy] at h2
 simp only [au] at h2
 obtain ⟨gg,cap,cur,v,bs,ins,hB,_⟩:=hM.sS (pr:=pr) hm hz
 have he:=iX hv hB hn
 have heq:=fun w p=>lP (P:=P) (t:=t) w 9999 ht (some p)
 refine ⟨.bool false,c,?_,by simp [au],hM,Step.refl pr c⟩
 simp [execOp,he,h2,eqGuard,binOp,Op.equal,Op.maxDepth,heq]
theorem FP {el:Nat} {xs:List α} (he:telem P t=some el) (hx:ev x=.arr id n) (hm:m id=some (.nest e0 k os (xs.map f))) (hn:n=xs.length):bm P pr ⟨d,.call ⟨.builtin .len,#[x],#[t]⟩,ty,pos,af,gd⟩ ev m (.int .i64 (n:Int)) m:=by
 refine bm.value fun c a bw hM=>?_
 have hv:=bw x (by simp [Op.operands,Call.operands])
 rw [hx] at hv
 have im:=hM.gr id
 rw [hm] at im
 simp only [br] at im
 obtain ⟨u,vs,bs,hB,hk,bd,hN,hc,hnd,km⟩:=im
 simp only [au] at hv
 obtain ⟨_,u',k',k8,k7,iq,xk,kz⟩:=hv
 rw [hB] at iq; cases iq
 have kz:=kz (by simp [hn])
 obtain ⟨ad,Mx,Fj⟩:=du bd
 have hu:=fG he
 refine ⟨.int .i64 (n:Int),c,?_,by simp [au],hM,Step.refl pr c⟩
 rw [Fj] at kz
 simp [execOp,resolve,invoke,builtin,Builtin.len_,kz,hn,run_underlying hu,goInt]
theorem nt {e' k' id2:Nat} {ys:List β} {ls:List LV} (hx:ev x=.bE id n i o0) (hm:m id=some (.nest e0 k os (ls.set i (.agg cs)))) (hn:n=ls.length) (hz:(ls.set i (.agg cs))[i]?=some (.agg cs)) (hc:cs[o0]?=some (.ak k' (ys.map g))) (hl:os.lookup o0=some (e',k')) (bC:m id2=.none) (ht:tok P t=true) (ha:tagg P t=false) {dr:List LV} (hcs:cs.set o0 .eB=dr) :
  bm P pr ⟨d,.load t x,ty,pos,af,gd⟩ ev m (.arr id2 ys.length) ((m.put id (.cU e0 k os (ls.set i (.agg dr)) i o0 id2 ys.length)).put id2 (.arr e' k' (ys.map g))):=by
 subst hcs
 have:=FR (pr:=pr) (d:=d) (ty:=ty) (pos:=pos) (af:=af) (gd:=gd) hx hm (by simpa using hn) hz hc hl bC ht ha
 rwa [List.length_map,List.set_set] at this
theorem Wk.rK {e:Env} {n2 e' k' id2:Nat} {ys:List β} {ls:List LV} (hm:m id=some (.cU e0 k os (ls.set i (.agg cs)) i o0 id2 n2)) (hz:(ls.set i (.agg cs))[i]?=some (.agg cs)) (hc:cs[o0]?=some .eB) (hl:os.lookup o0=some (e',k')) (jc:m id2=some (.arr e' k' (ys.map g))) (HC:n2=ys.length) (sI:¬ pr id2) {dr:List LV} (hcs:cs.set o0 (.ak k' (ys.map g))=dr) :
  Wk pr e m e ((m.put id (.nest e0 k os (ls.set i (.agg dr)))).put id2 .dead):=by
 subst hcs
 have:=Wk.unlink (pr:=pr) (e:=e) hm hz hc hl jc (by simpa using HC) sI
 rwa [List.set_set] at this
end
section
variable {P:Program} {pr:Nat→Prop} {ev:Operand→LV} {m:Mem} {α β:Type} [DecidableEq α] {f:α→LV} {g:β→LV}
theorem Ml {β:Type} {a k:Int} {b:β} {r:List (Int × β)} (h:(k == a)=false) (h':gG r k=.none):gG ((a,b) :: r) k=.none:=by
 have ep:¬ a=k:=fun e=>by subst e; simp at h
 simp [gG,ep,h']
theorem Lk {i id:Nat} {t ty:TypeId} {pos:String} {af:Array Edge} {gd:Option (Nat × Bool)} {z:LV} {cs:List LV} (d0:Nat) (hi:100+d0=id) (hz:tzero P t=some z) (hc:z.cells=cs) (bC:m id=.none):cd P pr ⟨some i,.alloc t,ty,pos,af,gd⟩ ev m (.ptr id 0) (m.put id (.box cs)):=by
 subst hi; subst hc
 exact xA t d0 z rfl hz bC
theorem j3 {id kt vt:Nat} {t:TypeId} {d:Option Nat} {x k:Operand} {ty:TypeId} {pos:String} {af:Array Edge} {gd:Option (Nat × Bool)} {S:Value→Prop} {xs:List (α × β)} {key:α} {z:β} {o:Option β} (ht:y1 P t=some (kt,vt)) (K:Iw P kt S) (hf:wJ f S) (hx:ev x=.mp id) (bC:m id=some (.map kt vt (dR f g xs))) (hk:ev k=f key) (hz:tzero P vt=some (g z)) (ho:gG xs key=o) :
  bm P pr ⟨d,.lookup t x k true,ty,pos,af,gd⟩ ev m (.de [g (o.getD z),.bool o.isSome]) m:=by
 subst ho
 exact s9 ht K hf hx bC hk hz
end
end Go.L
namespace Go.L
section
variable {P:Program} {pr:Nat→Prop} {ev:Operand→LV} {m:Mem} {d:Option Nat} {x y:Operand} {t t' ty:TypeId} {pos:String} {af:Array Edge} {gd:Option (Nat × Bool)} {k:IntKind} {u w:Int}
end
end Go.L
namespace Go.L
section
variable {P:Program} {N:Nat} {pr:Nat→Prop} {ev:Operand→LV} {m m1 m':Mem} {d:Option Nat} {x y z:Operand} {t t' ty:TypeId} {pos:String} {af:Array Edge} {gd:Option (Nat × Bool)} {lv:LV} {α β:Type} {f:α→LV} {g:β→LV} {e0 k id n i o0:Nat} {os:List (Nat × Nat × Nat)} {xs cs:List LV}
abbrev Ra (l:List Int):LV:=.agg [.L l]
end
end Go.L
namespace Go.L
open Go.Sort Go.Proofs Go.Shelf Go.Lib
end Go.L
namespace Go.L
open Go.RowKit
abbrev Q6 (w:World):Cx:=⟨w,fun _=>.none,fun _=>False,fun _=>.none⟩
theorem Wz {c:Cx}:aC c [] []:=by simp [aC]
theorem V9 {c:Cx} {x:LV} {v:Value} {xs:List LV} {vs:List Value} (h:au c x v) (hr:aC c xs vs):aC c (x :: xs) (v :: vs):=by simp only [aC]; exact ⟨v,vs,rfl,h,hr⟩
theorem Wa {c:Cx} {k:IntKind} {n:Int}:au c (.int k n) (.int k n):=by simp [au]
theorem V7 (w:World) (b:Nat):¬ (Q6 w).X b:=by
 rintro ((h | h) | ⟨_,_,h,_⟩)
 ·exact h
 ·exact h rfl
 ·cases h
theorem B3 {c:Cx} {k:IntKind}:∀ (zs:List Int),aC c (zs.map (LV.int k)) (zs.map (Value.int k))
 | []=>by simp [aC]
 | z :: zs=>V9 Wa (B3 zs)
theorem wU {k:IntKind}:∀ (zs:List Int),flat (zs.map (Value.int k))=zs.map (Value.int k)
 | []=>rfl
 | z :: zs=>by
  have:=wU (k:=k) zs
  simp only [flat,List.map_cons,List.flatMap_cons,Value.cells] at this ⊢
  rw [this]; rfl
theorem WA {k:IntKind} {w:World} {a:Option Addr} {len cap:Nat} {zs:List Int} (h:(a=.none∧len=0∧cap=0∧zs=[]) ∨ ∃ x,a=some x∧len≤cap∧cap≤maxLen∧zs.length=cap∧(∀ i,i<zs.length→w.cell? (x.add i)=some (.int k (zs.getD i 0)))∧∀ n ∈ zs,(Lit.int k n).wf=true) :
  au (Q6 w) (.ak 1 (List.map (LV.int k) (zs.take len))) (.slice a len cap):=by
 rcases h with ⟨rfl,rfl,rfl,rfl⟩ | ⟨x,rfl,hl,hm,hz,hcell,_⟩
 ·simp only [au]
  exact ⟨.none,0,rfl,Nat.le_refl _,fun _=>rfl,rfl,.inl rfl⟩
 ·simp only [au]
  have hlen:(List.map (LV.int k) (zs.take len)).length=len:=by simp; omega
  refine ⟨some x,cap,by rw [hlen],by omega,(fun h=>by cases h),cH.2 fun y hy=>?_,?_⟩
  ·obtain ⟨n,_,rfl⟩:=List.mem_map.1 hy; rfl
  ·by_cases h0:len=0
   ·left; subst h0; simp
   ·right
    obtain ⟨b,off,spot⟩:=x
    have hc:=hcell 0 (by omega)
    have Ns:spot=.none:=by simpa [Addr.add] using World.cell?_spot hc
    subst Ns
    refine ⟨b,off,(zs.take len).map (Value.int k),rfl,?_,V7 w b,B3 _,?_,?_⟩
    ·by_cases dN:b<w.heap.size
     ·exact dN
     ·have:w.heap[b]?=.none:=by simp; omega
      simp [World.cell?,Addr.add,this] at hc
    ·intro u hu
     obtain ⟨n,_,rfl⟩:=List.mem_map.1 hu
     exact ⟨rfl,fun y hy=>by simp [Value.cells] at hy; subst hy; rfl⟩
    ·rw [wU]
     intro j v hv
     simp only [List.getElem?_map,List.getElem?_take] at hv
     split at hv
     ·rename_i hj
      have EO:j<zs.length:=by omega
      have:=hcell j EO
      simp [EO] at hv
      have Rr:(Addr.mk b off .none).add j=Addr.mk b (off+j) .none:=by
       simp only [Addr.add]; split
       ·rename_i h; subst h; rfl
       ·rfl
      rw [Rr] at this
      rw [this,← hv]; simp [EO]
     ·cases hv
theorem QI {P:Program} {f:Nat} {args:List LV} (h:aP P f args (Mem.of []) (.bool true) (Mem.of [])) (w:World) (vs:List Value) (ha:aC (Q6 w) args vs) :
  Calls P f vs.toArray w fun e w'=>e=.returned (.bool true)∧Below w.heap.size w w':=by
 refine (rV.calls h w vs ha).mono ?_
 rintro en w' ⟨⟨v,c',rfl,rfl,hv⟩,hb⟩
 simp only [au] at hv
 subst hv
 exact ⟨rfl,hb⟩
end Go.L
