import Derived.Test.YtmollikhdbaikaaGreatZLa
import Derived.WideKeyElems
import Derived.Lib.AppendZeros
import Derived.Lib.SliceRun
import Derived.Lib.Overlaps
import Derived.Laws.IdiomCopy
import Derived.Laws.StructEq
set_option linter.unusedVariables false
set_option linter.unusedSimpArgs false
namespace Go.L
abbrev LV.I:Int→LV:=LV.int .i64
abbrev LV.L (xs:List Int):LV:=.al 1 (xs.map (LV.int .i64))
abbrev eh (P : Program) (f : Nat) : Prop := ∃ fn, P.funcs[f]? = some fn ∧ (fn.name == "runtime.NumGoroutine") = false ∧ fn.body.isNone = false
def Sub (x y:LV):Prop:=∀ c v,av c x v→av c y v
def fo:List LV→List LV→Prop
 | [],[]=>True
 | x :: xs,y :: ys=>Sub x y∧fo xs ys
 | _,_=>False
theorem Sub.rfl {x:LV}:Sub x x:=fun _ _ h=>h
theorem Sub.trans {x y z:LV} (h:Sub x y) (k:Sub y z):Sub x z:=fun c v hv=>k c v (h c v hv)
theorem Sub.eD {x:LV}:Sub x .eD:=fun _ _ _=>by simp [av]
theorem Sub.nil {k:Nat}:Sub .nil (.al k []):=fun c v h=>by
 simp only [av] at h ⊢
 subst h
 exact ⟨.none,0,by rfl,Nat.le_refl _,fun _=>by rfl,by rfl,.inl trivial⟩
theorem fo.rep:∀ {xs ys:List LV},fo xs ys→∀ {c:Cx} {vs:List Value},aC c xs vs→aC c ys vs
 | [],[],_,c,vs,h=>h
 | x :: xs,y :: ys,hs,c,vs,h=>by
  simp only [aC] at h ⊢
  obtain ⟨v,fI,h0,h1,h2⟩:=h
  exact ⟨v,fI,h0,hs.1 c v h1,fo.rep hs.2 h2⟩
theorem fo.rfl:∀ {xs:List LV},fo xs xs
 | []=>trivial
 | x :: xs=>⟨Sub.rfl,fo.rfl⟩
theorem Sub.agg {xs ys:List LV} (h:fo xs ys):Sub (.agg xs) (.agg ys):=fun c v hv=>by
 simp only [av] at hv ⊢
 obtain ⟨vs,h0,h1⟩:=hv
 exact ⟨vs,h0,h.rep h1⟩
theorem Sub.cV {xs ys:List LV} (h:fo xs ys):Sub (.cV xs) (.cV ys):=fun c v hv=>by
 simp only [av] at hv ⊢
 obtain ⟨vs,h0,h1⟩:=hv
 exact ⟨vs,h0,h.rep h1⟩
theorem aO.sub {P:Program} {f:Nat} {args gB:List LV} {m m':Mem} {lv:LV} (h:aO P f gB m lv m') (hs:fo args gB):aO P f args m lv m':=fun c vs hm ha=>h c vs hm (hs.rep ha)
theorem aO.res {P:Program} {f:Nat} {args:List LV} {m m':Mem} {lv xq:LV} (h:aO P f args m lv m') (hs:Sub lv xq):aO P f args m xq m':=fun c vs hm ha=>(h c vs hm ha).mono fun en w' ⟨v,c',h1,h2,h3,h4,h5⟩=>⟨v,c',h1,h2,h3,hs c' v h4,h5⟩
def qm {α:Type} (k:Nat) (f:α→LV):Prop:=∀ x,(f x).pure=true∧(f x).cells.length=k∧(f x).cells.all LV.scalar=true
theorem qm.Up {α:Type} {k:Nat} {f:α→LV} (h:qm k f) (xs:List α):qX k (xs.map f):=by
 intro x hx
 obtain ⟨y,_,rfl⟩:=List.mem_map.1 hx
 exact h y
theorem qm.bo {α:Type} {k:Nat} {f:α→LV} (h:qm k f) (xs:List α):LV.bo (xs.map f)=true:=cK.2 fun x hx=>by
 obtain ⟨y,_,rfl⟩:=List.mem_map.1 hx
 exact (h y).1
theorem mu {k:IntKind}:qm 1 (LV.int k):=fun _=>⟨by rfl,by rfl,by rfl⟩
theorem okB:qm 1 LV.bool:=fun _=>⟨by rfl,by rfl,by rfl⟩
def idx {α:Type} (xs:List α) (i:Int):Option α:=if 0≤i then xs[i.toNat]? else .none
def Ep {α:Type} (xs:List α) (a b:Int):Option (List α):=if 0≤a∧a≤b∧b≤xs.length then some ((xs.take b.toNat).drop a.toNat) else .none
def app {α:Type} (xs ys:List α):Option (List α):=if xs.length+ys.length≤549755813888 then some (xs++ys) else .none
def quo (k:IntKind) (a b:Int):Option Int:=if b=0 then .none else some (k.wrap (a.tdiv b))
def QN (a b:Int):Option Int:=if b=0 then .none else some (a.tmod b)
def z1 {α:Type} (z:α) (n:Int):Option (List α):=if 0≤n∧n≤549755813888 then some (List.replicate n.toNat z) else .none
def put {α:Type} (xs:List α) (i:Int) (f:α→α):Option (List α):=(idx xs i).bind fun x=>some (xs.set i.toNat (f x))
abbrev i64 (n:Int):Int:=IntKind.i64.wrap n
theorem ao {α β:Type} {o:Option α} {f:α→Option β} {r:β} (h:o.bind f=some r):∃ a,o=some a∧f a=some r:=by
 cases o with
 | none=>cases h
 | some a=>exact ⟨a,rfl,h⟩
theorem aB {α:Type} {b:Bool} {x y:Option α} {r:α} (h:(if b=true then x else y)=some r) (hb:b=true):x=some r:=by rw [if_pos hb] at h; exact h
theorem aA {α:Type} {b:Bool} {x y:Option α} {r:α} (h:(if b=true then x else y)=some r) (hb:b=false):y=some r:=by rw [if_neg (by simp [hb])] at h; exact h
theorem bF {b:Bool} (h:¬ b=true):b=false:=by cases b <;> simp_all
section
variable {P:Program} {N:Nat} {pr:Nat→Prop} {ro:List Nat} {ops:Array Oper} {e:Env} {m:Mem} {ev:Operand→LV} {d:Option Nat} {i j q:Nat} {want:Bool} {op:Op} {ty:TypeId} {pos:String} {af:Array Edge} {g:Option (Nat × Bool)} {l:List Oper} {et:List Nat} {KE:Env→Mem→Prop} {K:LV→Mem→Prop}
def cH (P:Program) (N:Nat) (pr:Nat→Prop) (ops:Array Oper) (l:List Oper) (K:Env→Mem→Prop) (e:Env) (m:Mem):Prop :=
 (∀ q ∈ ops,∀ i,q.dst=some i→i<N)→(∀ o ∈ l,o ∈ ops)→∃ e' m',K e' m'∧∀ (c:Cx) (a:Act),mw N c e m a→wpList P ops (fun x a' w'=>x=.normal∧∃ c':Cx,c'.w=w'∧mw N c' e' m' a'∧Grow pr c c') l a c.w
theorem gq:∀ (l:List Oper) (a:Act) (w:World) (Q Q':Exit→Act→World→Prop),(∀ x a w,Q x a w→Q' x a w)→wpList P ops Q l a w→wpList P ops Q' l a w:=by
 intro l
 induction l with
 | nil=>intro a w Q Q' hq hh; exact hq _ _ _ hh
 | cons o l ih =>
  intro a w Q Q' hq hh
  simp only [wpList] at hh ⊢
  split
  ·rename_i Oy
   rw [if_pos Oy] at hh
   rcases hh with hh | ⟨h1,a0,w0,h2⟩
   ·left
    unfold Oper.wp at hh ⊢
    generalize (execOp a.eval o).run P w=r at hh ⊢
    cases r with
    | ok nx w' =>
     cases nx <;> simp only [Oper.upon] at hh ⊢ <;> first
      | exact ih _ _ _ _ hq hh
      | exact Calls.mono hh (fun en MH he=>by cases en <;> first | exact ih _ _ _ _ hq he | exact hq _ _ _ he | exact he.imp fun _=>Exists.imp fun _=>hq _ _ _)
      | exact Rows.mono hh (fun _ _ he=>ih _ _ _ _ hq he)
    | halt x w'=>cases x <;> simp only [Oper.upon] at hh ⊢ <;> first | exact hq _ _ _ hh | exact hh
   ·exact .inr ⟨h1,a0,w0,hq _ _ _ h2⟩
  ·rename_i Oy
   rw [if_neg Oy] at hh
   exact ih _ _ _ _ hq hh
theorem cH.step {o:Oper} (h:BJ P pr ro ops o (cH P N pr ops l KE) e m):cH P N pr ops (o :: l) KE e m:=by
 intro hd hl
 obtain ⟨lv,m1,h1,Ol⟩:=xw hd (hd o (hl o (by simp))) h
 obtain ⟨e',m',hK,jP⟩:=h1 hd (fun q hq=>hl q (by simp [hq]))
 refine ⟨e',m',hK,fun c a hr=>?_⟩
 simp only [wpList]
 refine Ol c a _ _ hr ?_
 intro a' c' rD hs
 refine gq _ _ _ _ _ ?_ (jP c' a' rD)
 rintro x Nf MH ⟨hx,c2,qV,fH,pL⟩
 exact ⟨hx,c2,qV,fH,hs.grow.trans pL⟩
theorem cH.wk {e':Env} {m':Mem} (hw:Wk pr e m e' m') (h:cH P N pr ops l KE e' m'):cH P N pr ops l KE e m:=by
 intro hd hl
 obtain ⟨e2,m2,hK,du⟩:=h hd hl
 refine ⟨e2,m2,hK,fun c a hr=>?_⟩
 obtain ⟨c1,FK,ei,zY⟩:=hw N c a hr
 rw [← FK]
 refine gq _ _ _ _ _ ?_ (du c1 a ei)
 rintro x a' w' ⟨hx,c2,qV,fH,pL⟩
 exact ⟨hx,c2,qV,fH,zY.trans pL⟩
theorem s0 (h:KE e m):cH P N pr ops [] KE e m:=fun _ _=>⟨e,m,h,fun c a hr=>⟨rfl,c,rfl,hr,.refl pr c⟩⟩
theorem sN (h:LOp P pr [] ⟨some i,op,ty,pos,af,.none⟩ (da e) m fun lv m'=>cH P N pr ops l KE (e.put i lv) m'):cH P N pr ops (⟨some i,op,ty,pos,af,.none⟩ :: l) KE e m:=cH.step (ro:=[]) h
theorem sB (h:LOp P pr [i] ⟨some i,op,ty,pos,af,.none⟩ (da e) m fun lv m'=>cH P N pr ops l KE (e.put i lv) m'):cH P N pr ops (⟨some i,op,ty,pos,af,.none⟩ :: l) KE e m:=cH.step (ro:=[i]) h
theorem s_ (h:LOp P pr [] ⟨.none,op,ty,pos,af,.none⟩ (da e) m fun lv m'=>cH P N pr ops l KE e m'):cH P N pr ops (⟨.none,op,ty,pos,af,.none⟩ :: l) KE e m:=cH.step (ro:=[]) h
theorem sT (hj:(ops[j]?).bind (·.dst)=some q) (hg:e q=.bool want) (h:LOp P pr [] ⟨some i,op,ty,pos,af,some (j,want)⟩ (da e) m fun lv m'=>cH P N pr ops l KE (e.put i lv) m'):cH P N pr ops (⟨some i,op,ty,pos,af,some (j,want)⟩ :: l) KE e m:=cH.step (ro:=[]) (by
 rw [oB,hj]; simp only [hg,if_true]; exact h)
theorem sF {t:Bool} (hj:(ops[j]?).bind (·.dst)=some q) (hg:e q=.bool t) (hn:t=!want) (h:cH P N pr ops l KE (e.put i (.cV [])) m):cH P N pr ops (⟨some i,op,ty,pos,af,some (j,want)⟩ :: l) KE e m:=cH.step (ro:=[]) (by
 subst hn
 rw [oB,hj]; simp only [hg]; cases want <;> exact h)
theorem sU (hj:(ops[j]?).bind (·.dst)=some q) (hg:e q=.cV []) (h:cH P N pr ops l KE (e.put i (.cV [])) m):cH P N pr ops (⟨some i,op,ty,pos,af,some (j,want)⟩ :: l) KE e m:=cH.step (ro:=[]) (by
 rw [oB,hj]; simp only [hg]; exact h)
theorem m0 (h:KE e m):cA P pr ro ops (List.zip [] []) KE e m:=h
theorem aD (h:LOp P pr ro ⟨some i,op,ty,pos,af,.none⟩ (da e) Mem.none fun lv m'=>m'=Mem.none∧cA P pr ro ops (List.zip l et) KE (e.put i lv) m):cA P pr ro ops (List.zip (⟨some i,op,ty,pos,af,.none⟩ :: l) (0 :: et)) KE e m:=h
theorem PO (h:LOp P pr ro ⟨some i,op,ty,pos,af,.none⟩ (da e) m fun lv m'=>m'=m∧cA P pr ro ops (List.zip l et) KE (e.put i lv) m):cA P pr ro ops (List.zip (⟨some i,op,ty,pos,af,.none⟩ :: l) (1 :: et)) KE e m:=h
theorem yh (h:LOp P pr ro ⟨some i,op,ty,pos,af,.none⟩ (da e) m fun lv m'=>cA P pr ro ops (List.zip l et) KE (e.put i lv) m'):cA P pr ro ops (List.zip (⟨some i,op,ty,pos,af,.none⟩ :: l) (2 :: et)) KE e m:=h
theorem mT {md:Nat} (hj:(ops[j]?).bind (·.dst)=some q) (hg:e q=.bool want) (h:cA P pr ro ops (List.zip (⟨d,op,ty,pos,af,.none⟩ :: l) (md :: et)) KE e m):cA P pr ro ops (List.zip (⟨d,op,ty,pos,af,some (j,want)⟩ :: l) (md :: et)) KE e m:=by
 show fX P pr ro ops md _ _ e m
 rw [sk,hj]; simp only [hg,if_true]; exact h
theorem mF {md:Nat} {t:Bool} (hj:(ops[j]?).bind (·.dst)=some q) (hg:e q=.bool t) (hn:t=!want) (h:cA P pr ro ops (List.zip l et) KE (e.put i (.cV [])) m):cA P pr ro ops (List.zip (⟨some i,op,ty,pos,af,some (j,want)⟩ :: l) (md :: et)) KE e m:=by
 subst hn
 show fX P pr ro ops md _ _ e m
 rw [sk,hj]; simp only [hg]; cases want <;> exact h
theorem mU {md:Nat} (hj:(ops[j]?).bind (·.dst)=some q) (hg:e q=.cV []) (h:cA P pr ro ops (List.zip l et) KE (e.put i (.cV [])) m):cA P pr ro ops (List.zip (⟨some i,op,ty,pos,af,some (j,want)⟩ :: l) (md :: et)) KE e m:=by
 show fX P pr ro ops md _ _ e m
 rw [sk,hj]; simp only [hg]; exact h
variable {x y a:Operand} {t t':TypeId} {k k':IntKind} {v:LV} {u w:Int} {b c:Bool} {cs dj:List LV} {n id o off el ft kk:Nat}
theorem oM (hx:ev x=v) (h:K v m):LOp P pr ro ⟨d,.move x,ty,pos,af,g⟩ ev m K:=by rw [LOp_move,hx]; exact h
theorem oA (hx:ev x=v) (h:K v m):LOp P pr ro ⟨d,.assign x,ty,pos,af,g⟩ ev m K:=by rw [LOp_assign,hx]; exact h
theorem aZ {z:Operand} (hc:ev x=.bool true) (ha:ev y=v) (h:K v m):LOp P pr ro ⟨d,.pick x y z,ty,pos,af,g⟩ ev m K:=by rw [LOp_pick,hc]; simp only [if_true]; rw [ha]; exact h
theorem aW {z:Operand} (hc:ev x=.bool false) (ha:ev z=v) (h:K v m):LOp P pr ro ⟨d,.pick x y z,ty,pos,af,g⟩ ev m K:=by rw [LOp_pick,hc]; simp only [Bool.false_eq_true,if_false]; rw [ha]; exact h
theorem j0 {z:LV} (hi:100+i=id) (hz:tzero P t=some z) (hc:z.cells=cs) (hf:m id=.none) (h:K (.ptr id 0) (m.put id (.box cs))):LOp P pr ro ⟨some i,.alloc t,ty,pos,af,g⟩ ev m K:=by
 subst hi; subst hc; rw [LOp_alloc,hz]; exact ⟨hf,h⟩
theorem de (hr:ro.contains i=true) (hx:ev x=v) (hc:v.cells=cs) (hs:cs.all LV.scalar=true) (h:K (.ag cs) m):LOp P pr ro ⟨some i,.box t x,ty,pos,af,g⟩ ev m K:=by
 subst hc; rw [LOp_box,hx,if_pos hr]; exact ⟨hs,h⟩
theorem RE (hr:ro.contains i=false) (hi:100+i=id) (hx:ev x=v) (hc:v.cells=cs) (hs:cs.all LV.scalar=true) (hf:m id=.none) (h:K (.ptr id 0) (m.put id (.box cs))):LOp P pr ro ⟨some i,.box t x,ty,pos,af,g⟩ ev m K:=by
 subst hi; subst hc; rw [LOp_box,hx,if_neg (by rw [hr]; simp)]; exact ⟨hs,hf,h⟩
theorem fT:mr P t cs []=some cs:=rfl
theorem lf {res:List LV} {r:List (Nat × LV)} (hf:tfield P t i=some (off,ft)) (hs:tsize P ft=v.cells.length) (hk:tok P ft=true) (hl:Nat.ble (off+v.cells.length) cs.length=true) (uj:v.cells.all LV.scalar=true) (hr:rep cs off v.cells=dj) (h:mr P t dj r=some res):mr P t cs ((i,v) :: r)=some res:=by
 subst hr
 simp only [mr,hf]
 rw [if_pos ⟨hs.symm,Nat.le_of_ble_eq_true hl,hk,uj⟩]; exact h
theorem fU {z:List LV} {ps:List (Nat × Operand)} {vs:List (Nat × LV)} (hb:tbuild P t=true) (hz:tzero P t=some (.agg z)) (hv:(ps.map fun p=>(p.1,ev p.2))=vs) (hf:mr P t z vs=some cs) (h:K (.agg cs) m):LOp P pr ro ⟨d,.build t ps.toArray,ty,pos,af,g⟩ ev m K:=by
 rw [LOp_build,hz]; refine ⟨hb,?_⟩; simp only [hv,hf]; exact h
theorem ka {α:Type} {f:α→LV} {ys:List α} {ps:List (Nat × Operand)} (he:telem P t=some el) (hr:gz P el=true) (hk:tsize P el=kk) (hb:Nat.ble (n * kk) 16777216=true) (hi:ps.map (·.1)=List.range n) (hv:(ps.map fun p=>ev p.2)=ys.map f) (gD:qm kk f) (h:K (.al kk (ys.map f)) m):LOp P pr ro ⟨d,.buildSlice t n ps.toArray,ty,pos,af,g⟩ ev m K:=by
 subst hk
 rw [LOp_buildSlice,he]; exact ⟨hr,Nat.le_of_ble_eq_true hb,hi,by rw [hv]; exact gD.Up ys,by rw [hv]; exact h⟩
theorem bh (hx:ev a=.ag (v :: cs)) (ht:tok P t=true) (ha:tagg P t=false) (h:K v m):LOp P pr ro ⟨d,.load t a,ty,pos,af,g⟩ ev m K:=by
 rw [LOp_load,hx]; simp only [loadC_def,ha,Bool.false_eq_true,if_false]; exact ⟨ht,h⟩
theorem bc (hx:ev a=.ag cs) (ht:tok P t=true) (ha:tagg P t=true) (hs:tsize P t=n) (hl:Nat.ble n cs.length=true) (hc:cs.take n=dj) (h:K (.agg dj) m):LOp P pr ro ⟨d,.load t a,ty,pos,af,g⟩ ev m K:=by
 subst hc; subst hs
 rw [LOp_load,hx]; simp only [loadC_def,ha,if_true]; exact ⟨ht,Nat.le_of_ble_eq_true hl,h⟩
theorem dQ {r:List LV} (hx:ev a=.ptr id o) (hm:m id=some (.box cs)) (hl:Nat.ble o cs.length=true) (hc:cs.drop o=v :: r) (ht:tok P t=true) (ha:tagg P t=false) (h:K v m):LOp P pr ro ⟨d,.load t a,ty,pos,af,g⟩ ev m K:=by
 rw [LOp_load,hx]; simp only [hm,loadC_def,hc,ha,Bool.false_eq_true,if_false]; exact ⟨Nat.le_of_ble_eq_true hl,ht,h⟩
theorem lJ (hx:ev a=.ptr id o) (hm:m id=some (.box cs)) (hl:Nat.ble o cs.length=true) (ht:tok P t=true) (ha:tagg P t=true) (hs:tsize P t=n) (B5:Nat.ble n (cs.drop o).length=true) (hc:(cs.drop o).take n=dj) (h:K (.agg dj) m):LOp P pr ro ⟨d,.load t a,ty,pos,af,g⟩ ev m K:=by
 subst hc; subst hs
 rw [LOp_load,hx]; simp only [hm,loadC_def,ha,if_true]; exact ⟨Nat.le_of_ble_eq_true hl,ht,Nat.le_of_ble_eq_true B5,h⟩
theorem wz {α:Type} {f:α→LV} {xs:List α} {z:α} {r:List LV} (hx:ev a=.bE id xs.length j o) (hm:m id=some (.arr el kk (xs.map f))) (hz:xs[j]?=some z) (uj:(f z).cells.all LV.scalar=true) (hl:Nat.ble o (f z).cells.length=true) (hc:(f z).cells.drop o=v :: r) (ht:tok P t=true) (ha:tagg P t=false) (h:K v m):LOp P pr ro ⟨d,.load t a,ty,pos,af,g⟩ ev m K:=by
 rw [LOp_load,hx]; simp only [hm,List.length_map,List.getElem?_map,hz,Option.map_some,loadC_def]
 exact ⟨trivial,f z,rfl,uj,Nat.le_of_ble_eq_true hl,ht,by rw [ha,hc]; exact h⟩
theorem pX {α:Type} {f:α→LV} {xs:List α} {z:α} (hx:ev a=.bE id xs.length j o) (hm:m id=some (.arr el kk (xs.map f))) (hz:xs[j]?=some z) (uj:(f z).cells.all LV.scalar=true) (hl:Nat.ble o (f z).cells.length=true) (ht:tok P t=true) (ha:tagg P t=true) (hs:tsize P t=n) (B5:Nat.ble n ((f z).cells.drop o).length=true) (hc:((f z).cells.drop o).take n=dj) (h:K (.agg dj) m):LOp P pr ro ⟨d,.load t a,ty,pos,af,g⟩ ev m K:=by
 subst hc; subst hs
 rw [LOp_load,hx]; simp only [hm,List.length_map,List.getElem?_map,hz,Option.map_some,loadC_def]
 exact ⟨trivial,f z,rfl,uj,Nat.le_of_ble_eq_true hl,ht,by rw [if_pos ha]; exact ⟨Nat.le_of_ble_eq_true B5,h⟩⟩
theorem cF (hx:ev a=.ptr id o) (hv:ev x=v) (uj:v.cells.all LV.scalar=true) (ht:tok P t=true) (hs:tsize P t=v.cells.length) (hm:m id=some (.box cs)) (hl:Nat.ble (o+v.cells.length) cs.length=true) (hc:rep cs o v.cells=dj) (h:K .eD (m.put id (.box dj))):LOp P pr ro ⟨d,.store t a x,ty,pos,af,g⟩ ev m K:=by
 subst hc
 rw [LOp_store,hv,hx]; simp only [hm]; exact ⟨uj,ht,hs,Nat.le_of_ble_eq_true hl,h⟩
theorem FZ {α β:Type} (f:α→β) (xs:List α) (j:Nat) (z:α):(xs.map f).set j (f z)=(xs.set j z).map f:=by
 simp [List.map_set]
theorem qx {α:Type} {f:α→LV} {xs:List α} {z z':α} (hx:ev a=.bE id xs.length j o) (hv:ev x=v) (uj:v.cells.all LV.scalar=true) (hp:LV.bo v.cells=true) (ht:tok P t=true) (hs:tsize P t=v.cells.length) (hm:m id=some (.arr el kk (xs.map f))) (hz:xs[j]?=some z) (hw:zl (f z) o v=some (f z')) (h:K .eD (m.put id (.arr el kk ((xs.set j z').map f)))):LOp P pr ro ⟨d,.store t a x,ty,pos,af,g⟩ ev m K:=by
 rw [LOp_store,hv,hx]; simp only [hm]
 exact ⟨uj,ht,hs,by simp,hp,f z,f z',by simp [hz],hw,by rw [FZ]; exact h⟩
theorem F9 (hx:ev x=.ptr id o) (h:K (.ptr id o) m):LOp P pr ro ⟨d,.nilCheck x,ty,pos,af,g⟩ ev m K:=by rw [LOp_nilCheck,hx]; exact h
theorem cI (hx:ev x=.int k u) (hy:ev y=.int k w) (h:K (.int k (k.wrap (u+w))) m):LOp P pr ro ⟨d,.binOp .add t x y t',ty,pos,af,g⟩ ev m K:=by rw [LOp_binOp,hx,hy]; exact ⟨rfl,h⟩
theorem iS (hx:ev x=.int k u) (hy:ev y=.int k w) (h:K (.int k (k.wrap (u - w))) m):LOp P pr ro ⟨d,.binOp .sub t x y t',ty,pos,af,g⟩ ev m K:=by rw [LOp_binOp,hx,hy]; exact ⟨rfl,h⟩
theorem TY {r:Int} (hx:ev x=.int k u) (hy:ev y=.int k w) (hr:QN u w=some r) (h:K (.int k r) m):LOp P pr ro ⟨d,.binOp .rem t x y t',ty,pos,af,g⟩ ev m K:=by
 rw [LOp_binOp,hx,hy]; unfold QN at hr; split at hr
 ·cases hr
 ·rename_i h0; cases hr; exact ⟨rfl,h0,h⟩
theorem gr (hx:ev x=.int k u) (hy:ev y=.int k w) (h:K (.bool (u == w)) m):LOp P pr ro ⟨d,.binOp .eql t x y t',ty,pos,af,g⟩ ev m K:=by rw [LOp_binOp,hx,hy]; exact ⟨rfl,h⟩
theorem iR (hx:ev x=.int k u) (hy:ev y=.int k w) (h:K (.bool (u != w)) m):LOp P pr ro ⟨d,.binOp .neq t x y t',ty,pos,af,g⟩ ev m K:=by rw [LOp_binOp,hx,hy]; exact ⟨rfl,h⟩
theorem fy (hx:ev x=.int k u) (hy:ev y=.int k w) (h:K (.bool (decide (u<w))) m):LOp P pr ro ⟨d,.binOp .lss t x y t',ty,pos,af,g⟩ ev m K:=by rw [LOp_binOp,hx,hy]; exact ⟨rfl,h⟩
theorem Im (hx:ev x=.int k u) (hy:ev y=.int k w) (h:K (.bool (decide (u≤w))) m):LOp P pr ro ⟨d,.binOp .leq t x y t',ty,pos,af,g⟩ ev m K:=by rw [LOp_binOp,hx,hy]; exact ⟨rfl,h⟩
theorem jx (hx:ev x=.int k u) (hy:ev y=.int k w) (h:K (.bool (decide (u > w))) m):LOp P pr ro ⟨d,.binOp .gtr t x y t',ty,pos,af,g⟩ ev m K:=by rw [LOp_binOp,hx,hy]; exact ⟨rfl,h⟩
theorem pW (hx:ev x=.int k u) (hy:ev y=.int k w) (h:K (.bool (decide (u ≥ w))) m):LOp P pr ro ⟨d,.binOp .geq t x y t',ty,pos,af,g⟩ ev m K:=by rw [LOp_binOp,hx,hy]; exact ⟨rfl,h⟩
theorem PV (hx:ev x=.bool b) (hy:ev y=.bool c) (ht:vK P t=true) (h:K (.bool (b == c)) m):LOp P pr ro ⟨d,.binOp .eql t x y t',ty,pos,af,g⟩ ev m K:=by rw [LOp_binOp,hx,hy]; exact ⟨ht,h⟩
theorem PX (hx:ev x=.bool b) (hy:ev y=.bool c) (ht:vK P t=true) (h:K (.bool (!(b == c))) m):LOp P pr ro ⟨d,.binOp .neq t x y t',ty,pos,af,g⟩ ev m K:=by rw [LOp_binOp,hx,hy]; exact ⟨ht,h⟩
theorem Dr (hx:ev x=.agg cs) (hy:ev y=.agg dj) (ht:oh P t cs dj b) (h:K (.bool b) m):LOp P pr ro ⟨d,.binOp .eql t x y t',ty,pos,af,g⟩ ev m K:=by rw [LOp_binOp,hx,hy]; exact ⟨b,ht,h⟩
theorem Io (hx:ev x=.agg cs) (hy:ev y=.agg dj) (ht:oh P t cs dj b) (h:K (.bool (!b)) m):LOp P pr ro ⟨d,.binOp .neq t x y t',ty,pos,af,g⟩ ev m K:=by rw [LOp_binOp,hx,hy]; exact ⟨b,ht,h⟩
theorem ic (hx:ev x=.bool b) (h:K (.bool (!b)) m):LOp P pr ro ⟨d,.unOp .not t x,ty,pos,af,g⟩ ev m K:=by rw [LOp_not,hx]; exact h
theorem TX (hk:tok P t=true) (ht:tint P t'=some k') (hx:ev x=.int k u) (h:K (.int k' (k'.wrap u)) m):LOp P pr ro ⟨d,.convert t t' x,ty,pos,af,g⟩ ev m K:=by rw [LOp_convert,ht,hx]; exact ⟨hk,h⟩
theorem QS {α:Type} {xs r:List α} (h:Ep xs u w=some r):0≤u∧u≤w∧w≤xs.length∧r=(xs.take w.toNat).drop u.toNat:=by
 unfold Ep at h; split at h
 ·rename_i h0; cases h; exact ⟨h0.1,h0.2.1,h0.2.2,rfl⟩
 ·cases h
theorem TZ {α:Type} {f:α→LV} {xs r:List α} {lo hi:Option Operand} (he:telem P t=some el) (hk:tok P el=true) (hs:tsize P el=kk) (hx:ev x=.al kk (xs.map f)) (rR:(match lo with | .none=>u=0 | some z=>ev z=.int .i64 u)) (Hv:(match hi with | .none=>w=(xs.length:Int) | some z=>ev z=.int .i64 w)) (hr:Ep xs u w=some r) (h:K (.al kk (r.map f)) m):LOp P pr ro ⟨d,.slice t x lo hi .none,ty,pos,af,g⟩ ev m K:=by
 obtain ⟨h0,h1,h2,rfl⟩:=QS hr
 rw [LOp_slice,he,hx]
 refine ⟨rfl,hk,by trivial,by simp [hs],u.toNat,w.toNat,?_,?_,by omega,by simp; omega,?_⟩
 ·cases lo with
  | none=>simp only at rR; subst rR; rfl
  | some z=>simp only at rR ⊢; rw [rR,Int.toNat_of_nonneg h0]
 ·cases hi with
  | none=>simp only at Hv; subst Hv; simp
  | some z=>simp only at Hv ⊢; rw [Hv,Int.toNat_of_nonneg (by omega)]
 ·rw [← List.map_take,← List.map_drop]; exact h
theorem dI (hf:tfield P t n=some (off,ft)) (hk:tok P ft=true) (hs:tsize P ft=kk+1) (hx:ev x=.ptr id o) (hi:o+off=i) (h:K (.ptr id i) m):LOp P pr ro ⟨d,.fieldAddr t x n,ty,pos,af,g⟩ ev m K:=by
 subst hi; rw [LOp_fieldAddr,hf,hx]; exact ⟨hk,by rw [hs]; simp,h⟩
theorem aw (hf:tfield P t n=some (off,ft)) (hk:tok P ft=true) (hs:tsize P ft=kk+1) (hx:ev x=.ag cs) (hl:Nat.ble off cs.length=true) (hi:cs.drop off=dj) (h:K (.ag dj) m):LOp P pr ro ⟨d,.fieldAddr t x n,ty,pos,af,g⟩ ev m K:=by
 subst hi; rw [LOp_fieldAddr,hf,hx]; exact ⟨hk,by rw [hs]; simp,Nat.le_of_ble_eq_true hl,h⟩
theorem Il {α:Type} {f:α→LV} {xs:List α} {fB WI:Nat} (hf:tfield P t n=some (off,ft)) (hk:tok P ft=true) (hs:tsize P ft=kk+1) (hx:ev x=.bE id xs.length j o) (hm:m id=some (.arr fB WI (xs.map f))) (hi:o+off=i) (h:K (.bE id xs.length j i) m):LOp P pr ro ⟨d,.fieldAddr t x n,ty,pos,af,g⟩ ev m K:=by
 subst hi; rw [LOp_fieldAddr,hf,hx]; simp only [hm]; exact ⟨hk,by rw [hs]; simp,by simp,h⟩
theorem dB {α:Type} {xs:List α} {z:α} (h:idx xs u=some z):0≤u∧xs[u.toNat]?=some z:=by
 unfold idx at h; split at h
 ·exact ⟨by assumption,h⟩
 ·cases h
theorem eM {α:Type} {f:α→LV} {xs:List α} {z:α} (he:telem P t=some el) (hk:tok P el=true) (hs:tsize P el=kk) (hx:ev x=.al kk (xs.map f)) (hy:ev y=.int k u) (gD:qm kk f) (hz:idx xs u=some z) (hc:(f z).cells=cs) (h:K (.ag cs) m):LOp P pr ro ⟨d,.indexAddr t x y,ty,pos,af,g⟩ ev m K:=by
 obtain ⟨h0,h1⟩:=dB hz
 subst hc; subst hs
 rw [LOp_indexAddr,he,hx,hy]
 exact ⟨hk,rfl,h0,f z,by simp [h1],(gD z).2.2,h⟩
theorem gV {α:Type} {f:α→LV} {xs:List α} {z:α} (he:telem P t=some el) (hk:tok P el=true) (hs:tsize P el=kk) (hx:ev x=.arr id xs.length) (hm:m id=some (.arr el kk (xs.map f))) (hy:ev y=.int k u) (hz:idx xs u=some z) (h:K (.bE id xs.length u.toNat 0) m):LOp P pr ro ⟨d,.indexAddr t x y,ty,pos,af,g⟩ ev m K:=by
 obtain ⟨h0,h1⟩:=dB hz
 subst hs
 have:=(List.getElem?_eq_some_iff.1 h1).1
 rw [LOp_indexAddr,he,hx,hy]; simp only [hm]
 exact ⟨hk,by simp,trivial,h0,by omega,h⟩
theorem fV {vs:List LV} (hx:ev x=.cV vs) (hv:vs[n]?=some v) (h:K v m):LOp P pr ro ⟨d,.extract x n,ty,pos,af,g⟩ ev m K:=by rw [LOp_extract,hx]; exact ⟨v,hv,h⟩
theorem PW {f:Nat} {cap:List Operand} {vs:List LV} (hv:cap.map ev=vs) (h:K (.fn f vs) m):LOp P pr ro ⟨d,.makeFunc (.func f) #[] cap.toArray,ty,pos,af,g⟩ ev m K:=by rw [LOp_makeFunc,hv]; exact h
theorem RF {α:Type} {f:α→LV} {z:α} {r:List α} (hi:100+i=id) (he:telem P t=some el) (hz:tzero P el=some (f z)) (hr:gz P el=true) (hk:tsize P el=kk) (hx:ev x=.int .i64 u) (hy:ev y=.int .i64 u) (hp:(f z).pure=true) (hl:z1 z u=some r) (hf:m id=.none) (h:K (.arr id r.length) (m.put id (.arr el kk (r.map f)))):LOp P pr ro ⟨some i,.makeSlice t x y,ty,pos,af,g⟩ ev m K:=by
 subst hi; subst hk
 unfold z1 at hl; split at hl
 ·rename_i h0; cases hl
  rw [LOp_makeSlice,he]
  simp only [Option.getD_some,hz,hx,hy]
  exact ⟨trivial,h0.1,h0.2,hr,hp,hf,by simpa using h⟩
 ·cases hl
theorem bV {α:Type} {f:α→LV} {xs:List α} (he:telem P t=some el) (hx:ev x=.al kk (xs.map f)) (h:K (.int .i64 xs.length) m):LOp P pr ro ⟨d,.call ⟨.builtin .len,#[x],#[t]⟩,ty,pos,af,g⟩ ev m K:=by rw [LOp_len,hx]; exact ⟨by rw [he]; rfl,by simpa using h⟩
theorem F8 {α:Type} {f:α→LV} {xs:List α} {fB:Nat} (he:telem P t=some el) (hx:ev x=.arr id xs.length) (hm:m id=some (.arr fB kk (xs.map f))) (h:K (.int .i64 xs.length) m):LOp P pr ro ⟨d,.call ⟨.builtin .len,#[x],#[t]⟩,ty,pos,af,g⟩ ev m K:=by
 rw [LOp_len,hx]; simp only [hm]; exact ⟨by rw [he]; rfl,by simp,h⟩
theorem BM {α:Type} {xs ys r:List α} (h:app xs ys=some r):xs.length+ys.length≤549755813888∧r=xs++ys:=by
 unfold app at h; split at h
 ·cases h; exact ⟨by assumption,rfl⟩
 ·cases h
theorem nL {α:Type} {f:α→LV} {xs ys r:List α} (he:telem P t=some el) (hr:gz P el=true) (hs:tsize P el=kk) (hx:ev x=.arr id xs.length) (hm:m id=some (.arr el kk (xs.map f))) (hp:¬ pr id) (hy:ev y=.al kk (ys.map f)) (hl:app xs ys=some r) (h:K (.arr id r.length) (m.put id (.arr el kk (r.map f)))):LOp P pr ro ⟨some i,.call ⟨.builtin .append,#[x,y],#[t,t]⟩,ty,pos,af,g⟩ ev m K:=by
 obtain ⟨h0,rfl⟩:=BM hl
 subst hs
 rw [LOp_append,he,hy,hx]
 refine ⟨rfl,hr,rfl,?_⟩
 simp only [qM,hm]
 exact ⟨hp,by trivial,by trivial,by simp,by simpa using h0,by simpa using h⟩
theorem Dq {α:Type} {f:α→LV} {ys r:List α} (hi:100+i=id) (he:telem P t=some el) (hr:gz P el=true) (hs:tsize P el=kk) (hx:ev x=.nil) (hy:ev y=.al kk (ys.map f)) (hl:app [] ys=some r) (hf:m id=.none) (h:K (.arr id r.length) (m.put id (.arr el kk (r.map f)))):LOp P pr ro ⟨some i,.call ⟨.builtin .append,#[x,y],#[t,t]⟩,ty,pos,af,g⟩ ev m K:=by
 obtain ⟨h0,rfl⟩:=BM hl
 subst hs; subst hi
 rw [LOp_append,he,hy,hx]
 refine ⟨rfl,hr,rfl,?_⟩
 simp only [qM]
 exact ⟨hf,by simpa using h0,by simpa using h⟩
theorem ej {f : Nat} {cap args gB : List LV} {xs : List Operand} {ts : Array TypeId} (hx : ev x = .fn f cap) (hf : ∃ fn, P.funcs[f]? = some fn ∧ (fn.name == "runtime.NumGoroutine") = false ∧ fn.body.isNone = false) (ha : xs.map ev ++ cap = args) (hs : fo args gB) (hc : aO P f gB (Mem.of []) v (Mem.of [])) (hp : LV.bo args = true) (h : K v m) : LOp P pr ro ⟨d, .call ⟨.value x, xs.toArray, ts⟩, ty, pos, af, g⟩ ev m K := by
 subst ha
 rw [LOp_call,hx]
 exact ⟨hf,sr.Nk (hc.sub hs) hp m h⟩
theorem dX {f : Nat} {cap args gB : List LV} {xs : List Operand} {ts : Array TypeId} {ml cQ : List (Nat × LE)} (hx : ev x = .fn f cap) (hf : ∃ fn, P.funcs[f]? = some fn ∧ (fn.name == "runtime.NumGoroutine") = false ∧ fn.body.isNone = false) (ha : xs.map ev ++ cap = args) (hs : fo args gB) (hc : aO P f gB (Mem.of ml) v (Mem.of cQ)) (hm : me m ml) (rA : ∀ p ∈ cQ, (ml.any fun q => q.1 == p.1) = true ∨ m p.1 = .none) (hr : aV (args.map fun x => (0, x)) ml = true) (h : K v (m.over (Mem.of cQ))) (wq : Mem.of ml dv = .none := by exact rfl) : LOp P pr ro ⟨d, .call ⟨.value x, xs.toArray, ts⟩, ty, pos, af, g⟩ ev m K := by
 subst ha
 rw [LOp_call,hx]
 exact ⟨hf,aO.Nj (hc.sub hs) hm rA hr h wq⟩
def kc (e:Env):List (Nat × LV)→Prop
 | []=>True
 | (i,v) :: r=>Sub (e i) v∧kc e r
theorem kc.at:∀ {l:List (Nat × LV)},kc e l→∀ i,Sub (e i) (Env.of l i)
 | [],_,i=>Sub.eD
 | (j,v) :: r,h,i=>by
  simp only [Env.of]
  split
  ·rename_i hi; subst hi; exact h.1
  ·exact kc.at h.2 i
theorem eN:kc e []:=trivial
def Eu (e:Env):List (Nat × LV)→Prop
 | []=>True
 | (i,v) :: r=>e i=v∧Eu e r
theorem eQ:∀ {l:List (Nat × LV)},Eu e l→kc e l
 | [],_=>trivial
 | (i,v) :: r,h=>⟨h.1 ▸ Sub.rfl,eQ h.2⟩
theorem eC {r:List (Nat × LV)} (h:e i=v) (hr:kc e r):kc e ((i,v) :: r):=⟨h ▸ Sub.rfl,hr⟩
theorem eL {r:List (Nat × LV)} (h:e i=.nil) (hr:kc e r):kc e ((i,.al n []) :: r):=⟨h ▸ Sub.nil,hr⟩
theorem Iq (el:List (Nat × LV)) (i:Nat):Env.of (el.map fun p=>(p.1,e p.1)) i=if (el.any fun p=>p.1 == i)=true then e i else .eD:=by
 induction el with
 | nil=>rfl
 | cons p r ih =>
  simp only [List.map_cons,Env.of,List.any_cons]
  by_cases h:i=p.1
  ·simp [h]
  ·rw [if_neg h,ih]
   have:(p.1 == i)=false:=by simpa using fun h'=>h h'.symm
   simp only [this,Bool.false_or]
theorem Ga (el:List (Nat × LV)) (i:Nat) (h:¬ (el.any fun p=>p.1 == i)=true):Env.of el i=.eD:=by
 induction el with
 | nil=>rfl
 | cons p r ih =>
  simp only [List.any_cons,Bool.or_eq_true,not_or] at h
  simp only [Env.of]
  rw [if_neg (fun h'=>h.1 (by simp [h'])),ih h.2]
theorem Wk.to {ml:List (Nat × LE)} {el:List (Nat × LV)} (he:kc e el) (hm:me m ml) (hr:aV (el.map fun p=>(p.1,e p.1)) ml=true) (mE:∀ id,pr id→m id=.none ∨ Mem.of ml id ≠ .none):Wk pr e m (Env.of el) (Mem.of ml):=by
 refine (Wk.cut (el.map fun p=>(p.1,e p.1)) ml (fun p hp=>?_) hm.all hr mE).trans fun N c a bY=>⟨c,rfl,⟨fun i=>?_,bY.mem,bY.size,bY.defers⟩,.refl pr c⟩
 ·obtain ⟨q,_,rfl⟩:=List.mem_map.1 hp
  rfl
 ·have h1:=bY.env i
  rw [Iq] at h1
  by_cases hk:(el.any fun p=>p.1 == i)=true
  ·rw [if_pos hk] at h1; exact he.at i c _ h1
  ·rw [Ga el i hk]; simp [av]
theorem aX {nJ ml:List (Nat × LE)} (h:(nJ.all fun p=>ml.any fun q=>q.1 == p.1)=true):∀ id,Mem.of nJ id ≠ .none→m id=.none ∨ Mem.of ml id ≠ .none:=by
 intro id bB
 cases hx:Mem.of nJ id with
 | none=>exact absurd hx bB
 | some le=>exact .inr (jv (List.all_eq_true.1 h _ (fq hx)))
theorem bH {nJ:List (Nat × LE)} (h:Mem.of nJ id=.none):¬ (fun id=>Mem.of nJ id ≠ .none) id:=fun h'=>h' h
def sq (id:Nat):List (Nat × LV)→List (Nat × LV)→Prop
 | [],[]=>True
 | p :: r,q :: s=>(q.1=p.1∧(q.2=p.2 ∨ (p.2=.nil∧q.2=.arr id 0)))∧sq id r s
 | _,_=>False
theorem wN:sq id [] []:=trivial
theorem wK {p:Nat × LV} {r s:List (Nat × LV)} (h:sq id r s):sq id (p :: r) (p :: s):=⟨⟨rfl,.inl rfl⟩,h⟩
theorem wO {r s:List (Nat × LV)} (h:sq id r s):sq id ((i,.nil) :: r) ((i,.arr id 0) :: s):=⟨⟨rfl,.inr ⟨rfl,rfl⟩⟩,h⟩
theorem sq.len:∀ {el fB:List (Nat × LV)},sq id el fB→fB.length=el.length
 | [],[],_=>rfl
 | _ :: _,_ :: _,h=>by simp [h.2.len]
theorem sq.get:∀ {el fB:List (Nat × LV)},sq id el fB→∀ i:Nat,∀ p q,el[i]?=some p→fB[i]?=some q→q.1=p.1∧(q.2=p.2 ∨ (p.2=.nil∧q.2=.arr id 0))
 | [],[],_,i,p,q,hp,hq=>by simp at hp
 | a :: r,b :: s,h,0,p,q,hp,hq=>by simp at hp hq; subst hp; subst hq; exact h.1
 | a :: r,b :: s,h,i+1,p,q,hp,hq=>by simp at hp hq; exact h.2.get i p q hp hq
theorem Wk.tC {el fB:List (Nat × LV)} {ml:List (Nat × LE)} (id e0 k0:Nat) (bB:Mem.of ml id=.none) (hk:Nat.ble 1 k0=true) (h:sq id el fB):Wk pr (Env.of el) (Mem.of ml) (Env.of fB) (Mem.of ((id,.arr e0 k0 []) :: ml)) :=
 Wk.own id e0 k0 bB (Nat.le_of_ble_eq_true hk) h.len h.get
theorem LH.aS {Mt:Nat} {Q:Exit→Env→Mem→Prop} (el:List (Nat × LV)) (ml:List (Nat × LE)) (hd:oK N l=true) (h:cH P N pr l.toArray l (fun e m=>Wk pr e m (Env.of el) (Mem.of ml)) e m) (hr:Q .normal (Env.of el) (Mem.of ml)):LH P N pr (.region Mt l.toArray false) Q e m:=by
 obtain ⟨e',m',hK,du⟩:=h (rP hd) (by simp)
 refine ⟨.normal,_,_,mK.post (e':=e') (m':=m') (fun c a hr=>?_) hK,hr⟩
 refine wp_region ?_
 rw [List.size_toArray,List.range_eq_range',wpOps_eq_wpList l 0 (by simp)]
 exact du c a hr
theorem LH.aj {Mt:Nat} {yc:Code} {Q:Exit→Env→Mem→Prop} (el:List (Nat × LV)) (ml:List (Nat × LE)) (hd:oK N l=true) (h:cH P N pr l.toArray l (fun e m=>Wk pr e m (Env.of el) (Mem.of ml)) e m) (hr:LH P N pr yc Q (Env.of el) (Mem.of ml)):LH P N pr (.seq (.region Mt l.toArray false) yc) Q e m :=
 LH.seq (LH.aS el ml hd h hr)
theorem LH.ti {Mt:Nat} {Q:Exit→Env→Mem→Prop} (AJ:P.follows .mixedOrders=true) (ro:List Nat) (et:List Nat) (el:List (Nat × LV)) (ml:List (Nat × LE)) (hlen:et.length=l.length) (hd:oK N l=true) (gD:Ar l.toArray et=true)
  (h:cA P pr ro l.toArray (l.zip et) (fun e m=>Wk pr e m (Env.of el) (Mem.of ml)) e m) (hr:Q .normal (Env.of el) (Mem.of ml)):LH P N pr (.region Mt l.toArray true) Q e m:=by
 obtain ⟨e',m',hK,hc⟩:=kJ _ h
 rw [← qJ l et hlen] at hc
 obtain ⟨ex,e2,m2,h1,h2⟩:=LH.Cz (Q:=fun ex e m=>ex=.normal∧e=e'∧m=m') AJ ro et hd gD hc ⟨rfl,rfl,rfl⟩
 obtain ⟨rfl,rfl,rfl⟩:=h2
 exact ⟨.normal,_,_,h1.post hK,hr⟩
section
variable {Q:Exit→Env→Mem→Prop} {M:Env→Mem→Prop} {I:Nat→Env→Mem→Prop}
theorem au (h:M e m):zA M Q .normal e m:=h
theorem cD (h:Q (.exit i) e m):zA M Q (.exit i) e m:=h
theorem aU (h:Q .ret e m):zA M Q .ret e m:=h
theorem aY (h:Q .normal e m):lR j Q .normal e m:=h
theorem bD (h:Q .ret e m):lR j Q .ret e m:=h
theorem bP (h:Q .normal e m):lR j Q (.exit j) e m:=by simp only [lR,if_true]; exact h
theorem EJ (hn:Nat.beq i j=false) (h:Q (.exit i) e m):lR j Q (.exit i) e m:=by simp only [lR]; rw [if_neg (fun h'=>by subst h'; simp at hn)]; exact h
theorem b6 (h:Q (.exit i) e m):tV pr I n Q (.exit i) e m:=h
theorem dW (h:Q .ret e m):tV pr I n Q .ret e m:=h
theorem Mv {e':Env} {m':Mem} (hw:Wk pr e m e' m') (h:I n e' m'):tV pr I (n+1) Q .normal e m:=⟨e',m',hw,n,Nat.lt_succ_self n,h⟩
end
def Ends (I0:LV) (va:List (Nat × LE)) (lv:LV) (m':Mem):Prop:=Sub lv I0∧m'=Mem.of va
theorem bL {KL:List LV→Prop} (h:KL []):ju P e m [] KL:=h
theorem bO {KL:List LV→Prop} {r:List ResultVar} (hv:e i=v) (h:ju P e m r fun l=>KL (v :: l)):ju P e m (.tmp i :: r) KL:=by simp only [ju]; rw [hv]; exact h
theorem PM {KL:List LV→Prop} {r:List ResultVar} (hv:e i=.ptr id o) (hm:m id=some (.box cs)) (hl:Nat.ble o cs.length=true) (ht:tok P t=true) (ha:tagg P t=true) (hs:tsize P t=n) (B5:Nat.ble n (cs.drop o).length=true) (hc:(cs.drop o).take n=dj) (h:ju P e m r fun l=>KL (.agg dj :: l)):ju P e m (.cell i t :: r) KL:=by
 subst hc; subst hs
 simp only [ju,hv,hm,loadC_def,ha,if_true]; exact ⟨Nat.le_of_ble_eq_true hl,ht,Nat.le_of_ble_eq_true B5,h⟩
theorem cN {KL:List LV→Prop} {r:List ResultVar} (hv:e i=.ag cs) (ht:tok P t=true) (ha:tagg P t=true) (hs:tsize P t=n) (B5:Nat.ble n cs.length=true) (hc:cs.take n=dj) (h:ju P e m r fun l=>KL (.agg dj :: l)):ju P e m (.cell i t :: r) KL:=by
 subst hc; subst hs
 simp only [ju,hv,loadC_def,ha,if_true]; exact ⟨ht,Nat.le_of_ble_eq_true B5,h⟩
theorem aN {fn:Func} {rs:List ResultVar} {I0:LV} {va:List (Nat × LE)} (hr:fn.results.toList=rs) (h:ju P e m rs fun l=>(∀ p ∈ va,m p.1=some p.2)∧aV [(0,oneOf l)] va=true∧(∀ id,pr id→m id=.none ∨ Mem.of va id ≠ .none)∧Sub (oneOf l) I0):Ms P fn pr (Ends I0 va) .ret e m:=by
 have key : ∀ (rs : List ResultVar) (K K' : List LV → Prop), (∀ l, K l → K' l) → ju P e m rs K → ju P e m rs K' := by
  intro rs
  induction rs with
  | nil=>intro K K' hk h; exact hk _ h
  | cons r rs ih =>
   intro K K' hk h
   have hl:∀ (t:TypeId) (cs:List LV) (A B:LV→Prop),(∀ x,A x→B x)→loadC P t cs A→loadC P t cs B:=by
    intro t cs A B mj hA
    obtain ⟨ht,hA⟩:=hA
    refine ⟨ht,?_⟩
    split at hA
    ·rename_i hg; rw [if_pos hg]; exact ⟨hA.1,mj _ hA.2⟩
    ·rename_i hg
     rw [if_neg hg]
     match cs,hA with
     | x :: cs,hA=>exact mj _ hA
   cases r with
   | tmp t=>exact ih _ _ (fun l hl=>hk _ hl) h
   | cell a t =>
    simp only [ju] at h ⊢
    cases hx:e a <;> simp only [hx] at h ⊢
    case ag cs=>exact hl _ _ _ _ (fun lv N6=>ih _ _ (fun l hl=>hk _ hl) N6) h
    case ptr id o =>
     cases hm:m id with
     | none=>simp [hm] at h
     | some le =>
      cases le with
      | map _ _ _=>simp [hm] at h
      | nest _ _ _ _=>simp [hm] at h
      | c6 _ _ _ _ _ _ _ _=>simp [hm] at h
      | dead=>simp [hm] at h
      | arr _ _ _=>simp [hm] at h
      | box cs =>
       simp only [hm] at h ⊢
       exact ⟨h.1,hl _ _ _ _ (fun lv N6=>ih _ _ (fun l hl=>hk _ hl) N6) h.2⟩
 show ju P e m fn.results.toList _
 rw [hr]
 exact key _ _ _ (fun l ⟨h1,h2,h3,h4⟩=>⟨va,h1,h2,h3,h4,rfl⟩) h
theorem bx {f:Nat} {fn:Func} {code:Code} {args:List LV} {nJ va:List (Nat × LE)} {I0:LV} (hf:P.funcs[f]?=some fn) (hb:fn.body=some code) (hn:args.length≤fn.ntmps)
  (h:LH P fn.ntmps (fun id=>Mem.of nJ id ≠ .none) code (Ms P fn (fun id=>Mem.of nJ id ≠ .none) (Ends I0 va)) (Env.args args) (Mem.of nJ)):aO P f args (Mem.of nJ) I0 (Mem.of va):=by
 obtain ⟨lv,m',h1,h2,rfl⟩:=aO.Ip (R:=Ends I0 va) hf hb hn h
 exact h1.res h2
theorem aM {ml:List (Nat × LE)} (h:me m ml):∀ p ∈ ml,m p.1=some p.2:=h.all
theorem bU {ml:List (Nat × LE)}:∀ p ∈ ([]:List (Nat × LE)),(ml.any fun q=>q.1 == p.1)=true ∨ m p.1=.none:=by simp
theorem bT {ml cQ:List (Nat × LE)} {le:LE} (h:(ml.any fun q=>q.1 == i)=true) (h2:∀ p ∈ cQ,(ml.any fun q=>q.1 == p.1)=true ∨ m p.1=.none):∀ p ∈ (i,le) :: cQ,(ml.any fun q=>q.1 == p.1)=true ∨ m p.1=.none:=by
 intro p hp; rcases List.mem_cons.1 hp with rfl | hp
 ·exact .inl h
 ·exact h2 p hp
theorem lI {ml cQ:List (Nat × LE)} {le:LE} (h:m i=.none) (h2:∀ p ∈ cQ,(ml.any fun q=>q.1 == p.1)=true ∨ m p.1=.none):∀ p ∈ (i,le) :: cQ,(ml.any fun q=>q.1 == p.1)=true ∨ m p.1=.none:=by
 intro p hp; rcases List.mem_cons.1 hp with rfl | hp
 ·exact .inr h
 ·exact h2 p hp
end
mutual
theorem oO {id k:Nat} {ys:List LV}:∀ (x:LV),x.a8 id=true→x.eJ id k ys=x
 | .eD,_ | .int _ _,_ | .bool _,_ | .nil,_ | .p7 _,_ | .full _ _,_ | .str _,_ | .it _,_ | .k5,_ | .fj,_ | .al _ _,_ | .aJ _ _ _ _,_=>by simp [LV.eJ]
 | .ag cs,h=>by simp only [LV.a8] at h; simp [LV.eJ,h]
 | .fS _ cs,h=>by simp only [LV.a8] at h; simp [LV.eJ,h]
 | .arr i n,h=>by simp [LV.a8] at h; simp [LV.eJ,h]
 | .ptr i n,h=>by simp [LV.a8] at h; simp [LV.eJ,h]
 | .bE i n j o,h=>by simp [LV.a8] at h; simp [LV.eJ,h]
 | .mp i,h=>by simp [LV.a8] at h; simp [LV.eJ,h]
 | .agg cs,h=>by simp only [LV.a8] at h; simp only [LV.eJ]; rw [jn cs h]
 | .cV cs,h=>by simp only [LV.a8] at h; simp only [LV.eJ]; rw [jn cs h]
 | .fn _ cs,h=>by simp only [LV.a8] at h; simp only [LV.eJ]; rw [jn cs h]
 | .vQ _ cs,h=>by simp only [LV.a8] at h; simp only [LV.eJ]; rw [jn cs h]
theorem jn {id k:Nat} {ys:List LV}:∀ (xs:List LV),LV.cu id xs=true→LV.ga id k ys xs=xs
 | [],_=>by simp [LV.ga]
 | x :: xs,h=>by
  simp only [LV.cu,Bool.and_eq_true] at h
  simp only [LV.ga]; rw [oO x h.1,jn xs h.2]
end
def oy (id n:Nat) (lv:LV):List (Nat × LV)→List (Nat × LV)→Prop
 | [],[]=>True
 | p :: r,q :: s=>(q.1=p.1∧((q.2=p.2∧p.2.a8 id=true) ∨ (p.2=.arr id n∧q.2=lv)))∧oy id n lv r s
 | _,_=>False
theorem fN {id n:Nat} {lv:LV}:oy id n lv [] []:=trivial
theorem fK {id n:Nat} {lv:LV} {p:Nat × LV} {r s:List (Nat × LV)} (h0:p.2.a8 id=true) (h:oy id n lv r s):oy id n lv (p :: r) (p :: s):=⟨⟨rfl,.inl ⟨rfl,h0⟩⟩,h⟩
theorem fZ {id n i:Nat} {lv:LV} {r s:List (Nat × LV)} (h:oy id n lv r s):oy id n lv ((i,.arr id n) :: r) ((i,lv) :: s):=⟨⟨rfl,.inr ⟨rfl,rfl⟩⟩,h⟩
theorem oy.sub {id k n:Nat} {ys:List LV} (hn:n=ys.length):∀ {el fB:List (Nat × LV)},oy id n (.al k ys) el fB→∀ i,Sub (Env.of (el.map fun p=>(p.1,p.2.eJ id k ys)) i) (Env.of fB i)
 | [],[],_,i=>Sub.rfl
 | p :: r,q :: s,h,i=>by
  obtain ⟨⟨h1,h2⟩,h3⟩:=h
  obtain ⟨pi,pv⟩:=p
  obtain ⟨qi,qv⟩:=q
  simp only at h1 h2
  subst h1
  simp only [List.map_cons,Env.of]
  by_cases hi:i=qi
  ·simp only [hi,if_true]
   rcases h2 with ⟨rfl,h2⟩ | ⟨rfl,rfl⟩
   ·rw [oO _ h2]; exact Sub.rfl
   ·simp only [LV.eJ,if_true,hn]; exact Sub.rfl
  ·simp only [hi,if_false]
   exact oy.sub hn h3 i
theorem Wk.lC {pr:Nat→Prop} {α:Type} {f:α→LV} {el fB:List (Nat × LV)} {ml:List (Nat × LE)} (id e0 k0:Nat) (xs:List α) (bB:Mem.of ml id=some (.arr e0 k0 (xs.map f))) (kp:sL id ml=true) (mE:¬ pr id) (h:oy id xs.length (.al k0 (xs.map f)) el fB) :
  Wk pr (Env.of el) (Mem.of ml) (Env.of fB) (Mem.of (ml.filter fun q=>q.1 != id)) :=
 (Wk.eJ id e0 k0 (xs.map f) bB kp mE).trans fun N c a hr=>⟨c,rfl,⟨fun i=>oy.sub (by simp) h i c _ (hr.env i),hr.mem,hr.size,hr.defers⟩,.refl pr c⟩
theorem mN {m:Mem}:me m []:=trivial
theorem mC {m:Mem} {i:Nat} {v:LE} {r:List (Nat × LE)} (h:m i=some v) (hr:me m r):me m ((i,v) :: r):=⟨h,hr⟩
theorem bm:fo [] []:=trivial
theorem aI {x:LV} {xs ys:List LV} (h:fo xs ys):fo (x :: xs) (x :: ys):=⟨Sub.rfl,h⟩
theorem qC {k:Nat} {xs ys:List LV} (h:fo xs ys):fo (.nil :: xs) (.al k [] :: ys):=⟨Sub.nil,h⟩
theorem lj {x y:LV} {xs ys:List LV} (h0:Sub x y) (h:fo xs ys):fo (x :: xs) (y :: ys):=⟨h0,h⟩
abbrev lvl {α:Type} (k:Nat) (f:α→LV):List α→LV:=fun xs=>.al k (xs.map f)
theorem dP {b x:Bool} (h:b=true):x=(b && x):=by subst h; simp
theorem kB {b x:Bool} (h:b=false):false=(b && x):=by subst h; simp
theorem pn {b x:Bool} (h:b=true):true=(b || x):=by subst h; simp
theorem gQ {b x:Bool} (h:b=false):x=(b || x):=by subst h; simp
theorem fo.head {x y:LV} {xs ys:List LV} (h:fo (x :: xs) (y :: ys)):Sub x y:=h.1
end Go.L
namespace Go.L
section
variable {P:Program} {N:Nat} {pr:Nat→Prop} {ro:List Nat} {ops:Array Oper} {e:Env} {m m':Mem} {ev HN:Operand→LV} {o:Oper} {lv:LV} {l:List Oper} {et:List Nat} {KE:Env→Mem→Prop}
theorem bn.ok (h:bn P pr o ev m lv m'):cj P pr o ev m lv m':=fun c a Q bA hm=>h c a Q (fun x _=>bA x) hm
theorem bn.value (h:∀ (c:Cx) (a:Act),(∀ x ∈ o.op.operands,av c (ev x) (a.eval x))→b3 c m→∃ v c',(execOp a.eval o).run P c.w=.ok (.value v) c'.w∧av c' lv v∧b3 c' m'∧Step pr c c'):bn P pr o ev m lv m':=by
 intro c a Q bA hm
 obtain ⟨v,c',hr,h1,h2,h3⟩:=h c a bA hm
 unfold Oper.wp
 rw [hr]
 exact ⟨v,c',rfl,rfl,h1,h2,h3⟩
theorem bn.skip (hd:o.dst=.none) (h:∀ (c:Cx) (a:Act),(∀ x ∈ o.op.operands,av c (ev x) (a.eval x))→b3 c m→∃ c',(execOp a.eval o).run P c.w=.ok .skip c'.w∧b3 c' m'∧Step pr c c'):bn P pr o ev m .eD m':=by
 intro c a Q bA hm
 obtain ⟨c',hr,h2,h3⟩:=h c a bA hm
 unfold Oper.wp
 rw [hr]
 exact ⟨undef,c',by simp [Act.put,hd],rfl,by simp [av],h2,h3⟩
theorem sX {i:Nat} {op:Op} {ty:TypeId} {pos:String} {af:Array Edge} (h:cj P pr ⟨some i,op,ty,pos,af,.none⟩ (da e) m lv m') (hr:cH P N pr ops l KE (e.put i lv) m'):cH P N pr ops (⟨some i,op,ty,pos,af,.none⟩ :: l) KE e m:=by
 intro hd hl
 obtain ⟨e2,m2,hK,jP⟩:=hr hd (fun q hq=>hl q (by simp [hq]))
 refine ⟨e2,m2,hK,fun c a bY=>?_⟩
 simp only [wpList]
 rw [if_pos (by simp [Region.wanted])]
 left
 refine Oper.wp_mono ?_ (h c a _ bY.ev bY.mem)
 rintro a' w' ⟨v,c',rfl,rfl,hv,iO,hs⟩
 have te:mw N c' (e.put i lv) m' (a.put (some i) v):=bY.put (d:=some i) hs iO (hd ⟨some i,op,ty,pos,af,.none⟩ (hl _ (by simp))) hv
 refine gq _ _ _ _ _ ?_ (jP c' _ te)
 rintro x Nf MH ⟨hx,c2,qV,fH,pL⟩
 exact ⟨hx,c2,qV,fH,hs.grow.trans pL⟩
theorem HB {op:Op} {ty:TypeId} {pos:String} {af:Array Edge} (h:cj P pr ⟨.none,op,ty,pos,af,.none⟩ (da e) m lv m') (hr:cH P N pr ops l KE e m'):cH P N pr ops (⟨.none,op,ty,pos,af,.none⟩ :: l) KE e m:=by
 intro hd hl
 obtain ⟨e2,m2,hK,jP⟩:=hr hd (fun q hq=>hl q (by simp [hq]))
 refine ⟨e2,m2,hK,fun c a bY=>?_⟩
 simp only [wpList]
 rw [if_pos (by simp [Region.wanted])]
 left
 refine Oper.wp_mono ?_ (h c a _ bY.ev bY.mem)
 rintro a' w' ⟨v,c',ha,rfl,hv,iO,hs⟩
 have te:mw N c' e m' a':=by rw [ha]; exact bY.put (d:=.none) hs iO (by simp) hv
 refine gq _ _ _ _ _ ?_ (jP c' _ te)
 rintro x Nf MH ⟨hx,c2,qV,fH,pL⟩
 exact ⟨hx,c2,qV,fH,hs.grow.trans pL⟩
theorem Mx {i j q:Nat} {want:Bool} {op:Op} {ty:TypeId} {pos:String} {af:Array Edge} (hj:(ops[j]?).bind (·.dst)=some q) (hg:e q=.bool want) (h:cj P pr ⟨some i,op,ty,pos,af,some (j,want)⟩ (da e) m lv m') (hr:cH P N pr ops l KE (e.put i lv) m'):cH P N pr ops (⟨some i,op,ty,pos,af,some (j,want)⟩ :: l) KE e m:=by
 intro hd hl
 obtain ⟨e2,m2,hK,jP⟩:=hr hd (fun q hq=>hl q (by simp [hq]))
 refine ⟨e2,m2,hK,fun c a bY=>?_⟩
 simp only [wpList]
 rw [nV bY hd rfl hj hg,if_pos (by simp)]
 left
 refine Oper.wp_mono ?_ (h c a _ bY.ev bY.mem)
 rintro a' w' ⟨v,c',rfl,rfl,hv,iO,hs⟩
 have te:mw N c' (e.put i lv) m' (a.put (some i) v):=bY.put (d:=some i) hs iO (hd ⟨some i,op,ty,pos,af,some (j,want)⟩ (hl _ (by simp))) hv
 refine gq _ _ _ _ _ ?_ (jP c' _ te)
 rintro x Nf MH ⟨hx,c2,qV,fH,pL⟩
 exact ⟨hx,c2,qV,fH,hs.grow.trans pL⟩
def iK:LV→Option Value
 | .agg cs=>(ew cs).map fun vs=>.agg vs.toArray
 | x=>kj x
theorem sE {c:Cx} {x:LV} {u v:Value} (h:kj x=some u) (hr:av c x v):v=u:=by
 cases x <;> simp [kj] at h <;> subst h <;> simpa [av] using hr
theorem qQ {c:Cx}:∀ {xs:List LV} {us vs:List Value},ew xs=some us→aC c xs vs→vs=us
 | [],us,vs,h,hr=>by simp [ew] at h; subst h; simpa [aC] using hr
 | x :: xs,us,vs,h,hr=>by
  simp only [ew] at h
  split at h
  ·rename_i v0 vs0 h1 h2
   cases h
   simp only [aC] at hr
   obtain ⟨v,fI,rfl,h3,h4⟩:=hr
   rw [sE h1 h3,qQ h2 h4]
  ·cases h
theorem oN {c:Cx} {x:LV} {u v:Value} (h:iK x=some u) (hr:av c x v):v=u:=by
 cases x
 case agg cs =>
  simp only [iK,Option.map_eq_some_iff] at h
  obtain ⟨vs,h1,rfl⟩:=h
  simp only [av] at hr
  obtain ⟨us,rfl,h2⟩:=hr
  rw [qQ h1 h2]
 all_goals (simp only [iK] at h; exact sE h hr)
theorem sD {x y:LV} {u:Value} (h:kj x=some u) (h':kj y=some u):x=y:=by
 cases x <;> simp [kj] at h <;> subst h <;> cases y <;> simp [kj] at h' <;> simp [h']
theorem sG:∀ {xs ys:List LV} {us:List Value},ew xs=some us→ew ys=some us→xs=ys
 | [],ys,us,h,h'=>by
  simp [ew] at h; subst h
  cases ys with
  | nil=>rfl
  | cons y ys=>simp only [ew] at h'; split at h' <;> cases h'
 | x :: xs,ys,us,h,h'=>by
  simp only [ew] at h
  split at h
  ·rename_i v0 vs0 h1 h2
   cases h
   cases ys with
   | nil=>simp [ew] at h'
   | cons y ys =>
    simp only [ew] at h'
    split at h'
    ·rename_i v1 Vh h3 h4
     cases h'
     rw [sD h1 h3,sG h2 h4]
    ·cases h'
  ·cases h
theorem sH {x y:LV} {u:Value} (h:iK x=some u) (h':iK y=some u):x=y:=by
 have a1:∀ cs v,(ew cs).map (fun vs:List Value=>Value.agg vs.toArray)=some v→∃ us,ew cs=some us∧v=.agg us.toArray:=fun cs v hv=>by
  simp only [Option.map_eq_some_iff] at hv
  obtain ⟨us,h1,h2⟩:=hv; exact ⟨us,h1,h2.symm⟩
 cases x
 case agg cs =>
  obtain ⟨us,h1,rfl⟩:=a1 cs u h
  cases y
  case agg ds =>
   obtain ⟨RI,h2,h3⟩:=a1 ds _ h'
   have:us=RI:=by simpa using h3
   subst this
   rw [sG h1 h2]
  all_goals simp [iK,kj] at h'
 all_goals
  cases y
  case agg ds =>
   obtain ⟨RI,h2,h3⟩:=a1 ds _ h'
   subst h3
   simp [iK,kj] at h
  all_goals (simp only [iK] at h h'; exact sD h h')
structure IZ (P:Program) (k:TypeId) (S:Value→Prop):Prop where
 check:∀ (w:World) (em:Bool) (v:Value),S v→(Instr.checkKey em 10000 k v).run P w=.ok () w
 find:∀ (w:World) (x:Value),S x→∀ es:List MapEntry,(∀ e ∈ es,S e.key)→((Instr.findKey k x es).run P w=.ok .none w∧∀ e ∈ es,e.key ≠ x) ∨ ∃ j e,(Instr.findKey k x es).run P w=.ok (some (j,e.val)) w∧es[j]?=some e∧e.key=x
 stays:∀ (w:World) (v:Value),S v→(Instr.keyThatStays v v).run P w=.ok v w
def zD (P:Program) (t:TypeId):Option (Nat × Nat):=match P.underlying t with | some (.map k v)=>some (k,v) | _=>.none
theorem lZ {t k v:Nat} (h:zD P t=some (k,v)):P.underlying t=some (.map k v):=by
 unfold zD at h; split at h <;> simp_all
def gU {α β:Type} [DecidableEq α]:List (α × β)→α→Option β
 | [],_=>.none
 | (a,b) :: r,k=>if a=k then some b else gU r k
def ee {α β:Type} [DecidableEq α]:List (α × β)→α→β→List (α × β)
 | [],k,v=>[(k,v)]
 | (a,b) :: r,k,v=>if a=k then (k,v) :: r else (a,b) :: ee r k v
variable {α β:Type} [DecidableEq α] {f:α→LV} {g:β→LV}
abbrev dO (f:α→LV) (g:β→LV) (xs:List (α × β)):List (LV × LV):=xs.map fun p=>(f p.1,g p.2)
def xv (f:α→LV) (S:Value→Prop):Prop:=(∀ x,∃ v,iK (f x)=some v∧S v∧(f x).pure=true)∧∀ x y,f x=f y→x=y
theorem Dn {xs:List (α × β)} {k:α} (h:∀ p ∈ xs,p.1 ≠ k):gU xs k=.none:=by
 induction xs with
 | nil=>rfl
 | cons p r ih =>
  obtain ⟨a,b⟩:=p
  simp only [gU]
  rw [if_neg (h (a,b) (by simp)),ih fun q hq=>h q (by simp [hq])]
theorem Ij {xs:List (α × β)} {k:α} {b:β} {j:Nat} (hn:(xs.map (·.1)).Nodup) (h:xs[j]?=some (k,b)):gU xs k=some b:=by
 induction xs generalizing j with
 | nil=>simp at h
 | cons p r ih =>
  obtain ⟨a,b'⟩:=p
  simp only [List.map_cons,List.nodup_cons] at hn
  simp only [gU]
  cases j with
  | zero=>simp at h; rw [if_pos h.1,h.2]
  | succ j =>
   simp at h
   have:a ≠ k:=fun he=>hn.1 (by subst he; exact List.mem_map.2 ⟨_,List.mem_of_getElem? h,rfl⟩)
   rw [if_neg this]; exact ih hn.2 h
theorem Dp {xs:List (α × β)} {k:α} {v:β} (h:∀ p ∈ xs,p.1 ≠ k):ee xs k v=xs++[(k,v)]:=by
 induction xs with
 | nil=>rfl
 | cons p r ih =>
  obtain ⟨a,b⟩:=p
  simp only [ee]
  rw [if_neg (h (a,b) (by simp)),ih fun q hq=>h q (by simp [hq])]; rfl
theorem F2 {xs:List (α × β)} {k:α} {b v:β} {j:Nat} (hn:(xs.map (·.1)).Nodup) (h:xs[j]?=some (k,b)):ee xs k v=xs.set j (k,v):=by
 induction xs generalizing j with
 | nil=>simp at h
 | cons p r ih =>
  obtain ⟨a,b'⟩:=p
  simp only [List.map_cons,List.nodup_cons] at hn
  simp only [ee]
  cases j with
  | zero=>simp at h; rw [if_pos h.1]; rfl
  | succ j =>
   simp at h
   have:a ≠ k:=fun he=>hn.1 (by subst he; exact List.mem_map.2 ⟨_,List.mem_of_getElem? h,rfl⟩)
   rw [if_neg this,ih hn.2 h]; rfl
omit [DecidableEq α] in
theorem Ce {c:Cx} {id kt vt:Nat} {S:Value→Prop} {xs:List (α × β)} {v:Value} (hm:b3 c m) (bB:m id=some (.map kt vt (dO f g xs))) (hv:av c (.mp id) v) (hf:xv f S) :
  ∃ b jF ck,c.B id=some (.mp b)∧v=.map (some b)∧c.w.heap[b]?=some (.map jF ck)∧jF.toList.length=xs.length∧(∀ (j:Nat) (x:α) (y:β),xs[j]?=some (x,y)→∃ (en:MapEntry) (u:Value),jF.toList[j]?=some en∧iK (f x)=some en.key∧S en.key∧u=en.val∧av c (g y) u)∧(xs.map (·.1)).Nodup∧LV.bo (xs.map fun p=>g p.2)=true:=by
 have he:=hm.gE id
 rw [bB] at he
 simp only [bw] at he
 obtain ⟨b,jF,ck,h1,h2,h3,h4,h5,h6,h7,_⟩:=he
 simp only [av] at hv
 obtain ⟨b',gH,rfl⟩:=hv
 rw [h1] at gH; cases gH
 have l3:=h3.length
 simp only [dO,List.map_map,List.length_map] at l3
 refine ⟨b,jF,ck,h1,rfl,h2,l3.symm,fun j x y hj=>?_,?_,?_⟩
 ·have hk:((dO f g xs).map (·.1))[j]?=some (f x):=by simp [dO,hj]
  have LI:((dO f g xs).map (·.2))[j]?=some (g y):=by simp [dO,hj]
  obtain ⟨k1,UL,V2⟩:=h3.get hk
  obtain ⟨u,Jl,Lw⟩:=h4.get LI
  simp only [List.getElem?_map,Option.map_eq_some_iff] at UL Jl
  obtain ⟨en,UF,rfl⟩:=UL
  obtain ⟨Rc,UG,rfl⟩:=Jl
  rw [UF] at UG; cases UG
  obtain ⟨kv,e1,e2,_⟩:=hf.1 x
  have:=oN e1 V2
  exact ⟨en,en.val,UF,by rw [e1,this],by rw [this]; exact e2,rfl,Lw⟩
 ·simp only [dO,List.map_map] at h7
  rw [List.nodup_iff_pairwise_ne] at h7 ⊢
  rw [List.pairwise_map] at h7 ⊢
  exact h7.imp fun {p q} h he=>h (congrArg f he)
 ·simp only [dO,List.map_map] at h6; exact h6
omit [DecidableEq α] in
theorem yi {c:Cx} {S:Value→Prop} {xs:List (α × β)} {jF:List MapEntry} (hl:jF.length=xs.length) (h:∀ (j:Nat) (x:α) (y:β),xs[j]?=some (x,y)→∃ (en:MapEntry) (u:Value),jF[j]?=some en∧iK (f x)=some en.key∧S en.key∧u=en.val∧av c (g y) u):(∀ en ∈ jF,S en.key)∧∀ (j:Nat) en,jF[j]?=some en→∃ x y,xs[j]?=some (x,y)∧iK (f x)=some en.key∧av c (g y) en.val:=by
 have key:∀ (j:Nat) en,jF[j]?=some en→∃ x y,xs[j]?=some (x,y)∧iK (f x)=some en.key∧S en.key∧av c (g y) en.val:=fun j en hj=>by
  have ec:j<xs.length:=by rw [← hl]; exact (List.getElem?_eq_some_iff.1 hj).1
  obtain ⟨Rc,u,h1,h2,h3,rfl,h5⟩:=h j xs[j].1 xs[j].2 (by simp [ec])
  rw [hj] at h1; cases h1
  exact ⟨xs[j].1,xs[j].2,by simp [ec],h2,h3,h5⟩
 refine ⟨fun en VP=>?_,fun j en hj=>?_⟩
 ·obtain ⟨j,hj⟩:=List.mem_iff_getElem?.1 VP
  obtain ⟨_,_,_,_,h3,_⟩:=key j en hj; exact h3
 ·obtain ⟨x,y,h1,h2,_,h4⟩:=key j en hj; exact ⟨x,y,h1,h2,h4⟩
theorem Ho {vt:TypeId} {z:LV} (h:tzero P vt=some z) (w:World):∃ zv,(zeroValue vt).run P w=.ok zv w∧∀ c,av c z zv:=by
 unfold tzero at h
 split at h
 ·rename_i i hi
  split at h
  ·rename_i zv hz
   split at h
   ·cases h
    exact ⟨zv,by simp [zeroValue,typeInfo,Sem.run,hi,hz],fun c=>ng c zv⟩
   ·cases h
  ·cases h
 ·cases h
theorem look {c:Cx} {id kt vt:Nat} {t:TypeId} {S:Value→Prop} {xs:List (α × β)} {key:α} {z:β} {v kv:Value} (ht:zD P t=some (kt,vt)) (K:IZ P kt S) (hf:xv f S) (hm:b3 c m) (bB:m id=some (.map kt vt (dO f g xs))) (hv:av c (.mp id) v) (hk:av c (f key) kv) (hz:tzero P vt=some (g z)) (ok:Bool) :
  ∃ u,(Instr.lookup t v kv ok).run P c.w=.ok (if ok then .tuple #[u,.bool (gU xs key).isSome] else u) c.w∧av c (g ((gU xs key).getD z)) u:=by
 obtain ⟨b,jF,ck,hB,rfl,hh,hlen,qc,hnd,_⟩:=Ce hm bB hv hf
 obtain ⟨hS,EZ⟩:=yi hlen qc
 obtain ⟨k0,e1,e2,_⟩:=hf.1 key
 obtain rfl:k0=kv:=(oN e1 hk).symm
 rcases K.find c.w k0 e2 jF.toList hS with ⟨h1,h2⟩ | ⟨j,en,h1,h2,h3⟩
 ·have kF:gU xs key=.none:=Dn fun p hp he=>by
   obtain ⟨j,hj⟩:=List.mem_iff_getElem?.1 hp
   obtain ⟨en,u,h4,h5,_⟩:=qc j p.1 p.2 hj
   rw [he,e1] at h5
   exact h2 en (List.mem_of_getElem? h4) (Option.some.inj h5).symm
  obtain ⟨zv,B7,LS⟩:=Ho hz c.w
  refine ⟨zv,?_,by rw [kF]; exact LS c⟩
  simp [Instr.lookup,run_underlying (lZ ht),MapKept.run_getObj_map hh,K.check c.w _ _ e2,h1,B7,Result.andThen,kF]
 ·obtain ⟨x,y,h4,h5,h6⟩:=EZ j en h2
  have hx:x=key:=hf.2 x key (sH h5 (by rw [h3]; exact e1))
  subst hx
  have Jk:gU xs x=some y:=Ij hnd h4
  refine ⟨en.val,?_,by rw [Jk]; exact h6⟩
  simp [Instr.lookup,run_underlying (lZ ht),MapKept.run_getObj_map hh,K.check c.w _ _ e2,h1,Result.andThen,Jk]
theorem tw {id kt vt:Nat} {t:TypeId} {d:Option Nat} {x k:Operand} {ty:TypeId} {pos:String} {af:Array Edge} {gd:Option (Nat × Bool)} {S:Value→Prop} {xs:List (α × β)} {key:α} {z:β} (ht:zD P t=some (kt,vt)) (K:IZ P kt S) (hf:xv f S) (hx:ev x=.mp id) (bB:m id=some (.map kt vt (dO f g xs))) (hk:ev k=f key) (hz:tzero P vt=some (g z)) :
  bn P pr ⟨d,.lookup t x k true,ty,pos,af,gd⟩ ev m (.cV [g ((gU xs key).getD z),.bool (gU xs key).isSome]) m :=
 bn.value fun c a bA hm=>by
  have h1:=bA x (by simp [Op.operands])
  have h2:=bA k (by simp [Op.operands])
  rw [hx] at h1; rw [hk] at h2
  obtain ⟨u,hr,hu⟩:=look ht K hf hm bB h1 h2 hz true
  refine ⟨_,c,by simp [execOp,hr,Result.andThen]; rfl,?_,hm,Step.refl pr c⟩
  simp only [av,aC]
  exact ⟨[u,.bool (gU xs key).isSome],rfl,u,_,rfl,hu,_,_,rfl,rfl,rfl⟩
theorem Ik {xs:List (α × β)} {k:α} {v:β}:(ee xs k v).map (·.1)=if k ∈ xs.map (·.1) then xs.map (·.1) else xs.map (·.1)++[k]:=by
 induction xs with
 | nil=>simp [ee]
 | cons p r ih =>
  obtain ⟨a,b⟩:=p
  simp only [ee]
  by_cases h:a=k
  ·simp [h]
  ·simp only [h,if_false,List.map_cons,ih,List.mem_cons]
   have:¬ k=a:=fun h'=>h h'.symm
   simp only [this,false_or]
   split <;> simp
theorem iU {id kt vt:Nat} {t:TypeId} {x k y:Operand} {ty:TypeId} {pos:String} {af:Array Edge} {gd:Option (Nat × Bool)} {S:Value→Prop} {xs:List (α × β)} {key:α} {val:β} {op:Op} (Eh:op=.mapUpdate t x k y ∨ op=.insert t x k y) (ht:zD P t=some (kt,vt)) (K:IZ P kt S) (hf:xv f S) (hg:∀ y,(g y).pure=true) (hx:ev x=.mp id) (bB:m id=some (.map kt vt (dO f g xs))) (hk:ev k=f key) (hy:ev y=g val) :
  bn P pr ⟨.none,op,ty,pos,af,gd⟩ ev m .eD (m.put id (.map kt vt (dO f g (ee xs key val)))) :=
 bn.skip rfl fun c a bA hm=>by
  have Lb:op.operands=#[x,k,y]:=by rcases Eh with rfl | rfl <;> rfl
  have h1:=bA x (by simp [Lb])
  have h2:=bA k (by simp [Lb])
  have h3:=bA y (by simp [Lb])
  rw [hx] at h1; rw [hk] at h2; rw [hy] at h3
  obtain ⟨b,jF,ck,hB,oa,hh,hlen,qc,hnd,Xd⟩:=Ce hm bB h1 hf
  obtain ⟨hS,EZ⟩:=yi hlen qc
  obtain ⟨k0,e1,e2,_⟩:=hf.1 key
  have Je:=oN e1 h2
  have hb:b<c.w.heap.size:=(Array.getElem?_eq_some_iff.1 hh).1
  -- a new table of entries
  have fin : ∀ Hr I3, (∀ w' : World, w' = { c.w with heap := c.w.heap.setIfInBounds b (.map Hr I3) } → (Instr.mapUpdate t (.map (some b)) k0 (a.eval y)).run P c.w = .ok () w') →
    (∀ c':Cx,c.Le c'→(∀ i,jB (c.B i) (c'.B i))→aC c' ((dO f g (ee xs key val)).map (·.1)) (Hr.toList.map (·.key))∧aC c' ((dO f g (ee xs key val)).map (·.2)) (Hr.toList.map (·.val)))→Ag Hr I3 →
    ∃ c',(execOp a.eval ⟨.none,op,ty,pos,af,gd⟩).run P c.w=.ok .skip c'.w∧b3 c' (m.put id (.map kt vt (dO f g (ee xs key val))))∧Step pr c c':=by
   intro Hr I3 du bY Ed
   obtain ⟨c',hw,gH,h4,h5⟩:=hm.Ac (pr:=pr) id (.map kt vt (dO f g (ee xs key val))) (.mp b) { c.w with heap:=c.w.heap.setIfInBounds b (.map Hr I3) } rfl rfl rfl (Nat.le_refl _) (by simp)
    (fun q hq eA=>by simp only; rw [Array.getElem?_setIfInBounds_ne]; intro he; subst he; exact eA _ hB rfl)
    (fun q hq=>.inl ⟨_,hB,hq⟩) (by rw [hB]; exact jB.refl _) (fun _ dr h0=>by rw [hB] at h0; cases h0; exact .refl _)
    (fun c' hw hle dz=>by
     simp only [bw]
     obtain ⟨r1,r2⟩:=bY c' hle dz
     refine ⟨b,Hr,I3,rfl,by rw [hw]; simp [hb],r1,r2,?_,?_,?_,Ed⟩
     ·refine cK.2 fun q hq=>?_
      simp only [dO,List.map_map,List.mem_map] at hq
      obtain ⟨p,_,rfl⟩:=hq
      obtain ⟨_,_,_,h⟩:=hf.1 p.1; exact h
     ·refine cK.2 fun q hq=>?_
      simp only [dO,List.map_map,List.mem_map] at hq
      obtain ⟨p,_,rfl⟩:=hq
      exact hg p.2
     ·have:(dO f g (ee xs key val)).map (·.1)=((ee xs key val).map (·.1)).map f:=by simp [dO]
      rw [this,Ik]
      rw [List.nodup_iff_pairwise_ne,List.pairwise_map,← List.nodup_iff_pairwise_ne.trans ⟨fun h=>h.imp fun {p q} h' he=>h' (hf.2 p q he),fun h=>h.imp fun {p q} h' he=>h' (congrArg f he)⟩]
      split
      ·exact hnd
      ·rename_i UR
       rw [List.nodup_append]
       refine ⟨hnd,by simp,fun p hp q hq=>?_⟩
       simp at hq; subst hq; exact fun he=>UR (he ▸ hp))
   refine ⟨c',?_,h4,h5⟩
   rw [hw]
   rcases Eh with rfl | rfl <;> simp [execOp,oa,Je,du _ rfl,Result.andThen]
  have Ed:Ag jF ck:=by
   have he:=hm.gE id
   rw [bB] at he
   simp only [bw] at he
   obtain ⟨b2,Hr,I3,g1,g2,g3,g4,g5,g6,g7,g8⟩:=he
   rw [hB] at g1; cases g1
   rw [hh] at g2; cases g2
   exact g8
  have Ih:∀ l:List (α × β),(dO f g l).map (·.1)=l.map fun p=>f p.1:=fun l=>by simp [dO]
  have MG:∀ l:List (α × β),(dO f g l).map (·.2)=l.map fun p=>g p.2:=fun l=>by simp [dO]
  rcases K.find c.w k0 e2 jF.toList hS with ⟨q1,q2⟩ | ⟨j,en,q1,q2,q3⟩
  ·have Lg:ee xs key val=xs++[(key,val)]:=Dp fun p hp he=>by
    obtain ⟨j,hj⟩:=List.mem_iff_getElem?.1 hp
    obtain ⟨en,u,h4,h5,_⟩:=qc j p.1 p.2 hj
    rw [he,e1] at h5
    exact q2 en (List.mem_of_getElem? h4) (Option.some.inj h5).symm
   refine fin (jF.push ⟨k0,a.eval y,ck⟩) (ck+1) (fun w' Hz=>?_) (fun c' hle dz=>?_) ⟨?_,?_⟩
   rotate_left 2
   ·rw [Array.toList_push,List.map_append,List.nodup_append]
    refine ⟨Ed.1,by simp,fun p hp q hq=>?_⟩
    simp only [List.map_cons,List.map_nil,List.mem_singleton] at hq
    subst hq
    obtain ⟨x,hx,rfl⟩:=List.mem_map.1 hp
    exact Nat.ne_of_lt (Ed.2 x hx)
   ·intro x hx
    rw [Array.toList_push,List.mem_append] at hx
    rcases hx with hx | hx
    ·exact Nat.lt_succ_of_lt (Ed.2 x hx)
    ·simp only [List.mem_singleton] at hx; subst hx; exact Nat.lt_succ_self _
   ·subst Hz
    simp [Instr.mapUpdate,run_underlying (lZ ht),MapKept.run_getObj_map hh,K.check c.w _ _ e2,q1,MapKept.run_setObj_map _ hh,Result.andThen]
   ·rw [Lg,Ih,MG]
    simp only [List.map_append,List.map_cons,List.map_nil,Array.toList_push]
    have he:=hm.gE id
    rw [bB] at he
    simp only [bw] at he
    obtain ⟨b2,Hr,I3,g1,g2,g3,g4,g5,g6,g7⟩:=he
    rw [hB] at g1; cases g1
    rw [hh] at g2; cases g2
    rw [Ih] at g3 g5; rw [MG] at g4 g6
    refine ⟨aC.append (aC.mono hle _ _ (fun q hq=>by rw [az _ g5] at hq; cases hq) g3) ?_,aC.append (aC.mono hle _ _ (fun q hq=>by rw [az _ g6] at hq; cases hq) g4) ?_⟩
    ·simp only [aC]
     refine ⟨_,_,rfl,av.mono hle _ _ (fun q _=>dz q) (by rw [← Je]; exact h2),rfl⟩
    ·simp only [aC]
     exact ⟨_,_,rfl,av.mono hle _ _ (fun q _=>dz q) h3,rfl⟩
  ·obtain ⟨x0,y0,h4,h5,h6⟩:=EZ j en q2
   have Jp:x0=key:=hf.2 x0 key (sH h5 (by rw [q3]; exact e1))
   subst Jp
   have Lg:ee xs x0 val=xs.set j (x0,val):=F2 hnd h4
   have iG:j<xs.length:=(List.getElem?_eq_some_iff.1 h4).1
   have Fb:jF[j]?=some en:=by simpa using q2
   have Rn:∀ (l:List MapEntry),(l.modify j fun e'=>{ e' with key:=k0,val:=a.eval y }).map (·.born)=l.map (·.born):=fun l=>by
    apply List.ext_getElem?
    intro i
    simp only [List.getElem?_map,List.getElem?_modify]
    cases l[i]? with
    | none=>simp
    | some z=>by_cases rQ:j=i <;> simp [rQ]
   refine fin (jF.modify j fun e'=>{ e' with key:=k0,val:=a.eval y }) ck (fun w' Hz=>?_) (fun c' hle dz=>?_) ⟨by rw [Array.toList_modify,Rn]; exact Ed.1,fun x hx=>?_⟩
   rotate_left 2
   ·rw [Array.toList_modify] at hx
    have:x.born ∈ jF.toList.map (·.born):=by rw [← Rn]; exact List.mem_map.2 ⟨x,hx,rfl⟩
    obtain ⟨z,hz,he⟩:=List.mem_map.1 this
    rw [← he]; exact Ed.2 z hz
   ·subst Hz
    simp [Instr.mapUpdate,run_underlying (lZ ht),MapKept.run_getObj_map hh,K.check c.w _ _ e2,q1,Fb,q3,K.stays c.w _ e2,MapKept.run_setObj_map _ hh,Result.andThen]
   ·rw [Lg,Ih,MG]
    have UQ:(jF.modify j fun e'=>{ e' with key:=k0,val:=a.eval y }).toList.length=jF.toList.length:=by simp
    constructor
    ·refine aC.of (by simp; simpa using hlen.symm) fun i lx v Jg hv=>?_
     simp only [List.getElem?_map,List.getElem?_set,Array.toList_modify,List.getElem?_modify,Option.map_eq_some_iff] at Jg
     obtain ⟨p,hp,rfl⟩:=Jg
     obtain ⟨CQ,Rp,rfl⟩:∃ CQ,jF.toList[i]?=some CQ∧(if j=i then { CQ with key:=k0,val:=a.eval y } else CQ:MapEntry).key=v:=by
      simp only [List.getElem?_map,Array.toList_modify,List.getElem?_modify] at hv
      cases hq:jF.toList[i]? with
      | none=>rw [hq] at hv; simp at hv
      | some CQ=>rw [hq] at hv; simp at hv; exact ⟨CQ,rfl,hv⟩
     by_cases rQ:j=i
     ·subst rQ
      rw [if_pos rfl,if_pos iG] at hp; cases hp
      simp only [if_true]
      exact av.mono hle _ _ (fun q _=>dz q) (by rw [← Je]; exact h2)
     ·rw [if_neg rQ] at hp
      simp only [rQ,if_false]
      obtain ⟨Vt,u,r1,r2,r3,r4,r5⟩:=qc i p.1 p.2 hp
      rw [Rp] at r1; cases r1
      have he:=hm.gE id
      rw [bB] at he
      simp only [bw] at he
      obtain ⟨b2,Hr,I3,g1,g2,g3,g4,g5,g6,g7⟩:=he
      rw [hB] at g1; cases g1
      rw [hh] at g2; cases g2
      rw [Ih] at g3
      obtain ⟨v2,s1,s2⟩:=g3.get (i:=i) (x:=f p.1) (by simp [hp])
      simp only [List.getElem?_map,Rp,Option.map_some,Option.some.injEq] at s1
      subst s1
      exact av.mono hle _ _ (fun q _=>dz q) s2
    ·refine aC.of (by simp; simpa using hlen.symm) fun i lx v Jg hv=>?_
     simp only [List.getElem?_map,List.getElem?_set,Array.toList_modify,List.getElem?_modify,Option.map_eq_some_iff] at Jg
     obtain ⟨p,hp,rfl⟩:=Jg
     obtain ⟨CQ,Rp,rfl⟩:∃ CQ,jF.toList[i]?=some CQ∧(if j=i then { CQ with key:=k0,val:=a.eval y } else CQ:MapEntry).val=v:=by
      simp only [List.getElem?_map,Array.toList_modify,List.getElem?_modify] at hv
      cases hq:jF.toList[i]? with
      | none=>rw [hq] at hv; simp at hv
      | some CQ=>rw [hq] at hv; simp at hv; exact ⟨CQ,rfl,hv⟩
     by_cases rQ:j=i
     ·subst rQ
      rw [if_pos rfl,if_pos iG] at hp; cases hp
      simp only [if_true]
      exact av.mono hle _ _ (fun q _=>dz q) h3
     ·rw [if_neg rQ] at hp
      simp only [rQ,if_false]
      obtain ⟨Vt,u,r1,r2,r3,rfl,r5⟩:=qc i p.1 p.2 hp
      rw [Rp] at r1; cases r1
      exact av.mono hle _ _ (fun q _=>dz q) r5
theorem tx {i id kt vt:Nat} {t:TypeId} {ty:TypeId} {pos:String} {af:Array Edge} {gd:Option (Nat × Bool)} (bB:m id=.none):bn P pr ⟨some i,.makeMap t .none,ty,pos,af,gd⟩ ev m (.mp id) (m.put id (.map kt vt [])) :=
 bn.value fun c a bA hm=>by
  have hB:=hm.fresh bB
  obtain ⟨c',hw,hb,h2,h3⟩:=hm.Ac (pr:=pr) id (.map kt vt []) (.mp c.w.heap.size) (c.w.alloc (.map #[] 0)) rfl rfl rfl (Nat.le_refl _) (by simp)
   (fun b hb _=>oq c.w _ b hb) (fun b hb=>by simp [BE.has] at hb; subst hb; exact .inr (Nat.le_refl _)) (by rw [hB]; trivial) (fun _ dr h0=>by rw [hB] at h0; cases h0)
   (fun c' hw hle dz=>by
    simp only [bw]
    exact ⟨c.w.heap.size,#[],0,rfl,by rw [hw]; show (c.w.heap.push _)[c.w.heap.size]?=_; simp,by simp [aC],by simp [aC],rfl,rfl,by simp,⟨by simp,by simp⟩⟩)
  refine ⟨.map (some c.w.heap.size),c',?_,?_,h2,h3⟩
  ·rw [hw]; rfl
  ·simp only [av]; exact ⟨_,hb,rfl⟩
end
theorem qR {kd:IntKind} {a:Int}:∀ (es:List MapEntry) (i:Nat),(∀ e ∈ es,∃ n,e.key=.int kd n)→(Instr.findNow (.int kd) (.int kd a) es i=some .none∧∀ e ∈ es,e.key ≠ .int kd a) ∨ ∃ j e,Instr.findNow (.int kd) (.int kd a) es i=some (some (i+j,e.val))∧es[j]?=some e∧e.key=.int kd a
 | [],i,_=>.inl ⟨rfl,by simp⟩
 | e :: es,i,h=>by
  obtain ⟨n,hn⟩:=h e (by simp)
  by_cases he:a=n
  ·subst he
   exact .inr ⟨0,e,by simp [Instr.findNow,hn,Instr.sameNow],rfl,hn⟩
  ·have hs:Instr.sameNow (.int kd) (.int kd a) e.key=some false:=by simp [hn,Instr.sameNow,he]
   rcases qR (a:=a) es (i+1) (fun e' AE=>h e' (by simp [AE])) with ⟨h1,h2⟩ | ⟨j,e',h1,h2,h3⟩
   ·refine .inl ⟨by simp [Instr.findNow,hs,h1],fun e' AE=>?_⟩
    rcases List.mem_cons.1 AE with rfl | AE
    ·rw [hn]; intro h'; cases h'; exact he rfl
    ·exact h2 e' AE
   ·exact .inr ⟨j+1,e',by simp only [Instr.findNow,hs,h1,Option.some.injEq,Prod.mk.injEq,and_true]; omega,by simpa using h2,h3⟩
theorem CO {P:Program} {k:TypeId} {kd:IntKind} (hk:P.underlying k=some (.int kd)) (w:World) (em:Bool) (a:Int) (n:Nat):(Instr.checkKey em (n+1) k (.int kd a)).run P w=.ok () w:=by
 simp only [Instr.checkKey]; simp [run_underlying hk]
theorem TP {P:Program} {k:TypeId} {kd:IntKind} (hk:P.underlying k=some (.int kd)):IZ P k (fun v=>∃ n,v=.int kd n) where
 check:=fun w em v ⟨n,hn⟩=>by subst hn; exact CO hk w em n 9999
 find:=fun w x ⟨a,ha⟩ es C5=>by
  subst ha
  rcases qR (a:=a) es 0 C5 with ⟨h1,h2⟩ | ⟨j,e,h1,h2,h3⟩
  ·exact .inl ⟨by simp [Instr.findKey,run_underlying hk,h1],h2⟩
  ·exact .inr ⟨j,e,by simp [Instr.findKey,run_underlying hk,h1],h2,h3⟩
 stays:=fun w v ⟨n,hn⟩=>by subst hn; simp [Instr.keyThatStays,Instr.sameBits]
theorem WH {kd:IntKind}:xv (LV.int kd) (fun v=>∃ n,v=.int kd n):=⟨fun x=>⟨.int kd x,rfl,⟨x,rfl⟩,rfl⟩,fun x y h=>by cases h; rfl⟩
theorem BZ {P:Program} {k:TypeId} {α:Type} [DecidableEq α] {enc:α→Value} (heq:∀ x y w,(Op.equal k (enc x) (enc y)).run P w=.ok (decide (x=y)) w) (w:World) (x:α):∀ (es:List MapEntry) (i:Nat),(∀ e ∈ es,∃ y,e.key=enc y)→((Instr.findAsking k (enc x) es i).run P w=.ok .none w∧∀ e ∈ es,e.key ≠ enc x) ∨ ∃ j e,(Instr.findAsking k (enc x) es i).run P w=.ok (some (i+j,e.val)) w∧es[j]?=some e∧e.key=enc x
 | [],i,_=>.inl ⟨by simp [Instr.findAsking],by simp⟩
 | e :: es,i,h=>by
  obtain ⟨y,hy⟩:=h e (by simp)
  by_cases he:x=y
  ·subst he
   exact .inr ⟨0,e,by simp [Instr.findAsking,hy,heq],rfl,hy⟩
  ·have eA:¬ e.key=enc x:=fun h'=>by
    have h1:=heq x y w
    rw [← hy,h',heq x x w] at h1
    simp [he] at h1
   rcases BZ heq w x es (i+1) (fun e' AE=>h e' (by simp [AE])) with ⟨h1,h2⟩ | ⟨j,e',h1,h2,h3⟩
   ·refine .inl ⟨by simp [Instr.findAsking,hy,heq,he,h1],fun e' AE=>?_⟩
    rcases List.mem_cons.1 AE with rfl | AE
    ·exact eA
    ·exact h2 e' AE
   ·exact .inr ⟨j+1,e',by simp [Instr.findAsking,hy,heq,he,h1]; omega,by simpa using h2,h3⟩
theorem TQ {P:Program} {k:TypeId} {ds:TypeDesc} {α:Type} [DecidableEq α] {enc:α→Value} (hk:P.underlying k=some ds) (kF:∀ x y,Instr.sameNow ds (enc x) (enc y)=.none) (zW:∀ w em x,(Instr.checkKey em 10000 k (enc x)).run P w=.ok () w) (heq:∀ x y w,(Op.equal k (enc x) (enc y)).run P w=.ok (decide (x=y)) w) (kG:∀ x,Instr.sameBits 10000 (enc x) (enc x)=true):IZ P k (fun v=>∃ x,v=enc x) where
 check:=fun w em v ⟨x,hx⟩=>by subst hx; exact zW w em x
 find:=fun w v ⟨x,hx⟩ es C5=>by
  subst hx
  cases es with
  | nil=>exact .inl ⟨by simp [Instr.findKey,run_underlying hk,Instr.findNow],by simp⟩
  | cons e es =>
   obtain ⟨y,hy⟩:=C5 e (by simp)
   have hn:Instr.findNow ds (enc x) (e :: es) 0=.none:=by simp [Instr.findNow,hy,kF]
   have du:(Instr.findKey k (enc x) (e :: es)).run P w=(Instr.findAsking k (enc x) (e :: es) 0).run P w:=by simp [Instr.findKey,run_underlying hk,hn]
   rcases BZ heq w x (e :: es) 0 C5 with ⟨h1,h2⟩ | ⟨j,e',h1,h2,h3⟩
   ·exact .inl ⟨by rw [du,h1],h2⟩
   ·exact .inr ⟨j,e',by rw [du,h1]; simp,h2,h3⟩
 stays:=fun w v ⟨x,hx⟩=>by subst hx; simp [Instr.keyThatStays,kG]
theorem R4 {P:Program} {t:TypeId} {xs ys:List LV} {us vs:List Value} {b:Bool} (h:oh P t xs ys b) (hx:ew xs=some us) (hy:ew ys=some vs) (w:World):(Op.equal t (.agg us.toArray) (.agg vs.toArray)).run P w=.ok b w:=by
 obtain ⟨_,RI,fI,h1,h2,h3⟩:=h
 rw [hx] at h1; rw [hy] at h2; cases h1; cases h2
 exact h3 w
end Go.L
namespace Go.L
section
variable {P:Program}
theorem jf (w:World) (dT sT ty elem:TypeId) (k g o HK R0:Nat) (a:Addr) (lL tX:Nat) (cur:Array Value) (t:TypeId) (cs:List Value)
  (hu:P.underlying dT=some (.slice elem)) (hs:∀ w,(sizeOf elem).run P w=.ok k w)
  (hg:w.heap[g]?=some (.cells cur t (0,0))) (hn:cs.length=Nat.min lL HK * k)
  (Fz:∀ j v,cs[j]?=some v→w.cell? (a.add j)=some v) (xQ:o+cs.length≤cur.size) (h1:∀ v ∈ cs,v.oneCell'=true) :
  (Builtin.copy_ #[dT,sT] ty #[.slice (some ⟨g,o,none⟩) HK R0,.slice (some a) lL tX]).run P w =
   .ok (goInt (Nat.min lL HK)) (w.setRow g (cur.toList.take o++cs++cur.toList.drop (o+cs.length)).toArray):=by
 have hl:=run_firstCells_some (P:=P) w k (Nat.min lL HK) a lL tX cs hn Fz
 have kG:=run_storeCells_at P g o t cs 0 cur w hg (by simpa using xQ) h1
 simp only [Nat.add_zero] at kG
 simp [Builtin.copy_,run_underlying hu,Builtin.lenOf,hs,hl,kG]
theorem mH (w:World) (t tn ty e:TypeId) (i:TypeInfo) (z:Value) (kk kn:IntKind) (ht:P.underlying t=some (.slice e)) (Tg:P.underlying tn=some (.int kn)) (hi:P.info? e=some i) (hz:i.zero=some z)
  (b:Addr) (lL tX:Nat) (Iu:List Value) (rR:Iu.length=lL * i.size) (holds:∀ j v,Iu[j]?=some v→w.cell? (b.add j)=some v)
  (n:Nat) (h0:0<n) (hs:0<i.size) (K0:tX<lL+n) (Ny:((lL+n:Nat):Int)≤9223372036854775807) (W5:n * i.bytes≤281474976710656) (xQ:Builtin.nextslicecap (lL+n) tX * i.bytes≤281474976710656) :
  (Builtin.append_ #[t,tn] ty #[.slice (some b) lL tX,.int kk n]).run P w =
   .ok (.slice (some ⟨w.heap.size,0,none⟩) (lL+n) (grownCap w (lL+n) tX e)) (w.drew.alloc (.cells (Iu.toArray++Builtin.zeroCells z.cells n++Builtin.zeroCells z.cells (grownCap w (lL+n) tX e - (lL+n))) e)):=by
 have hn:¬ (lL+n≤tX):=by omega
 have hw:IntKind.i64.wrap (n:Int)=n:=by rw [IntKind.wrap_i64]; omega
 have R8:¬ (9223372036854775807<((lL:Int)+(n:Int))):=by omega
 have R6:¬ (281474976710656<Builtin.nextslicecap (lL+n) tX * i.bytes):=by omega
 have R7:¬ (281474976710656<(n:Int) * (i.bytes:Int)):=by
  rw [← Int.natCast_mul]
  omega
 have K8:¬ ((n:Int)<0):=by omega
 have Hy:n ≠ 0:=by omega
 have Wb:¬ (n * i.size=0):=Nat.mul_ne_zero Hy (by omega)
 have VS:=run_firstCells_some (P:=P) w.drew i.size lL b lL tX Iu rR (by simpa using holds)
 simp [Builtin.append_,run_underlying ht,run_underlying Tg,sizeOf,typeInfo,zeroValue,hi,hz,asInt,asIntOf,hw,hn,Hy,K8,Wb,R8,R6,R7,Question.forced,VS,newRow,grownCap]
theorem nh {ops:Array Oper} {o:Oper} {a:Act} {w:World} {K:Act→World→Prop} {Q:Exit→Act→World→Prop} {E:Prop}
  (hg:o.guard=none) (d x:Operand) (dT sT:TypeId) (Eh:o.op=Op.call { callee:=Callee.builtin Builtin.copy,args:=#[d,x],argTypes:=#[dT,sT] })
  (v u:Value) (hd:a.eval d=v) (hx:a.eval x=u) {v':Value} {w':World} (hr:(Builtin.copy_ #[dT,sT] o.type #[v,u]).run P w=.ok v' w') (hK:K (a.put o.dst v') w') :
  if Region.wanted o (yielded ops a.tmps)=true then Oper.wp P o a w K Q else E:=by
 have hw:Region.wanted o (yielded ops a.tmps)=true:=by simp [Region.wanted,hg]
 rw [if_pos hw]
 unfold Oper.wp
 simp [execOp,Eh,resolve,invoke,builtin,hd,hx,hr,Result.andThen]
 exact hK
structure mf (w w':World) (e k:Nat) (u u':Value) (n':Nat) (ug:List Value):Prop where
 own:w'.ownsRow 0 e k u' n' ug
 grown:w.grownBy w' u.ownBlock
 nA:∀ b,u'.ownBlock=some b→u.ownBlock=some b ∨ w.heap.size≤b
 drawn:w.drawn≤w'.drawn
theorem ln {t t' ty WX:TypeId} {vs:Array Value}:Builtin.append_ #[t,t'] ty vs=Builtin.append_ #[t,t'] WX vs:=rfl
end
end Go.L
namespace Go.L
section
variable {P:Program} {N:Nat} {pr:Nat→Prop} {ops:Array Oper} {e:Env} {m m':Mem} {ev:Operand→LV} {o:Oper} {lv:LV} {l:List Oper} {KE:Env→Mem→Prop}
def Env.drop (e:Env) (id:Nat):Env:=fun i=>if (e i).a8 id=true then e i else .eD
theorem uZ {k:Nat}:∀ {vs:List Value} (h:∀ v ∈ vs,v.cells.size=k) (i:Nat),(flat vs).take (i * k)=flat (vs.take i)
 | [],_,i=>by simp [flat]
 | v :: vs,h,0=>by simp [flat]
 | v :: vs,h,i+1=>by
  have hv:=h v (by simp)
  rw [gw,List.take_succ_cons,gw,List.take_append,Nat.succ_mul]
  have e1:(i * k+k) - v.cells.toList.length=i * k:=by simp [hv]
  rw [e1,uZ (fun u hu=>h u (by simp [hu])) i,List.take_of_length_le (by simp [hv])]
theorem uY {k:Nat}:∀ {vs:List Value} (h:∀ v ∈ vs,v.cells.size=k) (i:Nat),(flat vs).drop (i * k)=flat (vs.drop i)
 | [],_,i=>by simp [flat]
 | v :: vs,h,0=>by simp [flat]
 | v :: vs,h,i+1=>by
  have hv:=h v (by simp)
  rw [gw,List.drop_succ_cons,List.drop_append,Nat.succ_mul]
  have e1:(i * k+k) - v.cells.toList.length=i * k:=by simp [hv]
  rw [e1,uY (fun u hu=>h u (by simp [hu])) i,List.drop_of_length_le (by simp [hv])]
  rfl
theorem sK {vs:List Value} (h:∀ v ∈ vs,∀ y ∈ v.cells,y.oneCell'=true):∀ y ∈ flat vs,y.oneCell'=true:=by
 intro y hy
 simp only [flat,List.mem_flatMap] at hy
 obtain ⟨v,hv,hy⟩:=hy
 exact h v hv y (by simpa using hy)
def Nd (P:Program) (f e k:Nat):Prop:=∀ (u:Value) (n i:Nat) (xs:List Value) (v:Value) (vs:List Value) (w:World),w.ownsRow 0 e k u n xs→(∀ y ∈ xs,y.oneCell'=true)→i≤n→n≤549755813887→w.ownsRow 0 e k v 1 vs→(∀ y ∈ vs,y.oneCell'=true)→(∀ b,v.ownBlock=some b→u.ownBlock ≠ some b) →
 Calls P f #[u,.int .i64 i,v] w fun en w'=>∃ u',en=.returned u'∧mf w w' e k u u' (n+1) (xs.take (i * k)++vs++xs.drop (i * k))
def sf (P:Program) (f e k:Nat):Prop:=∀ (a:Option Addr) (n cap:Nat) (news:List Value) (w:World),news.length=n * k→(a=none→n=0)→(∀ ad,a=some ad→∀ j u,news[j]?=some u→w.cell? (ad.add j)=some u)→(∀ u ∈ news,u.oneCell'=true)→n≤549755813888 →
 Calls P f #[.slice a n cap] w fun en w'=>∃ u',en=.returned u'∧mf w w' e k (.slice none 0 0) u' n news
def Ie {α:Type} (xs:List α) (i:Int) (z:α):Option (List α):=if 0≤i∧i≤xs.length∧xs.length≤549755813887 then some (xs.take i.toNat++[z]++xs.drop i.toNat) else .none
theorem Kv {f : Nat} {xs : Array Operand} {ts : Array TypeId} {d : Option Nat} {ty : TypeId} {pos : String} {af : Array Edge} {gd : Option (Nat × Bool)} (hf : ∃ fn, P.funcs[f]? = some fn ∧ (fn.name == "runtime.NumGoroutine") = false ∧ fn.body.isNone = false) (a : Act) (w : World) :
  (execOp a.eval ⟨d,.call ⟨.value (.func f),xs,ts⟩,ty,pos,af,gd⟩).run P w=.ok (.enter f (xs.map a.eval)) w:=by
 obtain ⟨fn,hf,Fi,xL⟩:=hf
 have AK : ¬ fn.name = "runtime.NumGoroutine" := by simpa using Fi
 have Ay:¬ fn.body=.none:=fun hn=>by rw [hn] at xL; cases xL
 simp [execOp,resolve,Deferred.ofValue,Act.eval,invoke,callFunc,hf,AK,Ay]
theorem A5 {d id kk len:Nat} {t el:TypeId} {ty:TypeId} {pos:String} {af:Array Edge} {gd:Option (Nat × Bool)} {α:Type} {g:α→LV} {ys:List α} {ps:List (Nat × Operand)} (he:telem P t=some el) (lT:gz P el=true) (hk:tsize P el=kk) (Lv:Nat.ble (len * kk) 16777216=true) (NW:ps.map (·.1)=List.range len) (MZ:(ps.map fun p=>ev p.2)=ys.map g) (gD:qm kk g) (bB:m id=.none) :
  cj P pr ⟨some d,.buildSlice t len ps.toArray,ty,pos,af,gd⟩ ev m (.arr id ys.length) (m.put id (.arr el kk (ys.map g))):=by
 subst hk
 have Oh:=Nat.le_of_ble_eq_true Lv
 have hu:=fp he
 obtain ⟨i,zv,hi,AX,uk,B7,eH,C0,qe⟩:=pc lT
 obtain ⟨parts,B6⟩:∃ parts:Array (Nat × Operand),parts=ps.toArray:=⟨_,rfl⟩
 have Ob:parts.toList=ps:=by rw [B6]
 have E9:parts.toList.map (·.1)=List.range len:=by rw [Ob]; exact NW
 have E6:qX (tsize P el) (parts.toList.map fun p=>ev p.2):=by rw [Ob,MZ]; exact gD.Up ys
 obtain ⟨o,US⟩:∃ o:Oper,o=⟨some d,.buildSlice t len ps.toArray,ty,pos,af,gd⟩:=⟨_,rfl⟩
 have ho:o.op=.buildSlice t len parts:=by rw [US,B6]
 rw [← US]
 refine cj.value fun c a bA hm=>?_
 have mY:parts.toList.length=len:=by have:=congrArg List.length E9; simpa using this
 let vs:=parts.toList.map fun p=>a.eval p.2
 have hl:aC c (parts.toList.map fun p=>ev p.2) vs:=aC.of (by simp [vs]) fun j x v hx hv=>by
  simp only [vs,List.getElem?_map,Option.map_eq_some_iff] at hx hv
  obtain ⟨p,hp,rfl⟩:=hx
  obtain ⟨p',AM,rfl⟩:=hv
  rw [hp] at AM; cases AM; exact bA _
 have hcell:∀ v ∈ vs,v.cells.size=i.size∧∀ y ∈ v.cells,y.oneCell'=true:=by
  intro v hv
  simp only [vs,List.mem_map] at hv
  obtain ⟨p,hp,rfl⟩:=hv
  obtain ⟨_,e1,e2⟩:=E6 (ev p.2) (List.mem_map.2 ⟨p,hp,rfl⟩)
  obtain ⟨e3,e4⟩:=(bA p.2).cellsOf e2
  refine ⟨?_,e4⟩
  have:=e3.length
  rw [e1,qe] at this
  simpa using this.symm
 have Fo:LV.bo (parts.toList.map fun p=>ev p.2)=true:=cK.2 fun x hx=>(E6 x hx).1
 have AN:(parts.map fun (p:Nat × Operand)=>(p.1,a.eval p.2)).toList=(vs.zipIdx 0).map fun x=>(x.2,x.1):=by
  apply List.ext_getElem?
  intro j
  have hj:=congrArg (fun l=>l[j]?) E9
  simp only [List.getElem?_map,List.getElem?_range] at hj
  simp only [Array.toList_map,List.getElem?_map,List.getElem?_zipIdx,vs,Nat.zero_add]
  cases hp:parts.toList[j]? with
  | none=>simp
  | some p =>
   rw [hp] at hj
   have iG:j<len:=by
    rw [← mY]; exact (List.getElem?_eq_some_iff.1 hp).1
   rw [List.getElem?_range iG] at hj
   simp at hj
   simp [hj]
 obtain ⟨cells,xP,xR⟩:∃ cells,Instr.fill (fun i'=>some (i' * i.size,i.size)) ((Array.range (len * i.size)).map (zv.cells[· % zv.cells.size]!)) (parts.map fun (p:Nat × Operand)=>(p.1,a.eval p.2)).toList=some cells∧cells.toList=flat vs:=by
  have nG:vs.length=len:=by simp [vs,mY]
  obtain ⟨r,hr,UX,Of⟩:=Great.fill_dense eH vs 0 ((Array.range (len * i.size)).map (zv.cells[· % zv.cells.size]!)) (fun v hv=>(hcell v hv).1) (by simp [nG])
  refine ⟨r,by rw [AN]; exact hr,?_⟩
  apply List.ext_getElem?
  intro j
  rw [flat_get eH (fun v hv=>(hcell v hv).1),Array.getElem?_toList,Of j]
  simp only [Nat.zero_mul,Nat.zero_le,true_and,Nat.zero_add,Nat.sub_zero,nG]
  by_cases hj:j<len * i.size
  ·rw [if_pos hj]
  ·rw [if_neg hj]
   have h1:¬ j / i.size<len:=fun hh=>hj ((Nat.div_lt_iff_lt_mul eH).1 hh)
   rw [List.getElem?_eq_none (by omega:vs.length≤j / i.size)]
   simp; omega
 have lS:cells=(flat vs).toArray:=by rw [← xR]
 subst lS
 have du:(execOp a.eval o).run P c.w=.ok (.value (.slice (some ⟨c.w.heap.size,0,.none⟩) len len)) (c.w.alloc (.cells (flat vs).toArray el)):=by
  by_cases Jf:len=0
  ·subst Jf
   have Di:parts=#[]:=by apply Array.ext'; simpa using mY
   subst Di
   simp [execOp,ho,Instr.buildSlice,run_underlying hu,sizeOf,typeInfo,hi,Instr.fill,newRow,vs,flat,Array.range_zero']
  ·have H6:¬ len * i.size=0:=by
    intro h0
    rcases Nat.mul_eq_zero.1 h0 with h0 | h0 <;> omega
   have hb:=run_buildSlice (P:=P) c.w t el len (parts.map fun (p:Nat × Operand)=>(p.1,a.eval p.2)) (flat vs).toArray i zv hu hi AX (by rw [qe] at Oh; omega) H6 xP
   simp [execOp,ho,hb]
 have hlen:ys.length=len:=by rw [← mY,Ob]; have:=congrArg List.length MZ; simpa using this.symm
 have hB:=hm.fresh bB
 have iN:aC c (ys.map g) vs:=by rw [← MZ,← Ob]; exact hl
 have B4:(flat vs).length=len * i.size:=by
  rw [dm (fun v hv=>(hcell v hv).1)]; congr 1; rw [← mY]; simp [vs]
 have bj:(c.w.alloc (.cells (flat vs).toArray el)).ownsRow 0 el i.size (.slice (some ⟨c.w.heap.size,0,.none⟩) len len) len (flat vs) :=
  ⟨B4,.inr ⟨c.w.heap.size,len,(flat vs).toArray,rfl,Nat.zero_le _,heap_alloc_new c.w _,Nat.le_refl _,by
   have:len≤len * tsize P el:=Nat.le_mul_of_pos_right _ (by rw [qe]; exact eH)
   simp only [maxLen]; omega,by simp [B4],by rw [← B4]; simp⟩⟩
 obtain ⟨c',hw,hb,h2,h3⟩:=hm.Ac (pr:=pr) id (.arr el (tsize P el) (ys.map g)) (.arr (.slice (some ⟨c.w.heap.size,0,.none⟩) len len) (tsize P el) len []) (c.w.alloc (.cells (flat vs).toArray el)) rfl rfl rfl (Nat.le_refl _) (by simp)
  (fun b hb _=>oq c.w _ b hb) (fun b hb=>by simp [BE.has,Value.ownBlock] at hb; exact .inr (by omega)) (by rw [hB]; trivial) (fun _ dr h0=>by rw [hB] at h0; cases h0)
  (fun c' hw hle dz=>by
   simp only [bw]
   refine ⟨.slice (some ⟨c.w.heap.size,0,.none⟩) len len,vs,by simp [hlen],by rw [qe]; exact eH,?_,aC.mono hle _ _ (fun j _=>dz j) iN,fun u hu=>by rw [qe]; exact hcell u hu,by rw [← MZ,← Ob]; exact Fo⟩
   rw [hw,qe]; simpa [hlen] using bj)
 refine ⟨_,c',by rw [hw]; exact du,?_,h2,h3⟩
 simp only [av]
 exact ⟨rfl,_,_,_,_,hb,by omega,fun _=>rfl⟩
theorem pA {f e0 k:Nat} (W:sf P f e0 k) (hk:Nat.ble 1 k=true) {α:Type} {g:α→LV} {xs r:List α} (id:Nat) (h:app [] xs=some r):aO P f [.al k (xs.map g)] (Mem.of []) (.arr id r.length) (Mem.of [(id,.arr e0 k (r.map g))]):=by
 unfold app at h
 split at h
 ·rename_i hb
  obtain rfl:xs=r:=by simpa using h
  intro c vs hm ha
  simp only [aC] at ha
  obtain ⟨v,fI,rfl,hv,rfl⟩:=ha
  simp only [av] at hv
  obtain ⟨a,cap,rfl,mQ,nZ,hp,hx⟩:=hv
  have ov:∃ us,(flat us).length=xs.length * k∧(a=none→xs.length=0)∧(∀ ad,a=some ad→∀ j u,(flat us)[j]?=some u→c.w.cell? (ad.add j)=some u)∧aC c (xs.map g) us∧∀ u ∈ us,u.cells.size=k∧∀ y ∈ u.cells,y.oneCell'=true:=by
   rcases hx with hx | ⟨b,off,us,rfl,UA,hX,hl,hc,gi⟩
   ·have Jp:xs=[]:=by simpa using hx
    subst Jp
    exact ⟨[],by simp [flat],fun _=>rfl,by simp [flat],by simp [aC],by simp⟩
   ·refine ⟨us,?_,(fun h=>by cases h),fun ad VK j u hu=>?_,hl,hc⟩
    ·rw [dm (fun v hv=>(hc v hv).1)]; congr 1; have:=hl.length; simpa using this.symm
    ·cases VK; rw [Addr.add_lit]; exact gi j u hu
  obtain ⟨us,h1,h2,h3,hl,hc⟩:=ov
  have hlen:(xs.map g).length=xs.length:=by simp
  have:=W a xs.length cap (flat us) c.w h1 h2 h3 (sK fun v hv=>(hc v hv).2) (by simpa using hb)
  rw [hlen]
  refine this.mono ?_
  rintro en w' ⟨u',rfl,hr⟩
  have hB:=hm.fresh (id:=id) rfl
  obtain ⟨c',hw,gH,h4,h5⟩:=hm.Ac (pr:=fun id=>Mem.of [] id ≠ .none) id (.arr e0 k (xs.map g)) (.arr u' k xs.length []) w' hr.grown.os hr.grown.tape hr.grown.output hr.drawn hr.grown.size
   (fun b hb _=>hr.grown.block b hb (by simp [Value.ownBlock])) (fun b hb=>.inr (hb.elim (fun hb=>(hr.nA b hb).elim (fun h=>by simp [Value.ownBlock] at h) (fun h=>h)) (fun hh=>by cases hh))) (by rw [hB]; trivial) (fun _ dr h0=>by rw [hB] at h0; cases h0)
   (fun c' hw hle dz=>by
    simp only [bw]
    exact ⟨u',us,by simp,Nat.le_of_ble_eq_true hk,by rw [hw]; simpa using hr.own,aC.mono hle _ _ (fun j _=>dz j) hl,hc,hp⟩)
  refine ⟨u',c',rfl,hw,h4,?_,h5.grow⟩
  simp only [av]
  refine ⟨?_,_,_,_,_,gH,Nat.le_refl _,fun _=>rfl⟩
  rcases hr.own.2 with ⟨rfl,_⟩ | ⟨g,cap,cur,rfl,_⟩ <;> rfl
 ·cases h
def pd (k:IntKind) (u w:Int):Int:=u.fdiv (2 ^ min w.toNat k.bits)
theorem Mk {d:Option Nat} {x y:Operand} {t t' ty:TypeId} {pos:String} {af:Array Edge} {gd:Option (Nat × Bool)} {k yk:IntKind} {u w:Int} (hx:ev x=.int k u) (hy:ev y=.int yk w) (hw:0≤w):bn P pr ⟨d,.binOp .shr t x y t',ty,pos,af,gd⟩ ev m (.int k (pd k u w)) m :=
 bn.value fun c a bA hm=>by
  have h1:=bA x (by simp [Op.operands])
  have h2:=bA y (by simp [Op.operands])
  rw [hx] at h1; rw [hy] at h2
  simp only [av] at h1 h2
  refine ⟨.int k (pd k u w),c,?_,by simp [av],hm,Step.refl pr c⟩
  have hn:¬ w<0:=by omega
  simp [execOp,h1,h2,binOp,Op.shift,hn,pd,eqGuard]
theorem Mp {c:List LV} (hc:LV.bo c=true):∀ {l:List LV},LV.bo l=true→LV.bo (l++c)=true:=fun h=>j3 h hc
theorem EI {cs:Array Value} (h:∀ y ∈ cs.toList,(∃ k n,y=.int k n) ∨ ∃ b,y=.bool b) (n:Nat):Instr.sameBits (n+1) (.agg cs) (.agg cs)=true:=by
 simp only [Instr.sameBits,beq_self_eq_true,Bool.true_and,List.all_eq_true]
 intro p hp
 have UU:p.1=p.2∧p.1 ∈ cs.toList:=by
  obtain ⟨i,hi,rfl⟩:=List.mem_iff_getElem.1 hp
  simp [List.getElem_zip]
 obtain ⟨a,b⟩:=p
 simp only at UU ⊢
 obtain ⟨he,hm⟩:=UU
 subst he
 rcases h _ hm with ⟨k,m,h⟩ | ⟨b,h⟩ <;> subst h <;> cases n <;> simp [Instr.sameBits]
mutual
theorem DT:∀ (x:LV),x.pure=true→x.refs=[]
 | .eD,_ | .int _ _,_ | .bool _,_ | .nil,_ | .p7 _,_ | .full _ _,_ | .str _,_ | .it _,_ | .k5,_ | .fj,_ | .al _ _,_ | .aJ _ _ _ _,_=>by simp [LV.refs]
 | .ag cs,h=>by simp only [LV.pure] at h; simp only [LV.refs]; exact fm cs h
 | .fS _ cs,h=>by simp only [LV.pure] at h; simp only [LV.refs]; exact fm cs h
 | .arr _ _,h | .ptr _ _,h | .bE _ _ _ _,h | .mp _,h=>by simp [LV.pure] at h
 | .agg cs,h=>by simp only [LV.pure] at h; simp only [LV.refs]; exact fm cs h
 | .cV cs,h=>by simp only [LV.pure] at h; simp only [LV.refs]; exact fm cs h
 | .fn _ cs,h=>by simp only [LV.pure] at h; simp only [LV.refs]; exact fm cs h
 | .vQ _ cs,h=>by simp only [LV.pure] at h; simp only [LV.refs]; exact fm cs h
theorem fm:∀ (xs:List LV),LV.bo xs=true→LV.bK xs=[]
 | [],_=>by simp [LV.bK]
 | x :: xs,h=>by
  simp only [LV.bo,Bool.and_eq_true] at h
  simp only [LV.bK,DT x h.1,fm xs h.2,List.append_nil]
end
theorem gl {xs:List LV} (h:LV.bo xs=true):LV.bK xs=[]:=fm xs h
end
end Go.L
namespace Go.L
section
variable {P:Program} {N:Nat} {pr:Nat→Prop} {ops:Array Oper} {e:Env} {m m':Mem} {ev:Operand→LV} {o:Oper} {lv:LV} {l:List Oper} {KE:Env→Mem→Prop}
end
end Go.L
namespace Go.L
mutual
/-- R1 the value not QT of memory IK A2 Vb -/
def LV.kN:LV→Bool
 | .al _ _=>false
 | .full _ _=>false
 | .ag _=>false
 | .fS _ _=>false
 | .aJ _ _ _ _=>false
 | .agg cs=>LV.ks cs
 | .cV cs=>LV.ks cs
 | .fn _ cs=>LV.ks cs
 | .vQ _ cs=>LV.ks cs
 | _=>true
def LV.ks:List LV→Bool
 | []=>true
 | x :: xs=>x.kN && LV.ks xs
end
mutual
theorem av.jt {c c':Cx}:∀ (x:LV) (v:Value),x.kN=true→(∀ id,x.a8 id=false→c'.B id=c.B id)→av c x v→av c' x v
 | .eD,v,_,_,h=>by simp only [av]
 | .int _ _,v,_,_,h=>by simpa only [av] using h
 | .bool _,v,_,_,h=>by simpa only [av] using h
 | .nil,v,_,_,h=>by simpa only [av] using h
 | .p7 _,v,_,_,h=>by simpa only [av] using h
 | .str _,v,_,_,h=>by simpa only [av] using h
 | .it _,v,_,_,h=>by simpa only [av] using h
 | .full _ _,v,hn,_,h=>by simp [LV.kN] at hn
 | .k5,v,_,_,h=>by simpa only [av] using h
 | .fj,v,_,_,h=>by simpa only [av] using h
 | .al _ _,v,hn,_,h=>by simp [LV.kN] at hn
 | .ag _,v,hn,_,h=>by simp [LV.kN] at hn
 | .fS _ _,v,hn,_,h=>by simp [LV.kN] at hn
 | .aJ _ _ _ _,v,hn,_,h=>by simp [LV.kN] at hn
 | .arr id n,v,_,hB,h=>by simp only [av] at h ⊢; rw [hB id (by simp [LV.a8])]; exact h
 | .ptr id o,v,_,hB,h=>by simp only [av] at h ⊢; rw [hB id (by simp [LV.a8])]; exact h
 | .bE id n i o,v,_,hB,h=>by simp only [av] at h ⊢; rw [hB id (by simp [LV.a8])]; exact h
 | .mp id,v,_,hB,h=>by simp only [av] at h ⊢; rw [hB id (by simp [LV.a8])]; exact h
 | .agg cs,v,hn,hB,h=>by
  simp only [av] at h ⊢
  obtain ⟨vs,h1,h2⟩:=h
  exact ⟨vs,h1,aC.jt cs vs (by simpa [LV.kN] using hn) (fun id bB=>hB id (by simpa [LV.a8] using bB)) h2⟩
 | .cV cs,v,hn,hB,h=>by
  simp only [av] at h ⊢
  obtain ⟨vs,h1,h2⟩:=h
  exact ⟨vs,h1,aC.jt cs vs (by simpa [LV.kN] using hn) (fun id bB=>hB id (by simpa [LV.a8] using bB)) h2⟩
 | .fn f cs,v,hn,hB,h=>by
  simp only [av] at h ⊢
  obtain ⟨vs,h1,h2⟩:=h
  exact ⟨vs,h1,aC.jt cs vs (by simpa [LV.kN] using hn) (fun id bB=>hB id (by simpa [LV.a8] using bB)) h2⟩
 | .vQ f cs,v,hn,hB,h=>by
  simp only [av] at h ⊢
  obtain ⟨vs,h1,h2⟩:=h
  exact ⟨vs,h1,aC.jt cs vs (by simpa [LV.kN] using hn) (fun id bB=>hB id (by simpa [LV.a8] using bB)) h2⟩
theorem aC.jt {c c':Cx}:∀ (xs:List LV) (vs:List Value),LV.ks xs=true→(∀ id,LV.cu id xs=false→c'.B id=c.B id)→aC c xs vs→aC c' xs vs
 | [],vs,_,_,h=>by simpa only [aC] using h
 | x :: xs,vs,hn,hB,h=>by
  simp only [aC] at h ⊢
  obtain ⟨v,fI,rfl,h1,h2⟩:=h
  simp only [LV.ks,Bool.and_eq_true] at hn
  exact ⟨v,fI,rfl,av.jt x v hn.1 (fun id bB=>hB id (by simp [LV.cu,bB])) h1,aC.jt xs fI hn.2 (fun id bB=>hB id (by simp [LV.cu,bB])) h2⟩
end
def LE.plain (id:Nat):LE→Prop
 | .box cs=>LV.ks cs=true∧LV.cu id cs=true
 | .arr _ _ xs=>LV.ks xs=true
 | .map _ _ es=>LV.ks (es.map (·.1))=true∧LV.ks (es.map (·.2))=true
 | .nest _ _ _ _=>False
 | .c6 _ _ _ _ _ _ _ _=>False
 | .dead=>True
theorem bw.jt {c c':Cx} {id:Nat} (hw:c'.w=c.w) (hB:∀ i,i ≠ id→c'.B i=c.B i) {x:LE} (hx:x.plain id) {y:Option BE} (h:bw c (some x) y):bw c' (some x) y:=by
 cases x with
 | box cs =>
  simp only [bw] at h ⊢
  obtain ⟨b,vs,e,h1,h2,h3,h4⟩:=h
  exact ⟨b,vs,e,h1,by rw [hw]; exact h2,aC.jt cs vs hx.1 (fun i hi=>hB i (fun he=>by subst he; rw [hx.2] at hi; cases hi)) h3,h4⟩
 | arr e k xs =>
  simp only [bw] at h ⊢
  obtain ⟨u,vs,h1,h0,h2,h3,h4,h5⟩:=h
  exact ⟨u,vs,h1,h0,by rw [hw]; exact h2,aC.jt xs vs hx (fun i hi=>by rw [az xs h5] at hi; cases hi) h3,h4,h5⟩
 | nest e k os xs=>exact hx.elim
 | c6 _ _ _ _ _ _ _ _=>exact hx.elim
 | dead=>simpa only [bw] using h
 | map kt vt es =>
  simp only [bw] at h ⊢
  obtain ⟨b,jF,ck,h1,h2,h3,h4,h5,h6,h7⟩:=h
  exact ⟨b,jF,ck,h1,by rw [hw]; exact h2,aC.jt _ _ hx.1 (fun i hi=>by rw [az _ h5] at hi; cases hi) h3,aC.jt _ _ hx.2 (fun i hi=>by rw [az _ h6] at hi; cases hi) h4,h5,h6,h7⟩
inductive pt (id k:Nat) (xs:List LV):List LV→List LV→Prop
 | nil:pt id k xs [] []
 | row {n:Nat} {l l':List LV} (hn:n=xs.length) (h:pt id k xs l l'):pt id k xs (.arr id n :: l) (.al k xs :: l')
 | jI {x:LV} {l l':List LV} (hx:x.a8 id=true) (h:pt id k xs l l'):pt id k xs (x :: l) (x :: l')
theorem pt.rep {id k:Nat} {xs:List LV} {c c':Cx} (hV:∀ x v,x.a8 id=true→av c x v→av c' x v) (hR:∀ v,av c (.arr id xs.length) v→av c' (.al k xs) v):∀ {l l':List LV} (h:pt id k xs l l') {vs:List Value},aC c l vs→aC c' l' vs
 | _,_,.nil,vs,hr=>by simpa only [aC] using hr
 | _,_,.row hn h,vs,hr=>by
  subst hn
  simp only [aC] at hr ⊢
  obtain ⟨v,fI,rfl,h1,h2⟩:=hr
  exact ⟨v,fI,rfl,hR v h1,h.rep hV hR h2⟩
 | _,_,.jI hx h,vs,hr=>by
  simp only [aC] at hr ⊢
  obtain ⟨v,fI,rfl,h1,h2⟩:=hr
  exact ⟨v,fI,rfl,hV _ v hx h1,h.rep hV hR h2⟩
def Ak (id:Nat) (ml:List (Nat × LE)):Prop:=∀ i le,Mem.of ml i=some le→le.plain id
theorem Vc {id:Nat}:Ak id []:=fun i le h=>by simp [Mem.of] at h
theorem aO.TR {P:Program} {f:Nat} {args gB:List LV} {ml cQ:List (Nat × LE)} {r:LV} (id e k:Nat) {xs:List LV} (h:aO P f gB (Mem.of ml) r (Mem.of cQ)) (ha:pt id k xs args gB)
  (h1:Mem.of ml id=.none) (h2:Mem.of cQ id=.none) (kp:sL id ml=true) (hr:r.kN=true) (Tc:r.a8 id=true) (xj:Ak id cQ) (wq:Mem.of ml dv=.none:=by exact rfl) :
  aO P f args (Mem.of ((id,.arr e k xs) :: ml)) r (Mem.of ((id,.arr e k xs) :: cQ)):=by
 intro c vs hm hargs
 have bB:Mem.of ((id,LE.arr e k xs) :: ml) id=some (.arr e k xs):=by simp [Mem.of]
 obtain ⟨u,us,hB,hk,bj,hl,hc,hp⟩:=kf hm bB
 have pH:∀ i le,i ≠ id→Mem.of ((id,LE.arr e k xs) :: ml) i=some le→le.k6 id=true:=fun i cs hi xV=>by
  simp only [Mem.of,hi,if_false] at xV
  exact mP kp i cs hi xV
 obtain ⟨c1,hw,hO,iH,hV,hU,hX,HQ⟩:=hm.del id pH
 have KW:(Mem.of ((id,LE.arr e k xs) :: ml)).del id=Mem.of ml:=by
  funext i
  unfold Mem.del
  by_cases hi:i=id
  ·subst hi; simp [h1]
  ·simp [hi,Mem.of]
 rw [KW] at iH
 have Ff:c.Le c1:=Cx.sub_le hw hO hU
 have hR:∀ v,av c (.arr id xs.length) v→av c1 (.al k xs) v:=by
  intro v hv
  obtain ⟨fI,zU,Eg,iz,iN,xi,AM⟩:=gv hm hv bB rfl
  simp only [av]
  have K2:=aC.mono Ff xs fI (fun j hj=>by rw [az xs AM] at hj; cases hj) iN
  rcases iz.2 with ⟨rfl,h0⟩ | ⟨g,cap,cur,rfl,_,hg,kq,_⟩
  ·exact ⟨.none,0,by rw [h0],by omega,fun _=>rfl,AM,.inl (List.eq_nil_of_length_eq_zero h0)⟩
  ·refine ⟨some ⟨g,0,.none⟩,cap,rfl,kq,by simp,AM,.inr ⟨g,0,fI,rfl,by rw [hw]; exact (Array.getElem?_eq_some_iff.1 hg).1,hX g _ zU (.inl rfl),K2,xi,?_⟩⟩
   rw [hw]; exact cY iz rfl
 have om:=h c1 vs iH (ha.rep hV hR hargs)
 rw [hw] at om
 refine om.mono ?_
 rintro en w' ⟨v,c2,rfl,rfl,jq,xl,hg⟩
 have wc:c2.B id=.none:=jq.fresh h2
 have Di:¬ (fun i=>Mem.of ml i ≠ .none) dv:=fun h'=>h' wq
 have mn:hD c c2:=fun b n hb=>by
  have:=hg.keeps Di iH b n (by rw [hO.2]; exact hb)
  rw [hw] at this; exact this
 -- the block of the row
 have hblk:∀ b,u.ownBlock=some b→b<c.w.heap.size∧c2.w.heap[b]?=c.w.heap[b]?∧¬ c2.own b∧¬ c2.O b:=by
  intro b hb
  have ec:=(hm.gE id).lt hB (show (BE.arr u k xs.length []).has b from .inl hb)
  have N8:¬ c1.X b:=hX b _ hB (.inl hb)
  have kF:¬ c1.own b:=fun ho=>N8 (.inr ho)
  refine ⟨ec,?_,?_,?_⟩
  ·have:=hg.jI b (by rw [hw]; exact ec) kF (.inr Di); rw [hw] at this; exact this
  ·intro ho
   rcases hg.own b ho with h' | h'
   ·exact kF h'
   ·rw [hw] at h'; omega
  ·rw [hg.O]; exact fun ho=>N8 (.inl (.inl ho))
 let c3:Cx:=⟨c2.w,fun i=>if i=id then c.B id else c2.B i,c2.O,c2.Q⟩
 have we:∀ i,i ≠ id→c3.B i=c2.B i:=fun i hi=>by simp [c3,hi]
 have sO:c3.B id=c.B id:=by simp [c3]
 have pO:∀ b,c3.own b→c2.own b ∨ u.ownBlock=some b:=by
  rintro b ⟨i,be,g1,g2⟩
  by_cases hi:i=id
  ·subst hi; rw [sO,hB] at g1; cases g1; exact .inr (g2.elim (fun h=>h) (fun h=>by cases h))
  ·rw [we i hi] at g1; exact .inl ⟨i,be,g1,g2⟩
 have NA:c3.O=c.O:=by show c2.O=c.O; rw [hg.O,hO.1]
 have Fg:c.Le c3:=by
  refine ⟨by have:=hg.size; rw [hw] at this; exact this,fun b hb hx=>⟨?_,?_⟩,mn⟩
  ·have:=hg.jI b (by rw [hw]; exact hb) (fun ho=>hx (.inr (hU b ho))) (.inr Di); rw [hw] at this; exact this
  ·rintro ((ho | ho) | ho)
   ·rw [NA] at ho; exact hx (.inl (.inl ho))
   ·rcases hg.qn b ho with h' | h' | h'
    ·rw [hO.2] at h'; exact hx (.inl (.inr h'))
    ·exact hx (.inr (hU b h'))
    ·rw [hw] at h'; omega
   ·rcases pO b ho with h' | h'
    ·rcases hg.own b h' with xK | xK
     ·exact hx (.inr (hU b xK))
     ·rw [hw] at xK; omega
    ·exact hx (.inr ⟨id,_,hB,.inl h'⟩)
 have SK:∀ b,c3.Q b ≠ .none→¬ c3.O b∧¬ c3.own b∧b<c3.w.heap.size:=fun b hb=>by
  refine ⟨(jq.cS b hb).1,fun ho=>?_,(jq.cS b hb).2.2⟩
  rcases pO b ho with h' | h'
  ·exact (jq.cS b hb).2.1 h'
  ·rcases hg.qn b hb with q | q | q
   ·rw [hO.2] at q; exact (hm.cS b q).2.1 ⟨id,_,hB,.inl h'⟩
   ·exact hX b _ hB (.inl h') (.inr q)
   ·have:=(hblk b h').1; rw [hw] at q; omega
 refine ⟨v,c3,rfl,rfl,⟨fun i=>?_,?_,?_,?_,SK⟩,?_,?_⟩
 ·by_cases hi:i=id
  ·subst hi
   rw [sO,hB]
   simp only [Mem.of,if_true,bw]
   exact ⟨u,us,rfl,hk,dR bj (fun b hb=>(hblk b hb).2.1),aC.mono Fg xs us (fun j hj=>by rw [az xs hp] at hj; cases hj) hl,hc,hp⟩
  ·rw [we i hi]
   simp only [Mem.of,hi,if_false]
   have he:=jq.gE i
   cases xV:Mem.of cQ i with
   | none=>rw [xV] at he; simpa only [bw] using he
   | some le=>rw [xV] at he; exact bw.jt (c:=c2) (c':=c3) rfl we (xj i le xV) he
 ·intro i j be eF b g1 g2 g3 g4
  by_cases hi:i=id
  ·by_cases hj:j=id
   ·rw [hi,hj]
   ·subst hi
    rw [sO,hB] at g1; cases g1
    rw [we j hj] at g2
    exact absurd ⟨j,eF,g2,g4⟩ (hblk b (g3.elim (fun h=>h) (fun h=>by cases h))).2.2.1
  ·by_cases hj:j=id
   ·subst hj
    rw [sO,hB] at g2; cases g2
    rw [we i hi] at g1
    exact absurd ⟨i,be,g1,g3⟩ (hblk b (g4.elim (fun h=>h) (fun h=>by cases h))).2.2.1
   ·rw [we i hi] at g1; rw [we j hj] at g2
    exact jq.inj i j be eF b g1 g2 g3 g4
 ·intro b ho
  rcases pO b ho with h' | h'
  ·exact jq.jZ b h'
  ·exact (hblk b h').2.2.2
 ·intro b ho; exact jq.pw b ho
 ·exact av.jt r v hr (fun i hi=>we i (fun he=>by subst he; rw [Tc] at hi; cases hi)) xl
 ·refine ⟨NA,?_,?_,?_,?_,?_,?_,fun _ b n hb=>(mn b n hb).2,fun b hb=>?_,?_,?_⟩
  ·have:=hg.os; rw [hw] at this; exact this
  ·have:=hg.tape; rw [hw] at this; exact this
  ·have:=hg.output; rw [hw] at this; exact this
  ·have:=hg.drawn; rw [hw] at this; exact this
  ·have:=hg.size; rw [hw] at this; exact this
  ·intro b hb ho _
   have:=hg.jI b (by rw [hw]; exact hb) (fun rB=>ho (hU b rB)) (.inr Di); rw [hw] at this; exact this
  ·rcases hg.qn b hb with q | q | q
   ·rw [hO.2] at q; exact .inl q
   ·exact .inr (.inl (hU b q))
   ·rw [hw] at q; exact .inr (.inr q)
  ·intro b ho
   rcases pO b ho with h' | h'
   ·rcases hg.own b h' with xK | xK
    ·exact .inl (hU b xK)
    ·rw [hw] at xK; exact .inr xK
   ·exact .inl ⟨id,_,hB,.inl h'⟩
  ·intro i be AO ND
   by_cases hi:i=id
   ·subst hi; exact ⟨be,by rw [sO]; exact ND,.refl be⟩
   ·rw [we i hi]
    have KF:c1.B i=some be:=by rw [HQ i hi]; exact ND
    exact hg.A9 i be (by simpa [Mem.of,hi] using AO) KF
end Go.L
namespace Go.L
section
variable {P:Program} {N:Nat} {pr:Nat→Prop} {ops:Array Oper} {e:Env} {m m':Mem} {ev:Operand→LV} {o:Oper} {lv:LV} {l:List Oper} {KE:Env→Mem→Prop}
theorem dx.at {c:Cx} {os:List (Nat × Nat × Nat)}:∀ {xs:List LV} {vs:List Value} {bs:List Nat},dx c os xs vs bs→∀ {i:Nat} {x:LV},xs[i]?=some x →
  ∃ v bp b bq,vs[i]?=some v∧bs=bp++(b++bq)∧HH c os x v b∧∀ {c':Cx} {x':LV} {v':Value} {b':List Nat},c.Le c'→(∀ q ∈ bp++bq,c'.w.heap[q]?=c.w.heap[q]?)→HH c' os x' v' b'→dx c' os (xs.set i x') (vs.set i v') (bp++(b'++bq))
 | [],_,_,h,i,x,hx=>by simp at hx
 | y :: ys,vs,bs,h,i,x,hx=>by
  simp only [dx] at h
  obtain ⟨v,fI,b1,b2,rfl,rfl,h1,h2⟩:=h
  cases i with
  | zero =>
   simp at hx; subst hx
   refine ⟨v,[],b1,b2,by simp,by simp,h1,fun {c' x' v' b'} hle hh he=>?_⟩
   simp only [List.set_cons_zero,dx,List.nil_append]
   exact ⟨v',fI,b',b2,rfl,rfl,he,h2.mono hle (fun q hq=>hh q (by simp [hq]))⟩
  | succ i =>
   simp at hx
   obtain ⟨u,bp,b,bq,g1,rfl,g3,g4⟩:=h2.at hx
   refine ⟨u,b1++bp,b,bq,by simpa using g1,by simp,g3,fun {c' x' v' b'} hle hh he=>?_⟩
   simp only [List.set_cons_succ,dx]
   refine ⟨v,fI.set i v',b1,bp++(b'++bq),rfl,by simp,?_,g4 hle (fun q hq=>hh q (by simp at hq ⊢; rcases hq with h | h <;> simp [h])) he⟩
   obtain ⟨cs,ws,rfl,hv,hc⟩:=h1
   exact ⟨cs,ws,rfl,hv,hc.mono hle (fun q hq=>hh q (by simp [hq]))⟩
theorem xF {k i:Nat} {vs:List Value} (h:∀ v ∈ vs,v.cells.size=k) (hi:i<vs.length) {v':Value} (hv:v'.cells.size=k):flat (vs.set i v')=(flat vs).take (i * k)++v'.cells.toList++(flat vs).drop (i * k+k):=by
 have e1:vs.set i v'=vs.take i++v' :: vs.drop (i+1):=by rw [List.set_eq_take_append_cons_drop,if_pos hi]
 obtain ⟨f1,f2⟩:=fY h (i:=i) (u:=vs[i]) (by simp [hi])
 have hu:vs[i].cells.toList.length=k:=by simpa using h _ (List.getElem_mem hi)
 rw [e1,eI,gw,f1,← f2]
 rw [List.take_left' rfl]
 have:(flat (vs.take i)).length+k=(flat (vs.take i)).length+vs[i].cells.toList.length:=by omega
 have hd:∀ (A B C:List Value),(A++(B++C)).drop (A.length+B.length)=C:=fun A B C=>by
  rw [← List.append_assoc,← List.length_append,List.drop_left' rfl]
 rw [this,hd]
 simp
theorem b3.tk {c:Cx} (hm:b3 c m) {id e0 k:Nat} {os:List (Nat × Nat × Nat)} {xs:List LV} (bB:m id=some (.nest e0 k os xs)) {i:Nat} {x:LV} (hx:xs[i]?=some x) :
  ∃ g cap cur v bs ins,c.B id=some (.arr (.slice (some ⟨g,0,.none⟩) xs.length cap) k xs.length ins)∧c.w.heap[g]?=some (.cells cur e0 (0,0))∧cur.size=cap * k∧xs.length≤cap∧0<k ∧
   v.cells.size=k∧(∀ y ∈ v.cells,y.oneCell'=true)∧(cur.toList.drop (i * k)).take k=v.cells.toList∧HH c os x v bs∧bs.Nodup∧g ∉ bs∧(∀ b ∈ bs,b ∈ ins) ∧
   ∀ (w':World) (x':LV) (v':Value) (BP:List Nat),w'.os=c.w.os→w'.tape=c.w.tape→w'.output=c.w.output→c.w.drawn≤w'.drawn→c.w.heap.size≤w'.heap.size →
    (∀ b,b<c.w.heap.size→b ≠ g→b ∉ bs→w'.heap[b]?=c.w.heap[b]?) →
    w'.heap[g]?=some (.cells (cur.toList.take (i * k)++v'.cells.toList++cur.toList.drop (i * k+k)).toArray e0 (0,0))→v'.cells.size=k→(∀ y ∈ v'.cells,y.oneCell'=true) →
    (∀ b ∈ BP,b ∈ bs ∨ c.w.heap.size≤b)→BP.Nodup→(∀ c':Cx,c'.w=w'→c.Le c'→HH c' os x' v' BP) →
    ∃ c':Cx,c'.w=w'∧b3 c' (m.put id (.nest e0 k os (xs.set i x')))∧Step pr c c':=by
 have he:=hm.gE id
 rw [bB] at he
 simp only [bw] at he
 obtain ⟨u,vs,ins,hB,hk,bj,hn,hc,hnd,kF⟩:=he
 have hi:i<xs.length:=(List.getElem?_eq_some_iff.1 hx).1
 obtain ⟨v,bp,bs,bq,hv,rfl,qc,iP⟩:=hn.at hx
 have LF:=List.mem_of_getElem? hv
 have nG:=hn.length
 rcases bj.2 with ⟨_,h0⟩ | ⟨g,cap,cur,rfl,wi,hg,kq,zX,hcs,xk⟩
 ·omega
 ·have qd : g ∉ bp ++ (bs ++ bq) := kF g rfl
  have UC:xs.length * k≤cap * k:=Nat.mul_le_mul_right k kq
  have HZ:i * k+k≤xs.length * k:=by
   have:=Nat.mul_le_mul_right k (show i+1≤xs.length by omega)
   rw [Nat.add_mul,Nat.one_mul] at this; exact this
  have lO:cur.toList.length=cur.size:=by simp
  have B4:(flat vs).length=xs.length * k:=bj.1
  have E5:(cur.toList.drop (i * k)).take k=v.cells.toList:=by
   obtain ⟨f1,f2⟩:=fY (fun v hv=>(hc v hv).1) hv
   have AU:v.cells.toList.length=k:=by simpa using (hc v LF).1
   have:(cur.toList.drop (i * k)).take k=((flat vs).drop (i * k)).take k:=by
    rw [← xk,List.drop_take,List.take_take]
    congr 1
    omega
   rw [this,f1,← f2,List.drop_left' rfl,← AU,List.take_left' rfl]
  have mV:=List.nodup_append.1 hnd
  have H3:=List.nodup_append.1 mV.2.1
  refine ⟨g,cap,cur,v,bs,_,hB,hg,hcs,kq,hk,(hc v LF).1,(hc v LF).2,E5,qc,H3.1,fun h=>qd (by simp [h]),fun b hb=>by simp [hb],?_⟩
  intro w' x' v' BP a1 a2 a3 a4 a5 gC sW tf Ly HW Sn KX
  have ec:∀ b ∈ bp++(bs++bq),b<c.w.heap.size:=hn.lt
  obtain ⟨c',hw,gH,h2,h3⟩:=hm.Ac (pr:=pr) id (.nest e0 k os (xs.set i x')) (.arr (.slice (some ⟨g,0,.none⟩) xs.length cap) k xs.length (bp++(BP++bq))) w' a1 a2 a3 a4 a5
   (fun b hb eA=>by
    have:=eA _ hB
    refine gC b hb (fun Ax=>this (.inl (by rw [Ax]; rfl))) (fun qU=>this (.inr (by simp [qU]))))
   (fun b hb=>by
    rcases hb with hb | hb
    ·exact .inl ⟨_,hB,.inl hb⟩
    ·simp only [List.mem_append] at hb
     rcases hb with hb | hb | hb
     ·exact .inl ⟨_,hB,.inr (by simp [hb])⟩
     ·rcases HW b hb with h | h
      ·exact .inl ⟨_,hB,.inr (by simp [h])⟩
      ·exact .inr h
     ·exact .inl ⟨_,hB,.inr (by simp [hb])⟩)
   (by rw [hB]; exact ⟨_,_,_,rfl,Nat.le_refl _,fun _=>rfl⟩) (fun _ dr h0=>by rw [hB] at h0; cases h0; exact ⟨_,_,_,rfl,Nat.le_refl _,fun _=>rfl⟩)
   (fun c' hw hle dz=>by
    simp only [bw,List.length_set]
    refine ⟨.slice (some ⟨g,0,.none⟩) xs.length cap,vs.set i v',bp++(BP++bq),rfl,hk,⟨?_,.inr ⟨g,cap,_,rfl,wi,by rw [hw]; exact sW,kq,zX,?_,?_⟩⟩,iP hle (fun q hq=>?_) (KX c' hw hle),?_,?_,?_⟩
    ·rw [dm (k:=k) (fun y hy=>?_)]
     ·simp [nG]
     ·rcases List.mem_or_eq_of_mem_set hy with h | h
      ·exact (hc y h).1
      ·rw [h]; exact tf
    ·have:v'.cells.toList.length=k:=by simpa using tf
     simp only [List.size_toArray,List.length_append,List.length_take,List.length_drop,lO,this,hcs]
     omega
    ·rw [xF (fun y hy=>(hc y hy).1) (by omega) tf,← xk]
     have e2:v'.cells.toList.length=k:=by simpa using tf
     apply List.ext_getElem?
     intro j
     simp only [List.toList_toArray,List.getElem?_take,List.getElem?_append,List.length_append,List.length_take,List.getElem?_drop,e2,lO]
     repeat' split
     all_goals first | rfl | omega | (congr 1; omega) | skip
    ·refine (hw ▸ gC q (ec q (by simp at hq ⊢; rcases hq with h | h <;> simp [h])) (fun Li=>qd (by rw [← Li]; simp at hq ⊢; rcases hq with h | h <;> simp [h])) (fun H7=>?_))
     rcases List.mem_append.1 hq with h | h
     ·exact mV.2.2 q h q (by simp [H7]) rfl
     ·exact H3.2.2 q H7 q h rfl
    ·intro y hy
     rcases List.mem_or_eq_of_mem_set hy with h | h
     ·exact hc y h
     ·rw [h]; exact ⟨tf,Ly⟩
    ·refine List.nodup_append.2 ⟨mV.1,List.nodup_append.2 ⟨Sn,H3.2.1,fun a ha b hb mj=>?_⟩,fun a ha b hb mj=>?_⟩
     ·subst mj
      rcases HW a ha with h | h
      ·exact H3.2.2 a h a hb rfl
      ·have:=ec a (by simp [hb]); omega
     ·subst mj
      rcases List.mem_append.1 hb with h | h
      ·rcases HW a h with h' | h'
       ·exact mV.2.2 a ha a (by simp [h']) rfl
       ·have:=ec a (by simp [ha]); omega
      ·exact mV.2.2 a ha a (by simp [h]) rfl
    ·intro b hb
     have Ax:g=b:=by simpa [Value.ownBlock] using hb
     subst Ax
     intro xi
     simp only [List.mem_append] at xi
     rcases xi with h | h | h
     ·exact qd (by simp [h])
     ·rcases HW g h with h' | h'
      ·exact qd (by simp [h'])
      ·have:=(Array.getElem?_eq_some_iff.1 hg).1; omega
     ·exact qd (by simp [h]))
  exact ⟨c',hw,h2,h3⟩
def zN (os:List (Nat × Nat × Nat)):Nat→List LV→List LV
 | _,[]=>[]
 | o,x :: xs=>(match os.lookup o with | some (_,k)=>.al k [] | .none=>x) :: zN os (o+1) xs
def PS (os:List (Nat × Nat × Nat)):Nat→List LV→Bool
 | _,[]=>true
 | o,x :: xs=>(match os.lookup o with | some (_,k)=>(match x with | .nil=>Nat.ble 1 k | _=>false) | .none=>x.pure) && PS os (o+1) xs
theorem gu.JM {c:Cx} {os:List (Nat × Nat × Nat)}:∀ {o:Nat} {cs:List LV} {ws:List Value},aC c cs ws→PS os o cs=true→gu c os o (zN os o cs) ws []
 | _,[],ws,h,_=>by simp only [aC] at h; simp only [zN,gu]; exact ⟨h,trivial⟩
 | o,x :: xs,ws,h,hn=>by
  simp only [aC] at h
  obtain ⟨w,CD,rfl,h1,h2⟩:=h
  simp only [PS,Bool.and_eq_true] at hn
  simp only [zN,gu]
  refine ⟨w,CD,[],[],rfl,rfl,?_,gu.JM h2 hn.2⟩
  unfold fk
  cases hl:os.lookup o with
  | none=>rw [hl] at hn; exact ⟨h1,hn.1,rfl⟩
  | some p =>
   obtain ⟨e,k⟩:=p
   rw [hl] at hn
   have hx:x=.nil∧0<k:=by
    have:=hn.1
    cases x <;> simp at this
    exact ⟨rfl,this⟩
   obtain ⟨rfl,hk⟩:=hx
   simp only [av] at h1
   subst h1
   exact .inr ⟨[],[],rfl,hk,World.ownsRow_nil c.w 0 e k,by simp [aC],by simp,rfl,by simp [Value.ownBlock]⟩
theorem F3 {c:Cx} {m:Mem} (hm:b3 c m) {id n e0 k:Nat} {os:List (Nat × Nat × Nat)} {xs:List LV} {v:Value} (hv:av c (.arr id n) v) (bB:m id=some (.nest e0 k os xs)) (hn:n=xs.length) :
  ∃ vs ins,c.B id=some (.arr v k xs.length ins)∧0<k∧c.w.ownsRow 0 e0 k v xs.length (flat vs)∧dx c os xs vs ins∧(∀ v ∈ vs,v.cells.size=k∧∀ y ∈ v.cells,y.oneCell'=true):=by
 have he:=hm.gE id
 rw [bB] at he
 simp only [bw] at he
 obtain ⟨u,vs,ins,hB,hk,bj,hl,hc,_⟩:=he
 simp only [av] at hv
 obtain ⟨_,u',k',len,lE,iF,xU,hv⟩:=hv
 rw [hB] at iF
 cases iF
 have:=hv hn
 subst this
 exact ⟨vs,ins,hB,hk,bj,hl,hc⟩
theorem Md {d:Option Nat} {x y:Operand} {t ty:TypeId} {pos:String} {af:Array Edge} {g:Option (Nat × Bool)} {el kk id n:Nat} {os:List (Nat × Nat × Nat)} {xs:List LV} {k:IntKind} {u:Int} (he:telem P t=some el) (hk:tok P el=true) (hs:tsize P el=kk) (hx:ev x=.arr id n) (hm:m id=some (.nest el kk os xs)) (hn:n=xs.length) (hy:ev y=.int k u) (h0:0≤u) (h1:u.toNat<xs.length) :
  bn P pr ⟨d,.indexAddr t x y,ty,pos,af,g⟩ ev m (.bE id n u.toNat 0) m:=by
 have hu:=fp he
 refine bn.value fun c a bA hM=>?_
 have FJ:=bA y (by simp [Op.operands])
 rw [hy] at FJ
 simp only [av] at FJ
 have hv:=bA x (by simp [Op.operands])
 rw [hx] at hv
 obtain ⟨vs,ins,hB,Je,bj,hl,hc⟩:=F3 hM hv hm hn
 subst hn
 rcases bj.2 with ⟨_,R5⟩ | ⟨g,cap,cur,LI,_⟩
 ·omega
 ·refine ⟨.pointer (some ⟨g,u.toNat * kk,.none⟩),c,?_,?_,hM,Step.refl pr c⟩
  ·unfold tok at hk
   cases sY:P.info? el with
   | none=>simp [sY] at hk
   | some ie =>
    have mn:kk=ie.size:=by rw [← hs]; simp [tsize,sY]
    have wj:u<(xs.length:Int):=by omega
    simp [execOp,LI,FJ,Instr.indexAt,asIntOf,run_underlying hu,h0,wj,sizeOf,typeInfo,sY,Addr.add_mid,mn]
  ·simp only [av]
   exact ⟨rfl,_,kk,xs.length,_,hB,by omega,fun _=>⟨g,by rw [LI]; rfl,by simp⟩⟩
theorem dx.G0 {c:Cx} {os:List (Nat × Nat × Nat)} {x:LV} {v:Value} (h:HH c os x v []):∀ n,dx c os (List.replicate n x) (List.replicate n v) []
 | 0=>by simp [dx]
 | n+1=>by
  simp only [List.replicate_succ,dx]
  exact ⟨v,List.replicate n v,[],[],rfl,rfl,h,dx.G0 h n⟩
theorem Mh {x y:Operand} {t ty:TypeId} {pos:String} {af:Array Edge} {g:Option (Nat × Bool)} {d e0 k id:Nat} {os:List (Nat × Nat × Nat)} {zc:List LV} {n:Int} (lh:telem P t=some e0) (hz:tzero P e0=some (.agg zc)) (lT:gz P e0=true) (hs:tsize P e0=k) (hx:ev x=.int .i64 n) (hy:ev y=.int .i64 n) (h0:0≤n) (hb:n≤549755813888) (bB:m id=.none) (gD:PS os 0 zc=true) :
  bn P pr ⟨some d,.makeSlice t x y,ty,pos,af,g⟩ ev m (.arr id n.toNat) (m.put id (.nest e0 k os (List.replicate n.toNat (.agg (zN os 0 zc))))):=by
 have hu:=fp lh
 obtain ⟨i,zv,hi,AX,uk,B7,eH,C0,qe⟩:=pc lT
 subst hs
 refine bn.value fun c a bA hm=>?_
 have oa:=bA x (by simp [Op.operands])
 have lU:=bA y (by simp [Op.operands])
 rw [hx] at oa
 rw [hy] at lU
 simp only [av] at oa lU
 have TM:Ds zv=.agg zc:=by
  simp only [tzero,hi,AX] at hz
  split at hz
  ·simpa using hz
  ·cases hz
 have Az:(i.bytes:Int) * n≤281474976710656:=by
  have h1:(i.bytes:Int) * n≤256 * n:=Int.mul_le_mul_of_nonneg_right (by omega) h0
  omega
 have du:=run_make (P:=P) c.w t e0 i zv hu hi AX .i64 .i64 n n h0 (Int.le_refl _) Az (by omega)
 have hB:=hm.fresh bB
 have lS:(madeCells zv.cells (n.toNat * i.size)).toList=flat (List.replicate n.toNat zv):=by
  apply List.ext_getElem?
  intro j
  rw [flat_get eH (fun v hv=>by rw [List.eq_of_mem_replicate hv]; exact uk)]
  simp only [Array.getElem?_toList,madeCells,Array.getElem?_map,Array.getElem?_range,List.getElem?_replicate,uk]
  by_cases hj:j<n.toNat * i.size
  ·have h1:j / i.size<n.toNat:=(Nat.div_lt_iff_lt_mul eH).2 hj
   have h2:j % i.size<zv.cells.size:=by rw [uk]; exact Nat.mod_lt _ eH
   rw [if_pos hj,if_pos h1]
   simp [h2]
  ·have h1:¬ j / i.size<n.toNat:=fun hh=>hj ((Nat.div_lt_iff_lt_mul eH).1 hh)
   rw [if_neg hj,if_neg h1]
   rfl
 have eK:(madeCells zv.cells (n.toNat * i.size)).size=n.toNat * i.size:=size_madeCells _ _
 have qc:∀ c':Cx,HH c' os (.agg (zN os 0 zc)) zv []:=fun c'=>by
  have hr:=ng c' zv
  rw [TM] at hr
  simp only [av] at hr
  obtain ⟨ws,he,hl⟩:=hr
  exact ⟨_,ws,rfl,he,gu.JM hl gD⟩
 obtain ⟨c',hw,gH,h2,h3⟩:=hm.Ac (pr:=pr) id (.nest e0 (tsize P e0) os (List.replicate n.toNat (.agg (zN os 0 zc)))) (.arr (.slice (some ⟨c.w.heap.size,0,.none⟩) n.toNat n.toNat) (tsize P e0) n.toNat [])
  (c.w.alloc (.cells (madeCells zv.cells (n.toNat * i.size)) e0)) rfl rfl rfl (Nat.le_refl _) (by simp)
  (fun b gH _=>oq c.w _ b gH) (fun b gH=>by simp [BE.has,Value.ownBlock] at gH; exact .inr (by omega)) (by rw [hB]; trivial) (fun _ dr h0=>by rw [hB] at h0; cases h0)
  (fun c' hw hle dz=>by
   simp only [bw,qe,List.length_replicate]
   refine ⟨_,List.replicate n.toNat zv,[],rfl,eH,⟨by rw [dm (k:=i.size) (fun v hv=>by rw [List.eq_of_mem_replicate hv]; exact uk)]; simp,.inr ⟨c.w.heap.size,n.toNat,_,rfl,Nat.zero_le _,by rw [hw]; exact heap_alloc_new c.w _,Nat.le_refl _,by simp only [maxLen]; omega,eK,?_⟩⟩,dx.G0 (qc c') _,?_,by simp,by simp⟩
   ·rw [List.take_of_length_le (by rw [Array.length_toList,eK]; exact Nat.le_refl _),lS]
   ·intro v hv
    rw [List.eq_of_mem_replicate hv]
    exact ⟨uk,B7⟩)
 refine ⟨.slice (some ⟨c.w.heap.size,0,.none⟩) n.toNat n.toNat,c',by rw [hw]; simp [execOp,oa,lU,du],?_,h2,h3⟩
 simp only [av]
 exact ⟨rfl,_,_,_,_,gH,Nat.le_refl _,fun _=>rfl⟩
end
theorem so.Av {c c':Cx} (hle:c.Le c') (hw:c'.w=c.w) {e k:Nat} {x:LV} {v:Value} {bs:List Nat} (hX:∀ b ∈ bs,¬ c'.X b) (h:so c e k x v bs):av c' x v:=by
 rcases h with ⟨rfl,_⟩ | ⟨ys,us,rfl,hk,bj,hl,hc,hp,rfl⟩
 ·simp only [av]
 ·simp only [av]
  have iN:=aC.mono hle ys us (fun j hj=>by rw [az ys hp] at hj; cases hj) hl
  rcases bj.2 with ⟨rfl,h0⟩ | ⟨g,cap,cur,rfl,_,hg,kq,_⟩
  ·exact ⟨.none,0,by rw [h0],by omega,fun _=>rfl,hp,.inl (List.eq_nil_of_length_eq_zero h0)⟩
  ·refine ⟨some ⟨g,0,.none⟩,cap,rfl,kq,by simp,hp,.inr ⟨g,0,us,rfl,by rw [hw]; exact (Array.getElem?_eq_some_iff.1 hg).1,hX g (by simp [Value.ownBlock]),iN,hc,?_⟩⟩
   rw [hw]; exact cY bj rfl
theorem gu.Av {c c':Cx} (hle:c.Le c') (hw:c'.w=c.w) {os:List (Nat × Nat × Nat)}:∀ {o:Nat} {xs:List LV} {ws:List Value} {bs:List Nat},(∀ b ∈ bs,¬ c'.X b)→gu c os o xs ws bs→aC c' xs ws
 | _,[],_,_,_,h=>by simp only [gu] at h; simp only [aC]; exact h.1
 | o,x :: xs,ws,bs,hX,h=>by
  simp only [gu] at h
  obtain ⟨w,CD,b1,b2,rfl,rfl,h1,h2⟩:=h
  simp only [aC]
  refine ⟨w,CD,rfl,?_,gu.Av hle hw (fun b hb=>hX b (by simp [hb])) h2⟩
  unfold fk at h1
  split at h1
  ·exact so.Av hle hw (fun b hb=>hX b (by simp [hb])) h1
  ·exact av.mono hle x w (fun id bB=>by rw [eX x h1.2.1] at bB; cases bB) h1.1
theorem dx.Av {c c':Cx} (hle:c.Le c') (hw:c'.w=c.w) {os:List (Nat × Nat × Nat)}:∀ {xs:List LV} {vs:List Value} {bs:List Nat},(∀ b ∈ bs,¬ c'.X b)→dx c os xs vs bs→aC c' xs vs
 | [],_,_,_,h=>by simp only [dx] at h; simp only [aC]; exact h.1
 | x :: xs,vs,bs,hX,h=>by
  simp only [dx] at h
  obtain ⟨v,fI,b1,b2,rfl,rfl,⟨cs,ws,rfl,rfl,h1⟩,h2⟩:=h
  simp only [aC]
  refine ⟨_,fI,rfl,?_,dx.Av hle hw (fun b hb=>hX b (by simp [hb])) h2⟩
  simp only [av]
  exact ⟨ws,rfl,h1.Av hle hw (fun b hb=>hX b (by simp [hb]))⟩
theorem mX {P:Program} {pr:Nat→Prop} {ro:List Nat} {ops:Array Oper} {l:List Oper} {et:List Nat} {KE:Env→Mem→Prop} {e:Env} {m m':Mem} {lv:LV} {i:Nat} {op:Op} {ty:TypeId} {pos:String} {af:Array Edge} (h:bn P pr ⟨some i,op,ty,pos,af,.none⟩ (da e) m lv m') (hr:cA P pr ro ops (List.zip l et) KE (e.put i lv) m'):cA P pr ro ops (List.zip (⟨some i,op,ty,pos,af,.none⟩ :: l) (3 :: et)) KE e m:=⟨lv,m',h,hr⟩
theorem U8 {P:Program} {pr:Nat→Prop} {ro:List Nat} {ops:Array Oper} {l:List Oper} {et:List Nat} {KE:Env→Mem→Prop} {e:Env} {m m':Mem} {lv:LV} {op:Op} {ty:TypeId} {pos:String} {af:Array Edge} (h:bn P pr ⟨.none,op,ty,pos,af,.none⟩ (da e) m lv m') (hr:cA P pr ro ops (List.zip l et) KE e m'):cA P pr ro ops (List.zip (⟨.none,op,ty,pos,af,.none⟩ :: l) (3 :: et)) KE e m:=⟨lv,m',h,hr⟩
end Go.L
namespace Go.L
section
variable {P:Program} {N:Nat} {pr:Nat→Prop} {ops:Array Oper} {ev:Operand→LV} {o:Oper} {lv:LV} {m m':Mem}
theorem b3.IS {c:Cx} (h:b3 c m) (id id2:Nat) (eA:id ≠ id2) (le U5:LE) (be BO:BE) (w':World)
  (Ei:w'.os=c.w.os) (pR:w'.tape=c.w.tape) (oT:w'.output=c.w.output) (xN:c.w.drawn≤w'.drawn) (eK:c.w.heap.size≤w'.heap.size)
  (gC:∀ b,b<c.w.heap.size→(∀ dr,c.B id=some dr→¬ dr.has b)→(∀ dr,c.B id2=some dr→¬ dr.has b)→w'.heap[b]?=c.w.heap[b]?)
  (hblk:∀ b,be.has b ∨ BO.has b→(∃ dr,c.B id=some dr∧dr.has b) ∨ (∃ dr,c.B id2=some dr∧dr.has b) ∨ c.w.heap.size≤b) (sV:∀ b,be.has b→BO.has b→False)
  (hle:jB (c.B id) (some be)) (oS:jB (c.B id2) (some BO)) (mE:pr id→∀ dr,c.B id=some dr→dr.kV be) (ta:pr id2→∀ dr,c.B id2=some dr→dr.kV BO)
  (gS:∀ c':Cx,c'.w=w'→c.Le c'→(∀ i,jB (c.B i) (c'.B i))→c'.B id2=some BO→bw c' (some le) (some be)) (xO:∀ c':Cx,c'.w=w'→c.Le c'→(∀ i,jB (c.B i) (c'.B i))→bw c' (some U5) (some BO)) :
  ∃ c':Cx,c'.w=w'∧c'.B id=some be∧c'.B id2=some BO∧b3 c' ((m.put id le).put id2 U5)∧Step pr c c':=by
 let c':Cx:=⟨w',fun i=>if i=id2 then some BO else if i=id then some be else c.B i,c.O,c.Q⟩
 have e1:c'.B id=some be:=by simp [c',eA]
 have e2:c'.B id2=some BO:=by simp [c']
 have e3:∀ i,i ≠ id→i ≠ id2→c'.B i=c.B i:=fun i h1 h2=>by simp [c',h1,h2]
 have key:∀ i b1 b,c'.B i=some b1→b1.has b→(∃ j dr,c.B j=some dr∧dr.has b∧(j=i ∨ (i=id ∨ i=id2)∧(j=id ∨ j=id2))) ∨ c.w.heap.size≤b:=by
  intro i b1 b g1 g2
  by_cases hi:i=id
  ·subst hi; rw [e1] at g1; cases g1
   rcases hblk b (.inl g2) with ⟨dr,q1,q2⟩ | ⟨dr,q1,q2⟩ | q
   ·exact .inl ⟨i,dr,q1,q2,.inl rfl⟩
   ·exact .inl ⟨id2,dr,q1,q2,.inr ⟨.inl rfl,.inr rfl⟩⟩
   ·exact .inr q
  ·by_cases pj:i=id2
   ·subst pj; rw [e2] at g1; cases g1
    rcases hblk b (.inr g2) with ⟨dr,q1,q2⟩ | ⟨dr,q1,q2⟩ | q
    ·exact .inl ⟨id,dr,q1,q2,.inr ⟨.inr rfl,.inl rfl⟩⟩
    ·exact .inl ⟨i,dr,q1,q2,.inl rfl⟩
    ·exact .inr q
   ·rw [e3 i hi pj] at g1; exact .inl ⟨i,b1,g1,g2,.inl rfl⟩
 have bj:∀ b,c'.own b→c.own b ∨ c.w.heap.size≤b:=by
  rintro b ⟨i,eF,h1,h2⟩
  rcases key i eF b h1 h2 with ⟨j,dr,q1,q2,_⟩ | q
  ·exact .inl ⟨j,dr,q1,q2⟩
  ·exact .inr q
 have jN:Grow pr c c':=by
  refine ⟨rfl,Ei,pR,oT,xN,eK,fun b hb ho _=>gC b hb (fun dr h0 h1=>ho ⟨id,dr,h0,h1⟩) (fun dr h0 h1=>ho ⟨id2,dr,h0,h1⟩),fun _ _ _ h=>h,fun _ h=>.inl h,bj,fun i eF hp hb=>?_⟩
  by_cases hi:i=id
  ·subst hi; exact ⟨be,e1,mE hp eF hb⟩
  ·by_cases pj:i=id2
   ·subst pj; exact ⟨BO,e2,ta hp eF hb⟩
   ·exact ⟨eF,by rw [e3 i hi pj]; exact hb,.refl eF⟩
 have mn:hD c c':=h.FU ⟨rfl,rfl⟩ fun b hb ho=>gC b hb (fun dr h0 h1=>ho ⟨id,dr,h0,h1⟩) (fun dr h0 h1=>ho ⟨id2,dr,h0,h1⟩)
 have mB:=jN.le mn
 have dz:∀ i,jB (c.B i) (c'.B i):=by
  intro i
  by_cases hi:i=id
  ·subst hi; rw [e1]; exact hle
  ·by_cases pj:i=id2
   ·subst pj; rw [e2]; exact oS
   ·rw [e3 i hi pj]; exact jB.refl _
 refine ⟨c',rfl,e1,e2,⟨fun i=>?_,?_,?_,?_,h.U9 ⟨rfl,rfl⟩ eK bj⟩,jN,dz,mn⟩
 ·by_cases pj:i=id2
  ·subst pj; rw [e2]; simp only [Mem.put,if_true]; exact xO c' rfl mB dz
  ·by_cases hi:i=id
   ·subst hi; rw [e1]; simp only [Mem.put,pj,if_false,if_true]; exact gS c' rfl mB dz e2
   ·rw [e3 i hi pj]
    simp only [Mem.put,hi,pj,if_false]
    refine (h.gE i).mono mB dz fun eF b hb qU=>?_
    refine gC b ((h.gE i).lt hb qU) (fun dr h0 h1=>?_) (fun dr h0 h1=>?_)
    ·exact hi (h.inj i id eF dr b hb h0 qU h1)
    ·exact pj (h.inj i id2 eF dr b hb h0 qU h1)
 ·intro i i' b1 b2 b h1 h2 h3 h4
  rcases key i b1 b h1 h3 with ⟨j,dr,q1,q2,q3⟩ | q
  ·rcases key i' b2 b h2 h4 with ⟨j',Ni,T2,T3,z6⟩ | q'
   ·have hj := h.inj j j' dr Ni b q1 T2 q2 T3
    subst hj
    by_cases hi:i=id
    ·by_cases gx:i'=id
     ·rw [hi,gx]
     ·by_cases pj:i'=id2
      ·rw [hi,e1] at h1; rw [pj,e2] at h2; cases h1; cases h2; exact (sV b h3 h4).elim
      ·rcases z6 with z6 | ⟨q,_⟩
       ·subst z6
        rcases q3 with q3 | ⟨_,q3⟩
        ·exact q3.symm
        ·rcases q3 with q3 | q3
         ·exact absurd q3 gx
         ·exact absurd q3 pj
       ·rcases q with q | q
        ·exact absurd q gx
        ·exact absurd q pj
    ·by_cases pj:i=id2
     ·by_cases gx:i'=id
      ·rw [pj,e2] at h1; rw [gx,e1] at h2; cases h1; cases h2; exact (sV b h4 h3).elim
      ·by_cases C7:i'=id2
       ·rw [pj,C7]
       ·rcases z6 with z6 | ⟨q,_⟩
        ·subst z6
         rcases q3 with q3 | ⟨_,q3⟩
         ·exact q3.symm
         ·rcases q3 with q3 | q3
          ·exact absurd q3 gx
          ·exact absurd q3 C7
        ·rcases q with q | q
         ·exact absurd q gx
         ·exact absurd q C7
     ·rcases q3 with q3 | ⟨q,_⟩
      ·subst q3
       rcases z6 with z6 | ⟨_,z6⟩
       ·exact z6
       ·rcases z6 with z6 | z6
        ·exact absurd z6 hi
        ·exact absurd z6 pj
      ·rcases q with q | q
       ·exact absurd q hi
       ·exact absurd q pj
   ·have:=(h.gE j).lt q1 q2; omega
  ·rcases key i' b2 b h2 h4 with ⟨j',Ni,T2,T3,z6⟩ | q'
   ·have:=(h.gE j').lt T2 T3; omega
   ·by_cases hi:i=id
    ·by_cases gx:i'=id
     ·rw [hi,gx]
     ·by_cases pj:i'=id2
      ·rw [hi,e1] at h1; rw [pj,e2] at h2; cases h1; cases h2; exact (sV b h3 h4).elim
      ·rw [e3 i' gx pj] at h2; have:=(h.gE i').lt h2 h4; omega
    ·by_cases pj:i=id2
     ·by_cases gx:i'=id
      ·rw [pj,e2] at h1; rw [gx,e1] at h2; cases h1; cases h2; exact (sV b h4 h3).elim
      ·by_cases C7:i'=id2
       ·rw [pj,C7]
       ·rw [e3 i' gx C7] at h2; have:=(h.gE i').lt h2 h4; omega
     ·rw [e3 i hi pj] at h1; have:=(h.gE i).lt h1 h3; omega
 ·intro b ho hO
  rcases bj b ho with ho | hs
  ·exact h.jZ b ho hO
  ·have:=h.pw b hO; omega
 ·intro b hO; exact Nat.lt_of_lt_of_le (h.pw b hO) eK
theorem gu.at {c:Cx} {os:List (Nat × Nat × Nat)}:∀ {q:Nat} {xs:List LV} {ws:List Value} {bs:List Nat},gu c os q xs ws bs→∀ {j:Nat} {x:LV},xs[j]?=some x →
  ∃ w bp b bq,ws[j]?=some w∧bs=bp++(b++bq)∧fk c os (q+j) x w b∧∀ {c':Cx} {x':LV} {w':Value} {b':List Nat},c.Le c'→(∀ r ∈ bp++bq,c'.w.heap[r]?=c.w.heap[r]?)→fk c' os (q+j) x' w' b'→gu c' os q (xs.set j x') (ws.set j w') (bp++(b'++bq))
 | _,[],_,_,h,j,x,hx=>by simp at hx
 | q,y :: ys,ws,bs,h,j,x,hx=>by
  simp only [gu] at h
  obtain ⟨w,CD,b1,b2,rfl,rfl,h1,h2⟩:=h
  cases j with
  | zero =>
   simp at hx; subst hx
   refine ⟨w,[],b1,b2,by simp,by simp,h1,fun {c' x' w' b'} hle hh he=>?_⟩
   simp only [List.set_cons_zero,gu,List.nil_append]
   exact ⟨w',CD,b',b2,rfl,rfl,he,h2.mono hle (fun r hr=>hh r (by simp [hr]))⟩
  | succ j =>
   simp at hx
   obtain ⟨u,bp,b,bq,g1,rfl,g3,g4⟩:=gu.at h2 hx
   have hq:q+1+j=q+(j+1):=by omega
   rw [hq] at g3
   refine ⟨u,b1++bp,b,bq,by simpa using g1,by simp,g3,fun {c' x' w' b'} hle hh he=>?_⟩
   simp only [List.set_cons_succ,gu]
   refine ⟨w,CD.set j w',b1,bp++(b'++bq),rfl,by simp,h1.mono hle (fun r hr=>hh r (by simp [hr])),g4 hle (fun r hr=>hh r (by simp at hr ⊢; rcases hr with h | h <;> simp [h])) (by rw [hq]; exact he)⟩
theorem nK {w:World} {g i k o0 e0:Nat} {cur:Array Value} {ws:List Value} {x:Value} (hg:w.heap[g]?=some (.cells cur e0 (0,0))) (sR:(cur.toList.drop (i * k)).take k=ws) (hw:ws[o0]?=some x):w.cell? ⟨g,i * k+o0,.none⟩=some x:=by
 rw [← sR,List.getElem?_take] at hw
 split at hw
 ·rw [List.getElem?_drop] at hw
  simp [World.cell?,hg]
  simpa using hw
 ·cases hw
theorem rf {cur ws:List Value} {ik k o0:Nat} {w':Value} (sR:(cur.drop ik).take k=ws) (hk:ik+k≤cur.length) (ho:o0<k):cur.take (ik+o0)++[w']++cur.drop (ik+o0+1)=cur.take ik++ws.set o0 w'++cur.drop (ik+k):=by
 have zZ:ws.length=k:=by rw [← sR]; simp; omega
 have e1:cur.take (ik+o0)++[w']++cur.drop (ik+o0+1)=cur.set (ik+o0) w':=by
  rw [List.set_eq_take_append_cons_drop,if_pos (by omega)]; simp
 have e2:cur=cur.take ik++(ws++cur.drop (ik+k)):=by
  rw [← sR]
  have:cur.drop (ik+k)=(cur.drop ik).drop k:=by rw [List.drop_drop]
  rw [this,List.take_append_drop,List.take_append_drop]
 have hl:(cur.take ik).length=ik:=by simp; omega
 rw [e1]
 conv=>lhs; rw [e2]
 rw [List.set_append_right _ _ (by omega),hl,show ik+o0 - ik=o0 by omega,List.set_append_left _ _ (by omega)]
 simp
theorem iv {c:Cx} {id n i o0 g cap k len:Nat} {ins:List Nat} {v:Value} (hv:av c (.bE id n i o0) v) (hB:c.B id=some (.arr (.slice (some ⟨g,0,.none⟩) len cap) k len ins)) (hn:n=len):v=.pointer (some ⟨g,i * k+o0,.none⟩):=by
 simp only [av] at hv
 obtain ⟨_,u',k',lG,lE,iF,xU,hv⟩:=hv
 rw [hB] at iF
 cases iF
 obtain ⟨b,hb,he⟩:=hv hn
 have:g=b:=by simpa [Value.ownBlock] using hb
 rw [this]; exact he
section
variable {d:Option Nat} {d1:Nat} {x y:Operand} {t ty:TypeId} {pos:String} {af:Array Edge} {gd:Option (Nat × Bool)} {e0 k id n i o0:Nat} {os:List (Nat × Nat × Nat)} {xs cs:List LV} {z:LV}
theorem fL (hx:ev x=.bE id n i o0) (hm:m id=some (.nest e0 k os xs)) (hn:n=xs.length) (hz:xs[i]?=some z):bn P pr ⟨d,.nilCheck x,ty,pos,af,gd⟩ ev m (.bE id n i o0) m:=by
 refine bn.value fun c a bA hM=>?_
 have hv:=bA x (by simp [Op.operands])
 rw [hx] at hv
 obtain ⟨g,cap,cur,v,bs,ins,hB,_⟩:=hM.tk (pr:=pr) hm hz
 have he:=iv hv hB hn
 exact ⟨a.eval x,c,by simp [execOp,he],hv,hM,Step.refl pr c⟩
theorem fJ {f off ft kk:Nat} (hf:tfield P t f=some (off,ft)) (hk:tok P ft=true) (hs:tsize P ft=kk+1) (hx:ev x=.bE id n i o0) (hm:m id=some (.nest e0 k os xs)) (hn:n=xs.length) (hz:xs[i]?=some z):bn P pr ⟨d,.fieldAddr t x f,ty,pos,af,gd⟩ ev m (.bE id n i (o0+off)) m:=by
  obtain ⟨fs,fd,hu,B3,rfl,rfl⟩:∃ fs fd,P.underlying t=some (.struct fs)∧fs[f]?=some fd∧fd.offset=off∧fd.type=ft:=by
    unfold tfield at hf
    split at hf
    · rename_i fs hu
      cases KZ:fs[f]? with
      | none=>simp [KZ] at hf
      | some fd=>simp [KZ] at hf; exact ⟨fs,fd,hu,KZ,hf.1,hf.2⟩
    · cases hf
  refine bn.value fun c a bA hM=>?_
  have hv:=bA x (by simp [Op.operands])
  rw [hx] at hv
  obtain ⟨g,cap,cur,v,bs,ins,hB,_⟩:=hM.tk (pr:=pr) hm hz
  have he:=iv hv hB hn
  have hi:∃ i,P.info? fd.type=some i∧i.size ≠ 0:=by
    unfold tok at hk
    cases hi:P.info? fd.type with
    | none=>simp [hi] at hk
    | some i => exact ⟨i, rfl, by have : tsize P fd.type = i.size := by simp [tsize, hi]
                                  omega⟩
  obtain ⟨ii,hi,NU⟩:=hi
  refine ⟨.pointer (some ⟨g,i * k+(o0+fd.offset),.none⟩),c,?_,?_,hM,Step.refl pr c⟩
  · simp [execOp,he,Instr.fieldAt,run_underlying hu,B3,Instr.sureAddr,fieldPlace,sizeOf,typeInfo,hi,NU,Addr.add_mid,Nat.add_assoc]
  · simp only [av]
    exact ⟨rfl,_,k,xs.length,_,hB,by omega,fun _=>⟨g,rfl,rfl⟩⟩
theorem vd {c:Cx} (hM:b3 c m) (hm:m id=some (.nest e0 k os xs)) (hn:n=xs.length) (hz:xs[i]?=some (.agg cs)) (hc:cs[o0]?=some z) {v:Value} (hv:av c (.bE id n i o0) v) (ht:tok P t=true) (ha:tagg P t=false) :
  ∃ w b,fk c os o0 z w b∧(Instr.loadAt t v).run P c.w=.ok w c.w:=by
 obtain ⟨g,cap,cur,v0,bs,ins,hB,hg,hcs,kq,hk,AU,jY,sR,qc,_⟩:=hM.tk (pr:=fun _=>False) hm hz
 have he:=iv hv hB hn
 obtain ⟨dj,ws,h1,rfl,hC⟩:=qc
 cases h1
 obtain ⟨w,bp,b,bq,g1,_,g3,_⟩:=hC.at hc
 have sS:(cur.toList.drop (i * k)).take k=ws:=by simpa [Value.cells] using sR
 have hcell:=nK hg sS g1
 rw [Nat.zero_add] at g3
 refine ⟨w,b,g3,?_⟩
 rw [he]
 exact (gm (cs:=[.eD]) (vs:=[w]) (c:=c) ht (by simp [aC,av]) (fun j v hj=>by
  cases j with
  | zero=>simp at hj; subst hj; simpa using hcell
  | succ j=>simp at hj)).2 ha w [] rfl
theorem wB (hx:ev x=.bE id n i o0) (hm:m id=some (.nest e0 k os xs)) (hn:n=xs.length) (hz:xs[i]?=some (.agg cs)) (hc:cs[o0]?=some z) (hl:os.lookup o0=.none) (ht:tok P t=true) (ha:tagg P t=false):bn P pr ⟨d,.load t x,ty,pos,af,gd⟩ ev m z m:=by
 refine bn.value fun c a bA hM=>?_
 have hv:=bA x (by simp [Op.operands])
 rw [hx] at hv
 obtain ⟨w,b,h1,h2⟩:=vd hM hm hn hz hc hv ht ha
 unfold fk at h1
 rw [hl] at h1
 exact ⟨w,c,by simp [execOp,h2],h1.1,hM,Step.refl pr c⟩
theorem Me {e' k':Nat} {ys:List LV} (hx:ev x=.bE id n i o0) (hm:m id=some (.nest e0 k os xs)) (hn:n=xs.length) (hz:xs[i]?=some (.agg cs)) (hc:cs[o0]?=some (.al k' ys)) (hl:os.lookup o0=some (e',k')) (ht:tok P t=true) (ha:tagg P t=false):bn P pr ⟨d,.load t x,ty,pos,af,gd⟩ ev m (.p7 ys.length) m:=by
 refine bn.value fun c a bA hM=>?_
 have hv:=bA x (by simp [Op.operands])
 rw [hx] at hv
 obtain ⟨w,b,h1,h2⟩:=vd hM hm hn hz hc hv ht ha
 unfold fk at h1
 rw [hl] at h1
 refine ⟨w,c,by simp [execOp,h2],?_,hM,Step.refl pr c⟩
 rcases h1 with ⟨h,_⟩ | ⟨Vn,us,h,_,bj,_⟩
 ·cases h
 ·cases h
  obtain ⟨ad,cp,he⟩:=dC bj
  simp only [av]; exact ⟨ad,cp,he⟩
theorem wC {el nn:Nat} (he:telem P t=some el) (hx:ev x=.p7 nn):bn P pr ⟨d,.call ⟨.builtin .len,#[x],#[t]⟩,ty,pos,af,gd⟩ ev m (.int .i64 nn) m:=by
 have hu:=fp he
 refine bn.value fun c a bA hM=>?_
 have hv:=bA x (by simp [Op.operands,Call.operands])
 rw [hx] at hv
 simp only [av] at hv
 obtain ⟨ad,cp,hv⟩:=hv
 exact ⟨.int .i64 nn,c,by simp [execOp,resolve,invoke,builtin,Builtin.len_,hv,run_underlying hu,goInt],by simp [av],hM,Step.refl pr c⟩
theorem Mj {z':LV} (hx:ev x=.bE id n i o0) (hm:m id=some (.nest e0 k os xs)) (hn:n=xs.length) (hz:xs[i]?=some (.agg cs)) (hc:cs[o0]?=some z) (hl:os.lookup o0=.none) (hy:ev y=z') (uj:z'.scalar=true) (hp:z'.pure=true) (ht:tok P t=true) (hs:tsize P t=1) :
  bn P pr ⟨.none,.store t x y,ty,pos,af,gd⟩ ev m .eD (m.put id (.nest e0 k os (xs.set i (.agg (cs.set o0 z'))))):=by
 refine bn.skip rfl fun c a bA hM=>?_
 have hv:=bA x (by simp [Op.operands])
 rw [hx] at hv
 have lU:=bA y (by simp [Op.operands])
 rw [hy] at lU
 obtain ⟨g,cap,cur,v0,bs,ins,hB,hg,hcs,kq,hk,AU,jY,sR,qc,hnd,NP,VZ,mR⟩:=hM.tk (pr:=pr) hm hz
 have he:=iv hv hB hn
 obtain ⟨dj,ws,h1,rfl,hC⟩:=qc
 cases h1
 have zZ:ws.length=k:=by simpa [Value.cells] using AU
 have sS:(cur.toList.drop (i * k)).take k=ws:=by simpa [Value.cells] using sR
 obtain ⟨w,bp,b,bq,g1,rfl,g3,g4⟩:=hC.at hc
 have gD:o0<k:=by rw [← zZ]; exact (List.getElem?_eq_some_iff.1 g1).1
 have hi:i<xs.length:=(List.getElem?_eq_some_iff.1 hz).1
 have HZ:i * k+k≤cur.size:=by
  have h1:=Nat.mul_le_mul_right k (show i+1≤cap by omega)
  rw [Nat.add_mul,Nat.one_mul] at h1; omega
 have rS:=eP uj lU
 have xo:=dw rS
 have du:=gK (P:=P) (t:=t) (v:=a.eval y) (off:=i * k+o0) ht (by rw [hs,xo]; rfl) hg (by rw [xo]; simp; omega) (by rw [xo]; simpa using rS)
 rw [xo] at du
 have iP:=rf (w':=a.eval y) sS (by simpa using HZ) gD
 have lT:(cur.toList.take (i * k+o0)++[a.eval y]++cur.toList.drop (i * k+o0+1))=cur.toList.take (i * k)++(Value.agg (ws.set o0 (a.eval y)).toArray).cells.toList++cur.toList.drop (i * k+k):=by rw [iP]; simp [Value.cells]
 have HT:b=[]:=by unfold fk at g3; rw [Nat.zero_add,hl] at g3; exact g3.2.2
 subst HT
 obtain ⟨c',hw,h2,h3⟩:=mR (c.w.setRow g (cur.toList.take (i * k+o0)++[a.eval y]++cur.toList.drop (i * k+o0+1)).toArray) (.agg (cs.set o0 z')) (.agg (ws.set o0 (a.eval y)).toArray) (bp++([]++bq)) rfl rfl rfl (Nat.le_refl _) (by simp)
  (fun b hb eA _=>setRow_other _ _ _ _ eA) (by rw [lT]; exact setRow_heap c.w g _ _ e0 _ hg) (by simp [Value.cells,zZ]) (fun q hq=>by
   simp only [Value.cells] at hq jY
   have pk:q ∈ ws.set o0 (a.eval y):=by simpa using hq
   rcases List.mem_or_eq_of_mem_set pk with h | h
   ·exact jY q (by simpa using h)
   ·rw [h]; exact rS) (fun b hb=>.inl hb) hnd (fun c' hw hle=>⟨_,_,rfl,rfl,g4 hle (fun r hr=>by rw [hw]; exact setRow_other _ _ _ _ (fun Oe=>NP (by rw [← Oe]; simp at hr ⊢; exact hr)))
   (by unfold fk; rw [Nat.zero_add,hl]; exact ⟨av.mono hle z' _ (fun q hq=>by rw [eX z' hp] at hq; cases hq) lU,hp,rfl⟩)⟩)
 refine ⟨c',?_,h2,h3⟩
 rw [hw]
 simp [execOp,he,du]
end
end
end Go.L
namespace Go.L
theorem nb {c:Cx} {e0 k:Nat} {os:List (Nat × Nat × Nat)} {xs:List LV} {y:Option BE} (he:bw c (some (.nest e0 k os xs)) y) {i:Nat} {x:LV} (hx:xs[i]?=some x) :
  ∃ g cap cur v bp bs bq,y=some (.arr (.slice (some ⟨g,0,.none⟩) xs.length cap) k xs.length (bp++(bs++bq)))∧c.w.heap[g]?=some (.cells cur e0 (0,0))∧cur.size=cap * k∧xs.length≤cap∧0<k ∧
   v.cells.size=k∧(∀ y ∈ v.cells,y.oneCell'=true)∧(cur.toList.drop (i * k)).take k=v.cells.toList∧HH c os x v bs∧(bp++(bs++bq)).Nodup∧g ∉ bp++(bs++bq) ∧
   ∀ (c':Cx) (x':LV) (v':Value) (BP:List Nat),c.Le c'→c'.w.heap[g]?=some (.cells (cur.toList.take (i * k)++v'.cells.toList++cur.toList.drop (i * k+k)).toArray e0 (0,0))→(∀ q ∈ bp++bq,c'.w.heap[q]?=c.w.heap[q]?) →
    v'.cells.size=k→(∀ y ∈ v'.cells,y.oneCell'=true)→HH c' os x' v' BP→(bp++(BP++bq)).Nodup→g ∉ BP→bw c' (some (.nest e0 k os (xs.set i x'))) (some (.arr (.slice (some ⟨g,0,.none⟩) xs.length cap) k xs.length (bp++(BP++bq)))):=by
 simp only [bw] at he
 obtain ⟨u,vs,ins,rfl,hk,bj,hn,hc,hnd,kF⟩:=he
 have hi:i<xs.length:=(List.getElem?_eq_some_iff.1 hx).1
 obtain ⟨v,bp,bs,bq,hv,rfl,qc,iP⟩:=hn.at hx
 have LF:=List.mem_of_getElem? hv
 have nG:=hn.length
 rcases bj.2 with ⟨_,h0⟩ | ⟨g,cap,cur,rfl,wi,hg,kq,zX,hcs,xk⟩
 ·omega
 ·have qd:g ∉ bp++(bs++bq):=kF g rfl
  have UC:xs.length * k≤cap * k:=Nat.mul_le_mul_right k kq
  have HZ:i * k+k≤xs.length * k:=by
   have:=Nat.mul_le_mul_right k (show i+1≤xs.length by omega)
   rw [Nat.add_mul,Nat.one_mul] at this; exact this
  have lO:cur.toList.length=cur.size:=by simp
  have E5:(cur.toList.drop (i * k)).take k=v.cells.toList:=by
   obtain ⟨f1,f2⟩:=fY (fun v hv=>(hc v hv).1) hv
   have AU:v.cells.toList.length=k:=by simpa using (hc v LF).1
   have:(cur.toList.drop (i * k)).take k=((flat vs).drop (i * k)).take k:=by
    rw [← xk,List.drop_take,List.take_take]
    congr 1
    omega
   rw [this,f1,← f2,List.drop_left' rfl,← AU,List.take_left' rfl]
  refine ⟨g,cap,cur,v,bp,bs,bq,rfl,hg,hcs,kq,hk,(hc v LF).1,(hc v LF).2,E5,qc,hnd,qd,?_⟩
  intro c' x' v' BP hle sW gC tf Ly KX mV NP
  simp only [bw,List.length_set]
  refine ⟨.slice (some ⟨g,0,.none⟩) xs.length cap,vs.set i v',bp++(BP++bq),rfl,hk,⟨?_,.inr ⟨g,cap,_,rfl,wi,sW,kq,zX,?_,?_⟩⟩,iP hle gC KX,?_,mV,?_⟩
  ·rw [dm (k:=k) (fun y hy=>?_)]
   ·simp [nG]
   ·rcases List.mem_or_eq_of_mem_set hy with h | h
    ·exact (hc y h).1
    ·rw [h]; exact tf
  ·have:v'.cells.toList.length=k:=by simpa using tf
   simp only [List.size_toArray,List.length_append,List.length_take,List.length_drop,lO,this,hcs]
   omega
  ·rw [xF (fun y hy=>(hc y hy).1) (by omega) tf,← xk]
   have e2:v'.cells.toList.length=k:=by simpa using tf
   apply List.ext_getElem?
   intro j
   simp only [List.toList_toArray,List.getElem?_take,List.getElem?_append,List.length_append,List.length_take,List.getElem?_drop,e2,lO]
   repeat' split
   all_goals first | rfl | omega | (congr 1; omega) | skip
  ·intro y hy
   rcases List.mem_or_eq_of_mem_set hy with h | h
   ·exact hc y h
   ·rw [h]; exact ⟨tf,Ly⟩
  ·intro b hb
   have Ax:g=b:=by simpa [Value.ownBlock] using hb
   subst Ax
   intro xi
   simp only [List.mem_append] at xi qd
   rcases xi with h | h | h
   ·exact qd (.inl h)
   ·exact NP h
   ·exact qd (.inr (.inr h))
section
variable {P:Program} {N:Nat} {pr:Nat→Prop} {ev:Operand→LV} {m:Mem} {d:Option Nat} {x y:Operand} {t ty:TypeId} {pos:String} {af:Array Edge} {gd:Option (Nat × Bool)} {e0 k id n i o0 id2 e' k':Nat} {os:List (Nat × Nat × Nat)} {xs cs ys:List LV}
theorem Gh (hx:ev x=.bE id n i o0) (hm:m id=some (.nest e0 k os xs)) (hn:n=xs.length) (hz:xs[i]?=some (.agg cs)) (hc:cs[o0]?=some (.al k' ys)) (hl:os.lookup o0=some (e',k')) (bB:m id2=.none) (ht:tok P t=true) (ha:tagg P t=false) :
  bn P pr ⟨d,.load t x,ty,pos,af,gd⟩ ev m (.arr id2 ys.length) ((m.put id (.nest e0 k os (xs.set i (.agg (cs.set o0 .eD))))).put id2 (.arr e' k' ys)):=by
 have eA:id ≠ id2:=fun h=>by rw [h,bB] at hm; cases hm
 refine bn.value fun c a bA hM=>?_
 have hv:=bA x (by simp [Op.operands])
 rw [hx] at hv
 have gS:=hM.gE id
 rw [hm] at gS
 obtain ⟨g,cap,cur,v,bp,bs,bq,hB,hg,hcs,kq,hk,AU,jY,sR,qc,hnd,qd,mR⟩:=nb gS hz
 have he:=iv hv hB hn
 obtain ⟨dj,ws,h1,rfl,hC⟩:=qc
 cases h1
 have sS:(cur.toList.drop (i * k)).take k=ws:=by simpa [Value.cells] using sR
 obtain ⟨w,cp,cb,cq,g1,rfl,g3,g4⟩:=hC.at hc
 have hcell:=nK hg sS g1
 rw [Nat.zero_add] at g3 g4
 unfold fk at g3
 rw [hl] at g3
 obtain ⟨us,Eg,bj,wu,Lx,Fq,rfl⟩:∃ us,0<k'∧c.w.ownsRow 0 e' k' w ys.length (flat us)∧aC c ys us∧(∀ u ∈ us,u.cells.size=k'∧∀ y ∈ u.cells,y.oneCell'=true)∧LV.bo ys=true∧cb=w.ownBlock.toList:=by
  rcases g3 with ⟨h,_⟩ | ⟨Vn,us,h,q0,q1,q2,q3,q4,q5⟩
  ·cases h
  ·cases h; exact ⟨us,q0,q1,q2,q3,q4,q5⟩
 have du:(Instr.loadAt t (a.eval x)).run P c.w=.ok w c.w:=by
  rw [he]
  exact (gm (cs:=[.eD]) (vs:=[w]) (c:=c) ht (by simp [aC,av]) (fun j v hj=>by
   cases j with
   | zero=>simp at hj; subst hj; simpa using hcell
   | succ j=>simp at hj)).2 ha w [] rfl
 have wc:=hM.fresh bB
 have oU:∀ b,b ∈ bp++((cp++([]++cq))++bq)→b ∈ bp++((cp++(w.ownBlock.toList++cq))++bq):=fun b hb=>by
  simp only [List.mem_append,List.nil_append] at hb ⊢
  rcases hb with h | (h | h) | h <;> simp [h]
 have mV:(bp++((cp++([]++cq))++bq)).Nodup:=by
  refine List.Nodup.sublist ?_ hnd
  refine List.Sublist.append (List.Sublist.refl _) (List.Sublist.append (List.Sublist.append (List.Sublist.refl _) ?_) (List.Sublist.refl _))
  exact List.Sublist.append (List.nil_sublist _) (List.Sublist.refl _)
 have pQ:ws.set o0 w=ws:=by
  obtain ⟨ec,hw⟩:=List.getElem?_eq_some_iff.1 g1
  rw [← hw]; exact List.set_getElem_self ec
 obtain ⟨c',hw,R2,Np,h2,h3⟩:=hM.IS (pr:=pr) id id2 eA (.nest e0 k os (xs.set i (.agg (cs.set o0 .eD)))) (.arr e' k' ys) (.arr (.slice (some ⟨g,0,.none⟩) xs.length cap) k xs.length (bp++((cp++([]++cq))++bq))) (.arr w k' ys.length []) c.w rfl rfl rfl (Nat.le_refl _) (Nat.le_refl _)
  (fun b _ _ _=>rfl)
  (fun b hb=>by
   rcases hb with hb | hb
   ·rcases hb with hb | hb
    ·exact .inl ⟨_,hB,.inl hb⟩
    ·exact .inl ⟨_,hB,.inr (oU b hb)⟩
   ·rcases hb with hb | hb
    ·exact .inl ⟨_,hB,.inr (by simp [hb])⟩
    ·cases hb)
  (fun b hb cE=>by
   have E0:w.ownBlock=some b:=by
    rcases cE with h | h
    ·exact h
    ·cases h
   rcases hb with hb | hb
   ·have:g=b:=by simpa [Value.ownBlock] using hb
    subst this
    exact qd (by simp [E0])
   ·have n1:=List.nodup_append.1 hnd
    have n2:=List.nodup_append.1 n1.2.1
    have n3:=List.nodup_append.1 n2.1
    have n4:=List.nodup_append.1 n3.2.1
    have Ee:b ∈ w.ownBlock.toList:=by simp [E0]
    simp only [List.mem_append,List.nil_append] at hb
    rcases hb with h | (h | h) | h
    ·exact n1.2.2 b h b (by simp [E0]) rfl
    ·exact n3.2.2 b h b (by simp [E0]) rfl
    ·exact n4.2.2 b Ee b h rfl
    ·exact n2.2.2 b (by simp [E0]) b h rfl)
  (by rw [hB]; exact ⟨_,_,_,rfl,Nat.le_refl _,fun _=>rfl⟩) (by rw [wc]; trivial) (fun _ dr h0=>by rw [hB] at h0; cases h0; exact ⟨_,_,_,rfl,Nat.le_refl _,fun _=>rfl⟩) (fun _ dr h0=>by rw [wc] at h0; cases h0)
  (fun c' hw hle dz _=>by
   refine mR c' _ (.agg ws.toArray) _ hle ?_ (fun q _=>by rw [hw]) AU jY ⟨_,ws,rfl,rfl,?_⟩ mV (fun h=>qd (by
    simp only [List.mem_append,List.nil_append] at h ⊢
    rcases h with h | h <;> simp [h]))
   ·rw [hw,hg]
    congr 2
    apply Array.toList_inj.1
    simp only [List.toList_toArray]
    rw [← sR,← List.drop_drop,List.append_assoc,List.take_append_drop,List.take_append_drop]
   ·have:=g4 (c':=c') (x':=.eD) (w':=w) (b':=[]) hle (fun r _=>by rw [hw]) (by unfold fk; rw [hl]; exact .inl ⟨rfl,rfl⟩)
    rw [pQ] at this
    exact this)
  (fun c' hw hle dz=>by
   simp only [bw]
   exact ⟨w,us,rfl,Eg,by rw [hw]; exact bj,aC.mono hle ys us (fun j hj=>by rw [az ys Fq] at hj; cases hj) wu,Lx,Fq⟩)
 refine ⟨w,c',by rw [hw]; simp [execOp,du],?_,h2,h3⟩
 simp only [av]
 refine ⟨?_,_,_,_,_,Np,Nat.le_refl _,fun _=>rfl⟩
 obtain ⟨ad,Nl,FL⟩:=dC bj
 rw [FL]; rfl
theorem It {n2:Nat} (hx:ev x=.bE id n i o0) (hm:m id=some (.nest e0 k os xs)) (hn:n=xs.length) (hz:xs[i]?=some (.agg cs)) (hc:cs[o0]?=some .eD) (hl:os.lookup o0=some (e',k')) (hy:ev y=.arr id2 n2) (jq:m id2=some (.arr e' k' ys)) (H0:n2=ys.length) (ta:¬ pr id2) (ht:tok P t=true) (hs:tsize P t=1) :
  bn P pr ⟨.none,.store t x y,ty,pos,af,gd⟩ ev m .eD ((m.put id (.nest e0 k os (xs.set i (.agg (cs.set o0 (.al k' ys)))))).put id2 .dead):=by
 have eA:id ≠ id2:=fun h=>by rw [h,jq] at hm; cases hm
 refine bn.skip rfl fun c a bA hM=>?_
 have hv:=bA x (by simp [Op.operands])
 rw [hx] at hv
 have lU:=bA y (by simp [Op.operands])
 rw [hy] at lU
 obtain ⟨us,wc,Eg,bj,wu,Lx,Fq⟩:=gv hM lU jq H0
 have gS:=hM.gE id
 rw [hm] at gS
 obtain ⟨g,cap,cur,v,bp,bs,bq,hB,hg,hcs,kq,hk,AU,jY,sR,qc,hnd,qd,mR⟩:=nb gS hz
 have he:=iv hv hB hn
 obtain ⟨dj,ws,h1,rfl,hC⟩:=qc
 cases h1
 have zZ:ws.length=k:=by simpa [Value.cells] using AU
 have sS:(cur.toList.drop (i * k)).take k=ws:=by simpa [Value.cells] using sR
 obtain ⟨w0,cp,cb,cq,g1,rfl,g3,g4⟩:=hC.at hc
 rw [Nat.zero_add] at g3 g4
 have NI:cb=[]:=by
  unfold fk at g3
  rw [hl] at g3
  rcases g3 with ⟨_,h⟩ | ⟨_,_,h,_⟩
  ·exact h
  ·cases h
 subst NI
 have gD:o0<k:=by rw [← zZ]; exact (List.getElem?_eq_some_iff.1 g1).1
 have hi:i<xs.length:=(List.getElem?_eq_some_iff.1 hz).1
 have HZ:i * k+k≤cur.size:=by
  have h1:=Nat.mul_le_mul_right k (show i+1≤cap by omega)
  rw [Nat.add_mul,Nat.one_mul] at h1; omega
 have rS:(a.eval y).oneCell'=true:=by
  obtain ⟨ad,Nl,FL⟩:=dC bj
  rw [FL]; rfl
 have xo:=dw rS
 have du:=gK (P:=P) (t:=t) (v:=a.eval y) (off:=i * k+o0) ht (by rw [hs,xo]; rfl) hg (by rw [xo]; simp; omega) (by rw [xo]; simpa using rS)
 rw [xo] at du
 have iP:=rf (w':=a.eval y) sS (by simpa using HZ) gD
 have lT:(cur.toList.take (i * k+o0)++[a.eval y]++cur.toList.drop (i * k+o0+1))=cur.toList.take (i * k)++(Value.agg (ws.set o0 (a.eval y)).toArray).cells.toList++cur.toList.drop (i * k+k):=by rw [iP]; simp [Value.cells]
 -- the block of the slice is not one of the QO
 have oR:∀ b,(a.eval y).ownBlock=some b→b ≠ g∧b ∉ bp++((cp++([]++cq))++bq):=fun b hb=>by
  constructor
  ·intro Ax
   exact eA (hM.inj id id2 _ _ b hB wc (.inl (by rw [Ax]; rfl)) (.inl hb))
  ·intro Ee
   exact eA (hM.inj id id2 _ _ b hB wc (.inr Ee) (.inl hb))
 have mV:(bp++((cp++((a.eval y).ownBlock.toList++cq))++bq)).Nodup:=by
  cases hb:(a.eval y).ownBlock with
  | none=>simpa [hb] using hnd
  | some b =>
   have hf:=(oR b hb).2
   have hp:(bp++((cp++((some b).toList++cq))++bq)).Perm (b :: (bp++((cp++([]++cq))++bq))):=by
    simp only [Option.toList_some,List.singleton_append,List.nil_append]
    refine (List.Perm.append_left bp ?_).trans (List.perm_middle)
    rw [List.append_assoc,List.append_assoc,List.cons_append]
    exact List.perm_middle
   exact hp.nodup_iff.2 (List.nodup_cons.2 ⟨hf,hnd⟩)
 obtain ⟨c',hw,R2,Np,h2,h3⟩:=hM.IS (pr:=pr) id id2 eA (.nest e0 k os (xs.set i (.agg (cs.set o0 (.al k' ys))))) .dead (.arr (.slice (some ⟨g,0,.none⟩) xs.length cap) k xs.length (bp++((cp++((a.eval y).ownBlock.toList++cq))++bq))) (.arr (.slice .none 0 0) k' (ys.length+1) []) (c.w.setRow g (cur.toList.take (i * k+o0)++[a.eval y]++cur.toList.drop (i * k+o0+1)).toArray) rfl rfl rfl (Nat.le_refl _) (by simp)
  (fun b _ h1 _=>setRow_other _ _ _ _ (fun Ax=>h1 _ hB (.inl (by rw [Ax]; rfl))))
  (fun b hb=>by
   rcases hb with hb | hb
   ·rcases hb with hb | hb
    ·exact .inl ⟨_,hB,.inl hb⟩
    ·simp only [List.mem_append,Option.mem_toList] at hb
     rcases hb with h | (h | h | h) | h
     ·exact .inl ⟨_,hB,.inr (by simp [h])⟩
     ·exact .inl ⟨_,hB,.inr (by simp [h])⟩
     ·exact .inr (.inl ⟨_,wc,.inl h⟩)
     ·exact .inl ⟨_,hB,.inr (by simp [h])⟩
     ·exact .inl ⟨_,hB,.inr (by simp [h])⟩
   ·rcases hb with hb | hb
    ·simp [Value.ownBlock] at hb
    ·cases hb)
  (fun b _ cE=>by
   rcases cE with hb | hb
   ·simp [Value.ownBlock] at hb
   ·cases hb)
  (by rw [hB]; exact ⟨_,_,_,rfl,Nat.le_refl _,fun _=>rfl⟩) (by rw [wc]; exact ⟨_,_,_,rfl,by omega,fun h=>by omega⟩) (fun _ dr h0=>by rw [hB] at h0; cases h0; exact ⟨_,_,_,rfl,Nat.le_refl _,fun _=>rfl⟩) (fun h=>absurd h ta)
  (fun c' hw hle dz _=>by
   have uB:∀ b,b ≠ g→c'.w.heap[b]?=c.w.heap[b]?:=fun b hb=>by rw [hw]; exact setRow_other _ _ _ _ hb
   refine mR c' _ (.agg (ws.set o0 (a.eval y)).toArray) _ hle (by rw [hw,lT]; exact setRow_heap c.w g _ _ e0 _ hg) (fun q hq=>uB q (fun Li=>qd (by rw [← Li]; simp at hq ⊢; rcases hq with h | h <;> simp [h]))) (by simp [Value.cells,zZ]) (fun q hq=>by
    simp only [Value.cells] at hq jY
    have pk:q ∈ ws.set o0 (a.eval y):=by simpa using hq
    rcases List.mem_or_eq_of_mem_set pk with h | h
    ·exact jY q (by simpa using h)
    ·rw [h]; exact rS) ⟨_,_,rfl,rfl,?_⟩ mV (fun h=>?_)
   ·refine g4 (c':=c') (x':=.al k' ys) (w':=a.eval y) (b':=(a.eval y).ownBlock.toList) hle (fun r hr=>uB r (fun Oe=>qd (by rw [← Oe]; simp at hr ⊢; rcases hr with h | h <;> simp [h]))) ?_
    unfold fk
    rw [hl]
    exact .inr ⟨ys,us,rfl,Eg,dR bj (fun b hb=>uB b (oR b hb).1),aC.mono hle ys us (fun j hj=>by rw [az ys Fq] at hj; cases hj) wu,Lx,Fq,rfl⟩
   ·simp only [List.mem_append,Option.mem_toList] at h
    rcases h with h | h | h
    ·exact qd (by simp [h])
    ·exact (oR g h).1 rfl
    ·exact qd (by simp [h]))
  (fun c' hw hle dz=>by simp only [bw]; exact ⟨_,_,_,rfl,rfl⟩)
 refine ⟨c',?_,h2,h3⟩
 rw [hw]
 simp [execOp,he,du]
end
end Go.L
namespace Go.L
section
variable {P:Program} {N:Nat} {pr:Nat→Prop} {ev:Operand→LV} {m m':Mem} {d:Option Nat} {x y:Operand} {t ty:TypeId} {pos:String} {af:Array Edge} {gd:Option (Nat × Bool)} {lv:LV}
end
end Go.L
namespace Go.L
section
variable {P:Program} {N:Nat} {pr:Nat→Prop} {ev:Operand→LV} {m m':Mem} {d:Option Nat} {x y:Operand} {t ty:TypeId} {pos:String} {af:Array Edge} {gd:Option (Nat × Bool)} {lv:LV} {α β:Type} {f:α→LV} {g:β→LV} {e0 k id n:Nat} {os:List (Nat × Nat × Nat)} {xs:List α} {u:Int} {z0:α} {cs:List LV} {o0:Nat} {z:LV}
theorem pF (h:idx xs u=some z0):some (LE.nest e0 k os (xs.map f))=some (LE.nest e0 k os ((xs.map f).set u.toNat (f z0))):=by
 obtain ⟨_,h2⟩:=dB h
 obtain ⟨h3,h4⟩:=List.getElem?_eq_some_iff.1 h2
 have:(xs.map f).set u.toNat (f z0)=xs.map f:=by
  rw [← List.map_set,← h4,List.set_getElem_self]
 rw [this]
theorem b8 (h:idx xs u=some z0) {w:LV}:((xs.map f).set u.toNat w)[u.toNat]?=some w:=by
 obtain ⟨_,h2⟩:=dB h
 have h3:=(List.getElem?_eq_some_iff.1 h2).1
 rw [List.getElem?_set_self (by simpa using h3)]
theorem IP {z':α} {ys:List α} (hz:f z'=.agg cs) (hy:ys=xs.set u.toNat z'):some (LE.nest e0 k os ((xs.map f).set u.toNat (.agg cs)))=some (LE.nest e0 k os (ys.map f)):=by
 rw [hy,List.map_set,hz]
theorem Mi {z':LV} {ls:List LV} {i:Nat} (hx:ev x=.bE id n i o0) (hm:m id=some (.nest e0 k os (ls.set i (.agg cs)))) (hn:n=ls.length) (hz:(ls.set i (.agg cs))[i]?=some (.agg cs)) (hc:cs[o0]?=some z) (hl:os.lookup o0=.none) (hy:ev y=z') (uj:z'.scalar=true) (hp:z'.pure=true) (ht:tok P t=true) (hs:tsize P t=1) {dj:List LV} (hcs:cs.set o0 z'=dj) :
  bn P pr ⟨.none,.store t x y,ty,pos,af,gd⟩ ev m .eD (m.put id (.nest e0 k os (ls.set i (.agg dj)))):=by
 subst hcs
 have:=Mj (pr:=pr) (ty:=ty) (pos:=pos) (af:=af) (gd:=gd) hx hm (by simpa using hn) hz hc hl hy uj hp ht hs
 rwa [List.set_set] at this
theorem A6 {e' k':Nat} {ys:List β} {ls:List LV} {i:Nat} (hx:ev x=.bE id n i o0) (hm:m id=some (.nest e0 k os ls)) (hn:n=ls.length) (hz:ls[i]?=some (.agg cs)) (hc:cs[o0]?=some (.al k' (ys.map g))) (hl:os.lookup o0=some (e',k')) (ht:tok P t=true) (ha:tagg P t=false):bn P pr ⟨d,.load t x,ty,pos,af,gd⟩ ev m (.p7 ys.length) m:=by
 have:=Me (pr:=pr) (d:=d) (ty:=ty) (pos:=pos) (af:=af) (gd:=gd) hx hm hn hz hc hl ht ha
 rwa [List.length_map] at this
theorem tB {e' k' id2:Nat} {ys:List β} {ls:List LV} {i:Nat} (hx:ev x=.bE id n i o0) (hm:m id=some (.nest e0 k os (ls.set i (.agg cs)))) (hn:n=ls.length) (hz:(ls.set i (.agg cs))[i]?=some (.agg cs)) (hc:cs[o0]?=some (.al k' (ys.map g))) (hl:os.lookup o0=some (e',k')) (bB:m id2=.none) (ht:tok P t=true) (ha:tagg P t=false) {dj:List LV} (hcs:cs.set o0 .eD=dj) :
  bn P pr ⟨d,.load t x,ty,pos,af,gd⟩ ev m (.arr id2 ys.length) ((m.put id (.nest e0 k os (ls.set i (.agg dj)))).put id2 (.arr e' k' (ys.map g))):=by
 subst hcs
 have:=Gh (pr:=pr) (d:=d) (ty:=ty) (pos:=pos) (af:=af) (gd:=gd) hx hm (by simpa using hn) hz hc hl bB ht ha
 rwa [List.length_map,List.set_set] at this
theorem wD {e' k' id2 n2:Nat} {ys:List β} {ls:List LV} {i:Nat} (hx:ev x=.bE id n i o0) (hm:m id=some (.nest e0 k os (ls.set i (.agg cs)))) (hn:n=ls.length) (hz:(ls.set i (.agg cs))[i]?=some (.agg cs)) (hc:cs[o0]?=some .eD) (hl:os.lookup o0=some (e',k')) (hy:ev y=.arr id2 n2) (jq:m id2=some (.arr e' k' (ys.map g))) (H0:n2=ys.length) (ta:¬ pr id2) (ht:tok P t=true) (hs:tsize P t=1) {dj:List LV} (hcs:cs.set o0 (.al k' (ys.map g))=dj) :
  bn P pr ⟨.none,.store t x y,ty,pos,af,gd⟩ ev m .eD ((m.put id (.nest e0 k os (ls.set i (.agg dj)))).put id2 .dead):=by
 subst hcs
 have:=It (pr:=pr) (ty:=ty) (pos:=pos) (af:=af) (gd:=gd) hx hm (by simpa using hn) hz hc hl hy jq (by simpa using H0) ta ht hs
 rwa [List.set_set] at this
theorem Gc {el kk:Nat} {kd:IntKind} (he:telem P t=some el) (hk:tok P el=true) (hs:tsize P el=kk) (hx:ev x=.arr id n) (hm:m id=some (.nest el kk os (xs.map f))) (hn:n=xs.length) (hy:ev y=.int kd u) (hz:idx xs u=some z0) :
  bn P pr ⟨d,.indexAddr t x y,ty,pos,af,gd⟩ ev m (.bE id n u.toNat 0) m:=by
 obtain ⟨h0,h2⟩:=dB hz
 exact Md he hk hs hx hm (by simpa using hn) hy h0 (by simpa using (List.getElem?_eq_some_iff.1 h2).1)
theorem Mg {d1:Nat} {zc:List LV} {z':α} {v:List α} (lh:telem P t=some e0) (hz:tzero P e0=some (.agg zc)) (lT:gz P e0=true) (hs:tsize P e0=k) (hx:ev x=.int .i64 u) (hy:ev y=.int .i64 u) (hv:z1 z' u=some v) (bB:m id=.none) (gD:PS os 0 zc=true) (hfz:f z'=.agg (zN os 0 zc)) :
  bn P pr ⟨some d1,.makeSlice t x y,ty,pos,af,gd⟩ ev m (.arr id v.length) (m.put id (.nest e0 k os (v.map f))):=by
 unfold z1 at hv
 split at hv
 ·rename_i hb
  cases hv
  have:=Mh (pr:=pr) (ty:=ty) (pos:=pos) (af:=af) (g:=gd) (d:=d1) lh hz lT hs hx hy hb.1 hb.2 bB gD
  rw [List.length_replicate,List.map_replicate,hfz]; exact this
 ·cases hv
theorem Mf {kd TO:IntKind} {u w:Int} {ts:Array TypeId} (hx:ev x=.int kd u) (hy:ev y=.int TO w):bn P pr ⟨d,.call ⟨.builtin .min,#[x,y],ts⟩,ty,pos,af,gd⟩ ev m (.int kd (min u w)) m:=by
 refine bn.value fun c a bA hM=>?_
 have hv:=bA x (by simp [Op.operands,Call.operands])
 have hw:=bA y (by simp [Op.operands,Call.operands])
 rw [hx] at hv
 rw [hy] at hw
 simp only [av] at hv hw
 have SE:(if w<u then w else u)=min u w:=by omega
 exact ⟨.int kd (min u w),c,by simp [execOp,resolve,invoke,builtin,Builtin.min_,Builtin.min2,hv,hw,SE],by simp [av],hM,Step.refl pr c⟩
theorem Ge {kd TO:IntKind} {u w:Int} {ts:Array TypeId} (hx:ev x=.int kd u) (hy:ev y=.int TO w):bn P pr ⟨d,.call ⟨.builtin .max,#[x,y],ts⟩,ty,pos,af,gd⟩ ev m (.int kd (max u w)) m:=by
 refine bn.value fun c a bA hM=>?_
 have hv:=bA x (by simp [Op.operands,Call.operands])
 have hw:=bA y (by simp [Op.operands,Call.operands])
 rw [hx] at hv
 rw [hy] at hw
 simp only [av] at hv hw
 have SE:(if w > u then w else u)=max u w:=by omega
 exact ⟨.int kd (max u w),c,by simp [execOp,resolve,invoke,builtin,Builtin.max_,Builtin.max2,hv,hw,SE],by simp [av],hM,Step.refl pr c⟩
end
end Go.L
namespace Go.L
theorem b3.re {c:Cx} {m:Mem} (h:b3 c m) {kK:Nat} {cs dj:List LV} (hm:m kK=some (.box cs)) {vs:List Value} {b:Nat} {e:TypeId} (hB:c.B kK=some (.box b cs.length)) (hh:c.w.heap[b]?=some (.cells vs.toArray e (0,0))) (hl:aC c dj vs) (h1:∀ v ∈ vs,v.oneCell'=true) (hn:dj.length=cs.length):b3 c (m.put kK (.box dj)):=by
 refine ⟨fun i=>?_,h.inj,h.jZ,h.pw,h.cS⟩
 by_cases hi:i=kK
 ·subst hi
  simp only [Mem.put,if_true,bw]
  exact ⟨b,vs,e,by rw [hn]; exact hB,hh,hl,h1⟩
 ·simp only [Mem.put,hi,if_false]
  exact h.gE i
theorem tT {c:Cx}:∀ (cs:List LV) (vs:List Value),aC c cs vs→aC c (cs.map fun _=>LV.eD) vs
 | [],vs,h=>by simpa only [aC,List.map_nil] using h
 | x :: xs,vs,h=>by
  simp only [aC,List.map_cons] at h ⊢
  obtain ⟨v,fI,rfl,h1,h2⟩:=h
  exact ⟨v,fI,rfl,by simp [av],tT xs fI h2⟩
theorem o2 {id:Nat}:∀ (cs:List LV),LV.cu id (cs.map fun _=>LV.eD)=true
 | []=>by simp [LV.cu]
 | x :: xs=>by simp [LV.cu,LV.a8,o2 xs]
theorem pG {id k:Nat} {xs:List LV}:∀ (cs:List LV),(LV.ga id k xs cs).length=cs.length
 | []=>by simp [LV.ga]
 | x :: cs=>by simp [LV.ga,pG cs]
def EW (id kK:Nat) (ml:List (Nat × LE)):Bool:=ml.all fun q=>q.1 == id || q.1 == kK || match q.2 with | .box cs=>LV.cu id cs | .arr _ _ _=>true | .map _ _ _=>true | .nest _ _ _ _=>true | .c6 _ _ _ _ _ _ id2 _=>id2 != id | .dead=>true
theorem Wk.fl {pr:Nat→Prop} {el:List (Nat × LV)} {ml:List (Nat × LE)} {α:Type} {f:α→LV} (id e k:Nat) (xs:List α) (kK:Nat) {cs dj:List LV} (bB:Mem.of ml id=some (.arr e k (xs.map f))) (hb:Mem.of ml kK=some (.box cs)) (eA:(kK == id)=false) (hcs:LV.ga id k (xs.map f) cs=dj) (kp:EW id kK ml=true) (AF:(el.all fun p=>p.2.a8 id)=true) (mE:¬ pr id) :
  Wk pr (Env.of el) (Mem.of ml) (Env.of el) (((Mem.of ml).del id).put kK (.box dj)):=by
 intro N c a bY
 have eA:kK ≠ id:=by simpa using eA
 obtain ⟨b,vs,e1,zU,hh,hl,h1⟩:=jj bY.mem hb
 have iH:=bY.mem.re (dj:=cs.map fun _=>LV.eD) hb zU hh (tT cs vs hl) h1 (by simp)
 obtain ⟨c',hw,hO,iO,hV,bj,hX,hB⟩:=iH.del id (by
  intro i ds hi hd
  by_cases C8:i=kK
  ·subst C8
   simp only [Mem.put,if_true,Option.some.injEq] at hd
   rw [← hd]; exact o2 cs
  ·simp only [Mem.put,C8,if_false] at hd
   have:=List.all_eq_true.1 kp _ (fq hd)
   cases ds with
   | box cs=>simpa [hi,C8,LE.k6] using this
   | c6 _ _ _ _ _ _ _ _=>simpa [hi,C8,LE.k6] using this
   | _=>rfl)
 have hle:c.Le c':=Cx.sub_le hw hO bj
 have Sj:∀ v,av c (.arr id (xs.map f).length) v→av c' (.al k (xs.map f)) v:=by
  intro v hv
  obtain ⟨us,VB,hk,iz,hl,hc,hp⟩:=gv bY.mem hv bB rfl
  simp only [av]
  have iN:=aC.mono hle (xs.map f) us (fun j hj=>by rw [az _ hp] at hj; cases hj) hl
  rcases iz.2 with ⟨rfl,h0⟩ | ⟨g,cap,cur,rfl,_,hg,kq,_⟩
  ·exact ⟨.none,0,by rw [h0],by omega,fun _=>rfl,hp,.inl (List.eq_nil_of_length_eq_zero h0)⟩
  ·refine ⟨some ⟨g,0,.none⟩,cap,rfl,kq,by simp,hp,.inr ⟨g,0,us,rfl,by rw [hw]; exact (Array.getElem?_eq_some_iff.1 hg).1,hX g _ VB (.inl rfl),iN,hc,?_⟩⟩
   rw [hw]; exact cY iz rfl
 have B5:aC c' dj vs:=by rw [← hcs]; exact j9 hV Sj cs vs hl
 have hlen:dj.length=cs.length:=by rw [← hcs,pG]
 have jq:=iO.re (kK:=kK) (cs:=cs.map fun _=>LV.eD) (dj:=dj) (by simp [Mem.del,Mem.put,eA]) (by rw [hB kK eA]; simpa using zU) (by rw [hw]; exact hh) B5 h1 (by simpa using hlen)
 have gI:(((Mem.of ml).put kK (.box (cs.map fun _=>LV.eD))).del id).put kK (.box dj)=((Mem.of ml).del id).put kK (.box dj):=by
  funext i
  simp only [Mem.put,Mem.del]
  by_cases C8:i=kK <;> simp [C8]
 rw [gI] at jq
 refine ⟨c',hw,⟨fun i=>hV _ _ ?_ (bY.env i),jq,bY.size,bY.defers⟩,?_⟩
 ·clear bY
  induction el with
  | nil=>simp [Env.of,LV.a8]
  | cons p el ih =>
   simp only [List.all_cons,Bool.and_eq_true] at AF
   simp only [Env.of]
   split
   ·exact AF.1
   ·exact ih AF.2
 ·refine Cx.ni hw hO bj (fun i be AO hb=>?_)
  exact ⟨be,by rw [hB i (fun h=>mE (h ▸ AO))]; exact hb,.refl be⟩
theorem jl {id k:Nat} {ys:List LV}:LV.ga id k ys []=[]:=by simp [LV.ga]
theorem cw {id k:Nat} {ys:List LV} {x:LV} {cs dj:List LV} (h:x.a8 id=true) (hr:LV.ga id k ys cs=dj):LV.ga id k ys (x :: cs)=x :: dj:=by
 simp only [LV.ga,oO x h,hr]
theorem jm {α:Type} {f:α→LV} {id k:Nat} {ys:List α} {cs dj:List LV} (hr:LV.ga id k (ys.map f) cs=dj):LV.ga id k (ys.map f) (.arr id ys.length :: cs)=.al k (ys.map f) :: dj:=by
 simp [LV.ga,LV.eJ,hr]
section
variable {α β γ:Type} {n:Nat} {v w:Option (α × List β)}
end
end Go.L
namespace Go.L
section
variable {P:Program} {N:Nat} {pr:Nat→Prop} {ev:Operand→LV} {m m':Mem} {d:Option Nat} {x y z:Operand} {t ty:TypeId} {pos:String} {af:Array Edge} {gd:Option (Nat × Bool)} {lv:LV} {α β:Type} {f:α→LV} {g:β→LV} {e0 k id n:Nat} {os:List (Nat × Nat × Nat)} {xs:List α} {u:Int} {z0:α} {cs:List LV} {o0:Nat}
theorem cj.mem {o:Oper} {m2:Mem} (h:cj P pr o ev m lv m') (hs:∀ c,b3 c m'→b3 c m2):cj P pr o ev m lv m2:=by
 intro c a Q bA hm
 refine Oper.wp_mono ?_ (h c a Q bA hm)
 rintro a' w' ⟨v,c',h1,h2,h3,h4,h5⟩
 exact ⟨v,c',h1,h2,h3,hs c' h4,h5⟩
end
theorem b3.T7 {c:Cx} {m:Mem} {id e k:Nat} {xs ys:List LV} (hs:fo xs ys) (hp:LV.bo ys=true) (h:b3 c (m.put id (.arr e k xs))):b3 c (m.put id (.arr e k ys)):=by
 refine ⟨fun i=>?_,h.inj,h.jZ,h.pw,h.cS⟩
 have he:=h.gE i
 by_cases hi:i=id
 ·subst hi
  simp only [Mem.put,if_true,bw] at he ⊢
  obtain ⟨u,vs,h1,h2,h3,h4,h5,h6⟩:=he
  have hl:ys.length=xs.length:=by rw [h4.length,(hs.rep h4).length]
  exact ⟨u,vs,by rw [hl]; exact h1,h2,by rw [hl]; exact h3,hs.rep h4,h5,hp⟩
 ·simp only [Mem.put,hi,if_false] at he ⊢
  exact he
theorem fo.G0 {x y:LV} (h:Sub x y):∀ n,fo (List.replicate n x) (List.replicate n y)
 | 0=>trivial
 | n+1=>⟨h,fo.G0 h n⟩
end Go.L
namespace Go.L
def Aq:Option BE→Option BE
 | some (.arr u k len _)=>some (.arr (.slice .none 0 0) k (len+1) [])
 | y=>y
def Mem.gone (m:Mem) (id:Nat) (le:LE) (S:List Nat):Mem:=fun i=>if i=id then some le else if i ∈ S then some .dead else m i
theorem b3.IT {pr:Nat→Prop} {c:Cx} {m:Mem} (h:b3 c m) (id:Nat) (S:List Nat) (hS:id ∉ S) (Sd:∀ j ∈ S,∃ u k len ins,c.B j=some (.arr u k len ins)) (KA:∀ j ∈ S,¬ pr j) (le:LE) (be:BE) (w':World)
  (Ei:w'.os=c.w.os) (pR:w'.tape=c.w.tape) (oT:w'.output=c.w.output) (xN:c.w.drawn≤w'.drawn) (eK:c.w.heap.size≤w'.heap.size)
  (gC:∀ b,b<c.w.heap.size→(∀ dr,c.B id=some dr→¬ dr.has b)→w'.heap[b]?=c.w.heap[b]?)
  (hblk:∀ b,be.has b→(∃ dr,c.B id=some dr∧dr.has b) ∨ (∃ j ∈ S,∃ dr,c.B j=some dr∧dr.has b) ∨ c.w.heap.size≤b)
  (hle:jB (c.B id) (some be)) (mE:pr id→∀ dr,c.B id=some dr→dr.kV be)
  (gS:∀ c':Cx,c'.w=w'→c.Le c'→(∀ i,jB (c.B i) (c'.B i))→c'.OQ c→(∀ b,c'.own b→be.has b ∨ ∃ j dr,j ≠ id∧c.B j=some dr∧dr.has b)→bw c' (some le) (some be)) :
  ∃ c':Cx,c'.w=w'∧c'.B id=some be∧b3 c' (m.gone id le S)∧Step pr c c':=by
 let c':Cx:=⟨w',fun i=>if i=id then some be else if i ∈ S then Aq (c.B i) else c.B i,c.O,c.Q⟩
 have e1:c'.B id=some be:=by simp [c']
 have e2:∀ i,i ∈ S→c'.B i=Aq (c.B i):=fun i hi=>by
  have:i ≠ id:=fun h=>hS (h ▸ hi)
  simp [c',this,hi]
 have e3:∀ i,i ≠ id→i ∉ S→c'.B i=c.B i:=fun i h1 h2=>by simp [c',h1,h2]
 have key:∀ i b1 b,c'.B i=some b1→b1.has b→(i=id∧be.has b) ∨ (i ≠ id∧i ∉ S∧c.B i=some b1):=by
  intro i b1 b g1 g2
  by_cases hi:i=id
  ·subst hi; rw [e1] at g1; cases g1; exact .inl ⟨rfl,g2⟩
  ·by_cases hs:i ∈ S
   ·rw [e2 i hs] at g1
    obtain ⟨u,k,len,ins,hB⟩:=Sd i hs
    rw [hB] at g1
    simp only [Aq,Option.some.injEq] at g1
    subst g1
    rcases g2 with g2 | g2
    ·simp [Value.ownBlock] at g2
    ·cases g2
   ·rw [e3 i hi hs] at g1; exact .inr ⟨hi,hs,g1⟩
 have bj:∀ b,c'.own b→c.own b ∨ c.w.heap.size≤b:=by
  rintro b ⟨i,eF,h1,h2⟩
  rcases key i eF b h1 h2 with ⟨_,h3⟩ | ⟨_,_,h3⟩
  ·rcases hblk b h3 with ⟨dr,q1,q2⟩ | ⟨j,_,dr,q1,q2⟩ | q
   ·exact .inl ⟨id,dr,q1,q2⟩
   ·exact .inl ⟨j,dr,q1,q2⟩
   ·exact .inr q
  ·exact .inl ⟨i,eF,h3,h2⟩
 have jN:Grow pr c c':=by
  refine ⟨rfl,Ei,pR,oT,xN,eK,fun b hb ho _=>gC b hb (fun dr h0 h1=>ho ⟨id,dr,h0,h1⟩),fun _ _ _ h=>h,fun _ h=>.inl h,bj,fun i eF hp hb=>?_⟩
  by_cases hi:i=id
  ·subst hi; exact ⟨be,e1,mE hp eF hb⟩
  ·have hs:i ∉ S:=fun hs=>KA i hs hp
   exact ⟨eF,by rw [e3 i hi hs]; exact hb,.refl eF⟩
 have mn:hD c c':=h.FU ⟨rfl,rfl⟩ fun b hb ho=>gC b hb (fun dr h0 h1=>ho ⟨id,dr,h0,h1⟩)
 have mB:=jN.le mn
 have dz:∀ i,jB (c.B i) (c'.B i):=by
  intro i
  by_cases hi:i=id
  ·subst hi; rw [e1]; exact hle
  ·by_cases hs:i ∈ S
   ·rw [e2 i hs]
    obtain ⟨u,k,len,ins,hB⟩:=Sd i hs
    rw [hB]
    exact ⟨_,_,_,rfl,by omega,fun h=>by omega⟩
   ·rw [e3 i hi hs]; exact jB.refl _
 have s9:∀ b,c'.own b→be.has b ∨ ∃ j dr,j ≠ id∧c.B j=some dr∧dr.has b:=by
  rintro b ⟨i,eF,h1,h2⟩
  rcases key i eF b h1 h2 with ⟨_,h3⟩ | ⟨q1,_,h3⟩
  ·exact .inl h3
  ·exact .inr ⟨i,eF,q1,h3,h2⟩
 refine ⟨c',rfl,e1,⟨fun i=>?_,?_,?_,?_,h.U9 ⟨rfl,rfl⟩ eK bj⟩,jN,dz,mn⟩
 ·by_cases hi:i=id
  ·subst hi; rw [e1]; simp only [Mem.gone,if_true]; exact gS c' rfl mB dz ⟨rfl,rfl⟩ s9
  ·by_cases hs:i ∈ S
   ·rw [e2 i hs]
    simp only [Mem.gone,hi,hs,if_true,if_false,bw]
    obtain ⟨u,k,len,ins,hB⟩:=Sd i hs
    rw [hB]
    exact ⟨_,_,_,rfl,rfl⟩
   ·rw [e3 i hi hs]
    simp only [Mem.gone,hi,hs,if_false]
    refine (h.gE i).mono mB dz fun eF b hb qU=>?_
    refine gC b ((h.gE i).lt hb qU) (fun dr h0 h1=>?_)
    exact hi (h.inj i id eF dr b hb h0 qU h1)
 ·have one:∀ i b1 b,i ≠ id→i ∉ S→c.B i=some b1→b1.has b→be.has b→False:=by
   intro i b1 b h1 h2 h3 h4 h5
   rcases hblk b h5 with ⟨dr,q1,q2⟩ | ⟨j,hj,dr,q1,q2⟩ | q
   ·exact h1 (h.inj i id b1 dr b h3 q1 h4 q2)
   ·exact h2 (h.inj i j b1 dr b h3 q1 h4 q2 ▸ hj)
   ·have:=(h.gE i).lt h3 h4; omega
  intro i i' b1 b2 b h1 h2 h3 h4
  rcases key i b1 b h1 h3 with ⟨q1,q2⟩ | ⟨q1,q2,q3⟩
  ·rcases key i' b2 b h2 h4 with ⟨r1,r2⟩ | ⟨r1,r2,r3⟩
   ·rw [q1,r1]
   ·exact (one i' b2 b r1 r2 r3 h4 q2).elim
  ·rcases key i' b2 b h2 h4 with ⟨r1,r2⟩ | ⟨r1,r2,r3⟩
   ·exact (one i b1 b q1 q2 q3 h3 r2).elim
   ·exact h.inj i i' b1 b2 b q3 r3 h3 h4
 ·intro b ho hO
  rcases bj b ho with ho | hs
  ·exact h.jZ b ho hO
  ·have:=h.pw b hO; omega
 ·intro b hO; exact Nat.lt_of_lt_of_le (h.pw b hO) eK
theorem Wk.ny {pr:Nat→Prop} {el:List (Nat × LV)} {ml:List (Nat × LE)} {α:Type} {f:α→LV} (id e k:Nat) (os:List (Nat × Nat × Nat)) (xs:List α) (bB:Mem.of ml id=some (.nest e k os (xs.map f))) (gD:qm k f) :
  Wk pr (Env.of el) (Mem.of ml) (Env.of el) ((Mem.of ml).gone id (.arr e k (xs.map f)) []):=by
 intro N c a bY
 have he:=bY.mem.gE id
 rw [bB] at he
 simp only [bw] at he
 obtain ⟨u,vs,bs,hB,hk,bj,hn,hc,hnd,kF⟩:=he
 obtain ⟨c',hw,hb,h2,h3⟩:=bY.mem.IT (pr:=pr) id [] (by simp) (by simp) (by simp) (.arr e k (xs.map f)) (.arr u k (xs.map f).length []) c.w rfl rfl rfl (Nat.le_refl _) (Nat.le_refl _)
  (fun b _ _=>rfl) (fun b hb=>.inl ⟨_,hB,hb.elim .inl (fun h=>by cases h)⟩) (by rw [hB]; exact ⟨_,_,_,rfl,Nat.le_refl _,fun _=>rfl⟩) (fun _ dr h0=>by rw [hB] at h0; cases h0; exact ⟨_,_,_,rfl,Nat.le_refl _,fun _=>rfl⟩)
  (fun c' hw hle dz hO s9=>by
   simp only [bw]
   refine ⟨u,vs,rfl,hk,by rw [hw]; exact bj,hn.Av hle hw (fun b hb=>?_),hc,gD.bo xs⟩
   have Ed:c.own b:=⟨id,_,hB,.inr hb⟩
   rintro (h | h)
   ·exact bY.mem.TW Ed (hO.U h)
   ·rcases s9 b h with h | ⟨j,dr,q1,q2,q3⟩
    ·rcases h with h | h
     ·exact kF b h hb
     ·cases h
    ·exact q1 (bY.mem.inj j id dr _ b q2 hB q3 (.inr hb)))
 exact ⟨c',hw,⟨fun i=>h3.wS (bY.env i),h2,bY.size,bY.defers⟩,h3.grow⟩
theorem Wk.vf {pr:Nat→Prop} {el:List (Nat × LV)} {ml:List (Nat × LE)} (id e k kK j:Nat) {cs dj:List LV} (bB:Mem.of ml id=.none) (hk:Nat.ble 1 k=true) (hb:Mem.of ml kK=some (.box cs)) (hj:cs[j]?=some .nil) (hcs:cs.set j (.arr id 0)=dj) (mE:¬ pr id) :
  Wk pr (Env.of el) (Mem.of ml) (Env.of el) (((Mem.of ml).put id (.arr e k [])).put kK (.box dj)):=by
 intro N c a bY
 have eA:kK ≠ id:=fun h=>by rw [h,bB] at hb; cases hb
 have hB:=bY.mem.fresh bB
 obtain ⟨c',hw,gH,h2,h3⟩:=bY.mem.Ac (pr:=pr) id (.arr e k []) (.arr (.slice .none 0 0) k 0 []) c.w rfl rfl rfl (Nat.le_refl _) (Nat.le_refl _)
  (fun b _ _=>rfl) (fun b hb=>by simp [BE.has,Value.ownBlock] at hb) (by rw [hB]; trivial) (fun h=>absurd h mE)
  (fun c' hw hle dz=>by
   simp only [bw]
   exact ⟨.slice .none 0 0,[],rfl,Nat.le_of_ble_eq_true hk,by rw [hw]; exact World.ownsRow_nil c.w 0 e k,by simp [aC],by simp,by simp [LV.bo]⟩)
 have cE:((Mem.of ml).put id (.arr e k [])) kK=some (.box cs):=by simp only [Mem.put,eA,if_false]; exact hb
 obtain ⟨b,vs,e1,zU,hh,hl,h1⟩:=jj h2 cE
 have iP:∀ (cs:List LV) (vs:List Value) (j:Nat),aC c' cs vs→cs[j]?=some .nil→aC c' (cs.set j (.arr id 0)) vs:=by
  intro cs
  induction cs with
  | nil=>intro vs j _ h; simp at h
  | cons x xs ih =>
   intro vs j hl hj
   simp only [aC] at hl
   obtain ⟨v,fI,rfl,hv,iN⟩:=hl
   cases j with
   | zero =>
    simp at hj; subst hj
    simp only [av] at hv
    simp only [List.set_cons_zero,aC]
    refine ⟨v,fI,rfl,?_,iN⟩
    simp only [av]
    exact ⟨by rw [hv]; rfl,_,_,_,_,gH,Nat.le_refl _,fun _=>hv⟩
   | succ j =>
    simp only [List.set_cons_succ,aC]
    exact ⟨v,fI,rfl,hv,ih fI j iN (by simpa using hj)⟩
 have jq:=h2.re (dj:=dj) cE zU hh (by rw [← hcs]; exact iP cs vs j hl hj) h1 (by rw [← hcs]; simp)
 exact ⟨c',hw,⟨fun i=>h3.wS (bY.env i),jq,bY.size,bY.defers⟩,h3.grow⟩
def lk (m:Mem) (os:List (Nat × Nat × Nat)):Nat→List LV→List LV→List Nat→Prop
 | _,[],dj,S=>dj=[]∧S=[]
 | o,x :: xs,dj,S=>∃ x' ug S1 S2,dj=x' :: ug∧S=S1++S2∧lk m os (o+1) xs ug S2 ∧
   match os.lookup o with
   | .none=>x'=x∧x.pure=true∧S1=[]
   | some (e,k)=>(x=.nil∧0<k∧x'=.al k []∧S1=[]) ∨ ∃ id2 ys,x=.arr id2 ys.length∧m id2=some (.arr e k ys)∧x'=.al k ys∧S1=[id2]
theorem Un {m:Mem} {os:List (Nat × Nat × Nat)} {o:Nat}:lk m os o [] [] []:=⟨rfl,rfl⟩
theorem Q9 {m:Mem} {os:List (Nat × Nat × Nat)} {o:Nat} {x:LV} {xs ug:List LV} {S:List Nat} (hl:os.lookup o=.none) (hp:x.pure=true) (h:lk m os (o+1) xs ug S):lk m os o (x :: xs) (x :: ug) S :=
 ⟨x,ug,[],S,rfl,rfl,h,by rw [hl]; exact ⟨rfl,hp,rfl⟩⟩
theorem Vp {m:Mem} {os:List (Nat × Nat × Nat)} {o e k:Nat} {xs ug:List LV} {S:List Nat} (hl:os.lookup o=some (e,k)) (hk:Nat.ble 1 k=true) (h:lk m os (o+1) xs ug S):lk m os o (.nil :: xs) (.al k [] :: ug) S :=
 ⟨.al k [],ug,[],S,rfl,rfl,h,by rw [hl]; exact .inl ⟨rfl,Nat.le_of_ble_eq_true hk,rfl,rfl⟩⟩
theorem Ng {α:Type} {g:α→LV} {ys:List α} {m:Mem} {os:List (Nat × Nat × Nat)} {o e k id2:Nat} {xs ug:List LV} {S:List Nat} (hl:os.lookup o=some (e,k)) (hm:m id2=some (.arr e k (ys.map g))) (h:lk m os (o+1) xs ug S):lk m os o (.arr id2 ys.length :: xs) (.al k (ys.map g) :: ug) (id2 :: S) :=
 ⟨.al k (ys.map g),ug,[id2],S,rfl,rfl,h,by rw [hl]; exact .inr ⟨id2,ys.map g,by simp,hm,rfl,rfl⟩⟩
def mg:Option BE→List Nat
 | some (.arr u _ _ _)=>u.ownBlock.toList
 | _=>[]
def iD (c:Cx) (S:List Nat):List Nat:=S.flatMap fun j=>mg (c.B j)
theorem lr {c:Cx} {S:List Nat} {b:Nat} (h:b ∈ iD c S):∃ j ∈ S,∃ be,c.B j=some be∧be.has b:=by
 simp only [iD,List.mem_flatMap] at h
 obtain ⟨j,hj,hb⟩:=h
 refine ⟨j,hj,?_⟩
 cases hB:c.B j with
 | none=>simp [mg,hB] at hb
 | some be =>
  cases be with
  | box _ _=>simp [mg,hB] at hb
  | mp _=>simp [mg,hB] at hb
  | arr u k len ins=>rw [hB] at hb; exact ⟨_,rfl,.inl (by simpa [mg] using hb)⟩
theorem oF {c:Cx} {m:Mem} (hM:b3 c m):∀ {S:List Nat},S.Nodup→(iD c S).Nodup
 | [],_=>by simp [iD]
 | j :: S,h=>by
  have h':=List.nodup_cons.1 h
  have:iD c (j :: S)=mg (c.B j)++iD c S:=by simp [iD]
  rw [this,List.nodup_append]
  refine ⟨?_,oF hM h'.2,?_⟩
  ·cases hB:c.B j with
   | none=>simp [mg]
   | some be =>
    cases be with
    | box _ _=>simp [mg]
    | mp _=>simp [mg]
    | arr u k len ins=>cases hu:u.ownBlock <;> simp [mg,hu]
  ·intro a ha b hb mj
   subst mj
   obtain ⟨j1,MT,Ra,q1,q2⟩:=lr (c:=c) (S:=[j]) (b:=a) (by simpa [iD] using ha)
   obtain ⟨j2,Fb,BO,q3,q4⟩:=lr hb
   have V1:=hM.inj j1 j2 Ra BO a q1 q3 q2 q4
   simp at MT
   rw [← MT,V1] at h'
   exact h'.1 Fb
theorem lk.ids {m:Mem} {os:List (Nat × Nat × Nat)}:∀ {o:Nat} {cs dj:List LV} {S:List Nat},lk m os o cs dj S→∀ j ∈ S,∃ e k ys,m j=some (.arr e k ys)
 | _,[],_,_,h=>by simp only [lk] at h; rw [h.2]; simp
 | o,x :: xs,dj,S,h=>by
  simp only [lk] at h
  obtain ⟨x',ug,S1,S2,rfl,rfl,h1,h2⟩:=h
  intro j hj
  rcases List.mem_append.1 hj with hj | hj
  ·split at h2
   ·rw [h2.2.2] at hj; cases hj
   ·rename_i e k _
    rcases h2 with ⟨_,_,_,rfl⟩ | ⟨id2,ys,_,hm,_,rfl⟩
    ·cases hj
    ·simp at hj; subst hj; exact ⟨e,k,ys,hm⟩
  ·exact h1.ids j hj
theorem lk.rep {c c':Cx} {m:Mem} (hM:b3 c m) (hle:c.Le c') {os:List (Nat × Nat × Nat)}:∀ {o:Nat} {cs dj:List LV} {S:List Nat} {ws:List Value},lk m os o cs dj S→aC c cs ws→(∀ b ∈ iD c S,c'.w.heap[b]?=c.w.heap[b]?)→gu c' os o dj ws (iD c S)
 | _,[],_,_,ws,h,hl,_=>by
  simp only [lk] at h
  obtain ⟨rfl,rfl⟩:=h
  simp only [aC] at hl
  simp only [gu]; exact ⟨hl,by simp [iD]⟩
 | o,x :: xs,dj,S,ws,h,hl,hh=>by
  simp only [lk] at h
  obtain ⟨x',ug,S1,S2,rfl,rfl,h1,h2⟩:=h
  simp only [aC] at hl
  obtain ⟨w,CD,rfl,hw,iN⟩:=hl
  have hb:iD c (S1++S2)=iD c S1++iD c S2:=by simp [iD]
  rw [hb] at hh ⊢
  simp only [gu]
  refine ⟨w,CD,iD c S1,iD c S2,rfl,rfl,?_,lk.rep hM hle h1 iN (fun b hb=>hh b (by simp [hb]))⟩
  unfold fk
  split at h2
  ·rename_i SC
   obtain ⟨rfl,hp,rfl⟩:=h2
   rw [SC]
   exact ⟨av.mono hle _ w (fun id bB=>by rw [eX _ hp] at bB; cases bB) hw,hp,by simp [iD]⟩
  ·rename_i e k SC
   rw [SC]
   rcases h2 with ⟨rfl,hk,rfl,rfl⟩ | ⟨id2,ys,rfl,hm,rfl,rfl⟩
   ·simp only [av] at hw
    subst hw
    exact .inr ⟨[],[],rfl,hk,World.ownsRow_nil c'.w 0 e k,by simp [aC],by simp,rfl,by simp [iD,Value.ownBlock]⟩
   ·obtain ⟨us,hB,hk,bj,wu,hc,hp⟩:=gv hM hw hm rfl
    refine .inr ⟨ys,us,rfl,hk,dR bj (fun b hb=>hh b ?_),aC.mono hle ys us (fun j hj=>by rw [az ys hp] at hj; cases hj) wu,hc,hp,by simp [iD,hB,mg]⟩
    simp [iD,hB,mg,hb]
section
variable {P:Program} {N:Nat} {pr:Nat→Prop} {ev:Operand→LV} {m m':Mem} {d:Option Nat} {x y z:Operand} {t ty:TypeId} {pos:String} {af:Array Edge} {gd:Option (Nat × Bool)} {lv:LV} {α β:Type} {f:α→LV} {g:β→LV} {e0 k id n:Nat} {os:List (Nat × Nat × Nat)}
theorem Mm {i:Nat} {xs cs dj:List LV} {z:LV} {S:List Nat} (hx:ev x=.bE id n i 0) (hm:m id=some (.nest e0 k os xs)) (hn:n=xs.length) (hz:xs[i]?=some z) (hy:ev y=.agg cs) (ht:tok P t=true) (hs:tsize P t=k) (hl:cs.length=k) (uj:cs.all LV.scalar=true) (mj:lk m os 0 cs dj S) (hS:S.Nodup) (KA:∀ j ∈ S,¬ pr j) :
  bn P pr ⟨.none,.store t x y,ty,pos,af,gd⟩ ev m .eD (m.gone id (.nest e0 k os (xs.set i (.agg dj))) S):=by
 refine bn.skip rfl fun c a bA hM=>?_
 have hv:=bA x (by simp [Op.operands])
 rw [hx] at hv
 have lU:=bA y (by simp [Op.operands])
 rw [hy] at lU
 obtain ⟨Dl,rS⟩:=lU.cellsOf (by simpa [LV.cells] using uj)
 simp only [av] at lU
 obtain ⟨ws,M1,wu⟩:=lU
 have zZ:ws.length=k:=by rw [← wu.length]; exact hl
 have gS:=hM.gE id
 rw [hm] at gS
 obtain ⟨gb,cap,cur,v,bp,bs,bq,hB,hg,hcs,kq,hk,AU,jY,sR,qc,hnd,qd,mR⟩:=nb gS hz
 have he:=iv hv hB hn
 have HY:id ∉ S:=fun h=>by
  obtain ⟨e,k',ys,h'⟩:=mj.ids id h
  rw [hm] at h'; cases h'
 have Sc:∀ j ∈ S,∃ u k len ins,c.B j=some (.arr u k len ins):=fun j hj=>by
  obtain ⟨e,k',ys,h'⟩:=mj.ids j hj
  have:=hM.gE j
  rw [h'] at this
  simp only [bw] at this
  obtain ⟨u,vs,hb,_⟩:=this
  exact ⟨u,k',_,_,hb⟩
 have sV:∀ b ∈ iD c S,b ≠ gb∧b ∉ bp++(bs++bq):=fun b hb=>by
  obtain ⟨j,hj,be,q1,q2⟩:=lr hb
  have Ef:j ≠ id:=fun h=>HY (h ▸ hj)
  exact ⟨fun h=>Ef (hM.inj j id be _ b q1 hB q2 (.inl (by rw [h]; rfl))),fun h=>Ef (hM.inj j id be _ b q1 hB q2 (.inr h))⟩
 have hi:i<xs.length:=(List.getElem?_eq_some_iff.1 hz).1
 have HZ:i * k+k≤cur.size:=by
  have h1:=Nat.mul_le_mul_right k (show i+1≤cap by omega)
  rw [Nat.add_mul,Nat.one_mul] at h1; omega
 have xo:(a.eval y).cells.size=k:=by rw [M1]; simp [Value.cells,zZ]
 have du:=gK (P:=P) (t:=t) (v:=a.eval y) (off:=i * k) ht (by rw [hs,xo]) hg (by rw [xo]; exact HZ) rS
 have WB:(a.eval y).cells.toList.length=k:=by simpa using xo
 rw [WB] at du
 have mV:(bp++(iD c S++bq)).Nodup:=by
  have n1:=List.nodup_append.1 hnd
  have n2:=List.nodup_append.1 n1.2.1
  rw [List.nodup_append]
  refine ⟨n1.1,?_,?_⟩
  ·rw [List.nodup_append]
   exact ⟨oF hM hS,n2.2.1,fun p hp q hq Rw=>(sV p hp).2 (by rw [Rw]; simp [hq])⟩
  ·intro p hp q hq Rw
   rcases List.mem_append.1 hq with hq | hq
   ·exact (sV q hq).2 (by rw [← Rw]; simp [hp])
   ·exact n1.2.2 p hp q (by simp [hq]) Rw
 obtain ⟨c',hw,eb,h2,h3⟩:=hM.IT (pr:=pr) id S HY Sc KA (.nest e0 k os (xs.set i (.agg dj))) (.arr (.slice (some ⟨gb,0,.none⟩) xs.length cap) k xs.length (bp++(iD c S++bq))) (c.w.setRow gb (cur.toList.take (i * k)++(a.eval y).cells.toList++cur.toList.drop (i * k+k)).toArray) rfl rfl rfl (Nat.le_refl _) (by simp)
  (fun b _ h1=>setRow_other _ _ _ _ (fun Ax=>h1 _ hB (.inl (by rw [Ax]; rfl))))
  (fun b hb=>by
   rcases hb with hb | hb
   ·exact .inl ⟨_,hB,.inl hb⟩
   ·simp only [List.mem_append] at hb
    rcases hb with h | h | h
    ·exact .inl ⟨_,hB,.inr (by simp [h])⟩
    ·exact .inr (.inl (lr h))
    ·exact .inl ⟨_,hB,.inr (by simp [h])⟩)
  (by rw [hB]; exact ⟨_,_,_,rfl,Nat.le_refl _,fun _=>rfl⟩) (fun _ dr h0=>by rw [hB] at h0; cases h0; exact ⟨_,_,_,rfl,Nat.le_refl _,fun _=>rfl⟩)
  (fun c' hw hle dz hO s9=>by
   have uB:∀ b,b ≠ gb→c'.w.heap[b]?=c.w.heap[b]?:=fun b hb=>by rw [hw]; exact setRow_other _ _ _ _ hb
   exact mR c' _ (a.eval y) _ hle (by rw [hw]; exact setRow_heap c.w gb _ _ e0 _ hg) (fun q hq=>uB q (fun Li=>qd (by rw [← Li]; simp at hq ⊢; rcases hq with h | h <;> simp [h]))) xo rS ⟨dj,ws,rfl,M1,mj.rep hM hle wu (fun b hb=>uB b (sV b hb).1)⟩ mV (fun h=>(sV gb h).1 rfl))
 refine ⟨c',?_,h2,h3⟩
 rw [hw]
 simp only [Nat.add_zero] at he
 simp [execOp,he,du]
theorem Ml {u:Int} {xs:List α} {cs dj:List LV} {z0 z':α} {S:List Nat} (hx:ev x=.bE id n u.toNat 0) (hm:m id=some (.nest e0 k os (xs.map f))) (hn:n=xs.length) (hz:idx xs u=some z0) (hy:ev y=.agg cs) (ht:tok P t=true) (hs:tsize P t=k) (hl:cs.length=k) (uj:cs.all LV.scalar=true) (mj:lk m os 0 cs dj S) (hS:S.Nodup) (KA:∀ j ∈ S,¬ pr j) (hfz:f z'=.agg dj) :
  bn P pr ⟨.none,.store t x y,ty,pos,af,gd⟩ ev m .eD (m.gone id (.nest e0 k os ((xs.set u.toNat z').map f)) S):=by
 obtain ⟨h0,h2⟩:=dB hz
 have:=Mm (pr:=pr) (ty:=ty) (pos:=pos) (af:=af) (gd:=gd) (z:=f z0) hx hm (by simpa using hn) (by simp [h2]) hy ht hs hl uj mj hS KA
 rwa [← hfz,← List.map_set] at this
end
end Go.L
namespace Go.L
theorem Sub.al {k:Nat} {xs ys:List LV} (h:fo xs ys) (hp:LV.bo ys=true):Sub (.al k xs) (.al k ys):=fun c v hv=>by
 simp only [av] at hv ⊢
 obtain ⟨a,cap,rfl,h1,h2,h3,h4⟩:=hv
 have hl:∀ {xs ys:List LV},fo xs ys→xs.length=ys.length:=by
  intro xs
  induction xs with
  | nil=>intro ys h; cases ys with
   | nil=>rfl
   | cons y ys=>cases h
  | cons x xs ih=>intro ys h; cases ys with
   | nil=>cases h
   | cons y ys=>simp [ih h.2]
 refine ⟨a,cap,by rw [hl h],by rw [← hl h]; exact h1,h2,hp,?_⟩
 rcases h4 with rfl | ⟨b,off,vs,q1,q2,q3,q4,q5⟩
 ·left; exact List.eq_nil_of_length_eq_zero (by rw [← hl h]; rfl)
 ·exact .inr ⟨b,off,vs,q1,q2,q3,h.rep q4,q5⟩
section
variable {P:Program} {N:Nat} {pr:Nat→Prop} {ev:Operand→LV} {m m':Mem} {d:Option Nat} {x y z:Operand} {t ty:TypeId} {pos:String} {af:Array Edge} {gd:Option (Nat × Bool)} {lv:LV} {α β:Type} {f:α→LV} {g:β→LV} {e0 k id n:Nat} {os:List (Nat × Nat × Nat)} {xs:List α} {u:Int} {z0:α} {cs:List LV} {o0:Nat}
theorem cj.res {o:Oper} {xq:LV} (h:cj P pr o ev m lv m') (hs:Sub lv xq):cj P pr o ev m xq m':=by
 intro c a Q bA hm
 refine Oper.wp_mono ?_ (h c a Q bA hm)
 rintro a' w' ⟨v,c',h1,h2,h3,h4,h5⟩
 exact ⟨v,c',h1,h2,hs c' v h3,h4,h5⟩
theorem WO {k:Nat}:qX k []:=fun x hx=>by cases hx
theorem T0 {k:Nat} {x:LV} {xs:List LV} (h1:x.pure=true) (h2:x.cells.length=k) (h3:x.cells.all LV.scalar=true) (h:qX k xs):qX k (x :: xs):=fun y hy=>by
 rcases List.mem_cons.1 hy with rfl | hy
 ·exact ⟨h1,h2,h3⟩
 ·exact h y hy
theorem Mc {nn el kk:Nat} {ps:List (Nat × Operand)} {ls:List LV} {ys:List α} (he:telem P t=some el) (hr:gz P el=true) (hk:tsize P el=kk) (hb:Nat.ble (nn * kk) 16777216=true) (hi:ps.map (·.1)=List.range nn) (hv:(ps.map fun p=>ev p.2)=ls) (gD:qX kk ls) (hs:fo ls (ys.map f)) (hf:qm kk f) :
  cj P pr ⟨d,.buildSlice t nn ps.toArray,ty,pos,af,gd⟩ ev m (.al kk (ys.map f)) m:=by
 subst hk
 obtain ⟨lv,m',⟨rfl,rfl⟩,h⟩:=ll (ro:=[]) (K:=fun lv m'=>lv=.al (tsize P el) ls∧m'=m) (P:=P) (pr:=pr) (o:=⟨d,.buildSlice t nn ps.toArray,ty,pos,af,gd⟩) (ev:=ev) (m:=m)
  (by rw [LOp_buildSlice,he]; exact ⟨hr,Nat.le_of_ble_eq_true hb,hi,by rw [hv]; exact gD,by rw [hv]; exact ⟨rfl,rfl⟩⟩)
 exact h.res (Sub.al hs (hf.bo ys))
theorem Gf {i el kk:Nat} {zc:LV} {z:α} {r:List α} (hi:100+i=id) (he:telem P t=some el) (hz:tzero P el=some zc) (hr:gz P el=true) (hk:tsize P el=kk) (hx:ev x=.int .i64 u) (hy:ev y=.int .i64 u) (hp:zc.pure=true) (hs:Sub zc (f z)) (gD:qm kk f) (hl:z1 z u=some r) (hf:m id=.none) :
  cj P pr ⟨some i,.makeSlice t x y,ty,pos,af,gd⟩ ev m (.arr id r.length) (m.put id (.arr el kk (r.map f))):=by
 have iN:z1 zc u=some (List.replicate r.length zc):=by
  unfold z1 at hl ⊢
  split at hl
  ·rename_i h0; cases hl; simp [h0]
  ·cases hl
 have Wl:r=List.replicate r.length z:=by
  unfold z1 at hl
  split at hl
  ·cases hl; simp
  ·cases hl
 obtain ⟨lv,m',⟨rfl,rfl⟩,h⟩:=ll (ro:=[]) (K:=fun lv m'=>lv=.arr id r.length∧m'=m.put id (.arr el kk ((List.replicate r.length zc).map fun x=>x))) (P:=P) (pr:=pr) (o:=⟨some i,.makeSlice t x y,ty,pos,af,gd⟩) (ev:=ev) (m:=m)
  (RF (f:=fun x:LV=>x) hi he hz hr hk hx hy hp iN hf ⟨by simp,rfl⟩)
 refine h.mem fun c hc=>?_
 have oU:fo ((List.replicate r.length zc).map fun x=>x) (r.map f):=by
  rw [List.map_id']
  conv=>rhs; rw [Wl]
  rw [List.map_replicate]
  exact fo.G0 hs _
 exact b3.T7 oU (gD.bo r) hc
end
theorem aO.Av {P:Program} {fn:Nat} {args:List LV} {α:Type} {f:α→LV} {id n e k:Nat} {xs:List α} (h:aO P fn args (Mem.of []) (.arr id n) (Mem.of [(id,.arr e k (xs.map f))])) (hn:n=xs.length):aO P fn args (Mem.of []) (.al k (xs.map f)) (Mem.of []):=by
 intro c vs hM hv
 refine (h c vs hM hv).mono ?_
 rintro en w' ⟨v,c1,rfl,rfl,iH,hr,hg⟩
 obtain ⟨us,hB,hk,bj,hl,hc,hp⟩:=gv (e:=e) (k:=k) (xs:=xs.map f) iH hr (by simp [Mem.of]) (by simpa using hn)
 obtain ⟨c',hw,hO,iO,hV,iz,hX,iF⟩:=iH.del id (by
  intro i ds hi hd
  simp [Mem.of,hi] at hd)
 have hle:c1.Le c':=Cx.sub_le hw hO iz
 have V8:(Mem.of [(id,.arr e k (xs.map f))]).del id=Mem.of []:=by
  funext i
  simp only [Mem.del,Mem.of]
  by_cases hi:i=id <;> simp [hi]
 rw [V8] at iO
 refine ⟨v,c',rfl,hw,iO,?_,?_⟩
 ·simp only [av]
  have iN:=aC.mono hle (xs.map f) us (fun j hj=>by rw [az _ hp] at hj; cases hj) hl
  rcases bj.2 with ⟨rfl,h0⟩ | ⟨g,cap,cur,rfl,_,sW,kq,_⟩
  ·exact ⟨.none,0,by rw [h0],by omega,fun _=>rfl,hp,.inl (List.eq_nil_of_length_eq_zero h0)⟩
  ·refine ⟨some ⟨g,0,.none⟩,cap,rfl,kq,by simp,hp,.inr ⟨g,0,us,rfl,by rw [hw]; exact (Array.getElem?_eq_some_iff.1 sW).1,hX g _ hB (.inl rfl),iN,hc,?_⟩⟩
   rw [hw]; exact cY bj rfl
 ·refine hg.trans (Cx.ni hw hO iz (fun i be AO hb=>?_))
  simp [Mem.of] at AO
theorem mD {P:Program} {pr:Nat→Prop} {ro:List Nat} {ops:Array Oper} {l:List Oper} {et:List Nat} {KE:Env→Mem→Prop} {e:Env} {m:Mem} {lv:LV} {le:LE} {i md id:Nat} {op:Op} {ty:TypeId} {pos:String} {af:Array Edge} (bB:gk md=id) (AI:M4 md=true) (hm:m id=some le) (h:Ko P pr ro ⟨some i,op,ty,pos,af,.none⟩ (da e) id le lv) (hr:cA P pr ro ops (List.zip l et) KE (e.put i lv) m):cA P pr ro ops (List.zip (⟨some i,op,ty,pos,af,.none⟩ :: l) (md :: et)) KE e m:=by
 subst bB
 have h1:1000≤md∧md<100000:=by simpa [M4] using AI
 show fX P pr ro ops md _ _ e m
 unfold fX
 have hg:Go.L.gd ops ⟨some i,op,ty,pos,af,.none⟩ e=some true:=rfl
 rw [hg]
 simp only
 split
 ·omega
 ·omega
 ·omega
 ·omega
 ·rw [if_neg (by omega),if_pos h1.2]
  exact ⟨lv,le,hm,h,hr⟩
theorem mW {P:Program} {pr:Nat→Prop} {ro:List Nat} {ops:Array Oper} {l:List Oper} {et:List Nat} {KE:Env→Mem→Prop} {e:Env} {m:Mem} {lv:LV} {le oW:LE} {i md id:Nat} {op:Op} {ty:TypeId} {pos:String} {af:Array Edge} (bB:gk md=id) (AI:(Nat.ble 100000 md && Nat.blt md 1000000000)=true) (hm:m id=some le) (h:Kp P pr ro ⟨some i,op,ty,pos,af,.none⟩ (da e) id le oW lv) (hr:cA P pr ro ops (List.zip l et) KE (e.put i lv) (m.over (Mem.of [(id,oW)]))):cA P pr ro ops (List.zip (⟨some i,op,ty,pos,af,.none⟩ :: l) (md :: et)) KE e m:=by
 subst bB
 have h1:100000≤md∧md<1000000000:=by simpa using AI
 show fX P pr ro ops md _ _ e m
 unfold fX
 have hg:Go.L.gd ops ⟨some i,op,ty,pos,af,.none⟩ e=some true:=rfl
 rw [hg]
 simp only
 split
 ·omega
 ·omega
 ·omega
 ·omega
 ·rw [if_neg (by omega),if_neg (by omega),if_pos h1.2]
  exact ⟨lv,le,oW,hm,h,hr⟩
theorem mS {P:Program} {pr:Nat→Prop} {ro:List Nat} {ops:Array Oper} {l:List Oper} {et:List Nat} {KE:Env→Mem→Prop} {e:Env} {m:Mem} {lv:LV} {le oW:LE} {md id:Nat} {op:Op} {ty:TypeId} {pos:String} {af:Array Edge} (bB:gk md=id) (AI:(Nat.ble 100000 md && Nat.blt md 1000000000)=true) (hm:m id=some le) (h:∀ m0:Mem,m0 id=some le→∀ K':LV→Mem→Prop,K' lv (m0.put id oW)→LOp P pr ro ⟨.none,op,ty,pos,af,.none⟩ (da e) m0 K') (hr:cA P pr ro ops (List.zip l et) KE e (m.put id oW)):cA P pr ro ops (List.zip (⟨.none,op,ty,pos,af,.none⟩ :: l) (md :: et)) KE e m:=by
 subst bB
 have h1:100000≤md∧md<1000000000:=by simpa using AI
 show fX P pr ro ops md _ _ e m
 unfold fX
 have hg:Go.L.gd ops ⟨.none,op,ty,pos,af,.none⟩ e=some true:=rfl
 rw [hg]
 simp only
 split
 ·omega
 ·omega
 ·omega
 ·omega
 ·rw [if_neg (by omega),if_neg (by omega),if_pos h1.2]
  refine ⟨lv,le,oW,hm,fun m0 h0 K' hK=>h m0 h0 K' (by rw [← pZ]; exact hK),?_⟩
  rw [pZ]; exact hr
theorem TT {P:Program} {pr:Nat→Prop} {ro:List Nat} {ops:Array Oper} {l:List Oper} {et:List Nat} {KE:Env→Mem→Prop} {e:Env} {m m':Mem} {lv:LV} {i md:Nat} {op:Op} {ty:TypeId} {pos:String} {af:Array Edge} (AI:Nat.ble 1000000000 md=true) (h:rp P pr ⟨some i,op,ty,pos,af,.none⟩ (da e) (I6 md) m lv m') (hr:cA P pr ro ops (List.zip l et) KE (e.put i lv) m'):cA P pr ro ops (List.zip (⟨some i,op,ty,pos,af,.none⟩ :: l) (md :: et)) KE e m:=by
 have h1:1000000000≤md:=by simpa using AI
 show fX P pr ro ops md _ _ e m
 unfold fX
 have hg:Go.L.gd ops ⟨some i,op,ty,pos,af,.none⟩ e=some true:=rfl
 rw [hg]
 simp only
 split
 ·omega
 ·omega
 ·omega
 ·omega
 ·rw [if_neg (by omega),if_neg (by omega),if_neg (by omega)]
  exact ⟨lv,m',h,hr⟩
theorem mM {P:Program} {pr:Nat→Prop} {ro:List Nat} {ops:Array Oper} {l:List Oper} {et:List Nat} {KE:Env→Mem→Prop} {e:Env} {m:Mem} {lv:LV} {i:Nat} {op:Op} {ty:TypeId} {pos:String} {af:Array Edge} (h:∀ m0,bn P pr ⟨some i,op,ty,pos,af,.none⟩ (da e) m0 lv m0) (hr:cA P pr ro ops (List.zip l et) KE (e.put i lv) m):cA P pr ro ops (List.zip (⟨some i,op,ty,pos,af,.none⟩ :: l) (4 :: et)) KE e m:=⟨lv,h,hr⟩
def Env.look (e:Env):List (Nat × LV)→List (Nat × LV)
 | []=>[]
 | (i,_) :: r=>(i,e i) :: Env.look e r
def Mem.look (m:Mem):List (Nat × LE)→List (Nat × Option LE)
 | []=>[]
 | (i,_) :: r=>(i,m i) :: Mem.look m r
def Kr:List (Nat × LE)→List (Nat × Option LE)
 | []=>[]
 | (i,x) :: r=>(i,some x) :: Kr r
theorem look_eq {e:Env}:∀ {el:List (Nat × LV)},Env.look e el=el→Eu e el
 | [],_=>trivial
 | (i,v) :: r,h=>by
  simp only [Env.look,List.cons.injEq,Prod.mk.injEq,true_and] at h
  exact ⟨h.1,look_eq h.2⟩
theorem yl {m:Mem}:∀ {ml:List (Nat × LE)},Mem.look m ml=Kr ml→me m ml
 | [],_=>trivial
 | (i,v) :: r,h=>by
  simp only [Mem.look,Kr,List.cons.injEq,Prod.mk.injEq,true_and] at h
  exact ⟨h.1,yl h.2⟩
theorem Wk.eq {nJ ml:List (Nat × LE)} {el:List (Nat × LV)} {e:Env} {m:Mem} (he:Env.look e el=el) (hm:Mem.look m ml=Kr ml) (hr:aV (el.map fun p=>(p.1,e p.1)) ml=true) (mE:(nJ.all fun p=>ml.any fun q=>q.1 == p.1)=true):Wk (fun id=>Mem.of nJ id ≠ .none) e m (Env.of el) (Mem.of ml):=Wk.to (eQ (look_eq he)) (yl hm) hr (aX mE)
theorem zS {P:Program} {N:Nat} {ops:Array Oper} {nJ ml:List (Nat × LE)} {el:List (Nat × LV)} {e:Env} {m:Mem} (he:Env.look e el=el:=by exact rfl) (hm:Mem.look m ml=Kr ml:=by exact rfl) (hr:aV (el.map fun p=>(p.1,e p.1)) ml=true:=by exact rfl) (mE:(nJ.all fun p=>ml.any fun q=>q.1 == p.1)=true:=by exact rfl):cH P N (fun id=>Mem.of nJ id ≠ .none) ops [] (fun e m=>Wk (fun id=>Mem.of nJ id ≠ .none) e m (Env.of el) (Mem.of ml)) e m:=s0 (Wk.eq he hm hr mE)
theorem zM {P:Program} {ro:List Nat} {ops:Array Oper} {nJ ml:List (Nat × LE)} {el:List (Nat × LV)} {e:Env} {m:Mem} (he:Env.look e el=el:=by exact rfl) (hm:Mem.look m ml=Kr ml:=by exact rfl) (hr:aV (el.map fun p=>(p.1,e p.1)) ml=true:=by exact rfl) (mE:(nJ.all fun p=>ml.any fun q=>q.1 == p.1)=true:=by exact rfl):cA P (fun id=>Mem.of nJ id ≠ .none) ro ops (List.zip [] []) (fun e m=>Wk (fun id=>Mem.of nJ id ≠ .none) e m (Env.of el) (Mem.of ml)) e m:=m0 (Wk.eq he hm hr mE)
theorem R {α:Type} {a:α}:a=a:=rfl
theorem aQ {nJ:List (Nat × LE)} {e:Env} {m:Mem} (el:List (Nat × LV)) (ml:List (Nat × LE)) (he:Env.look e el=el:=by exact rfl) (hm:Mem.look m ml=Kr ml:=by exact rfl) (hr:aV (el.map fun p=>(p.1,e p.1)) ml=true:=by exact rfl) (mE:(nJ.all fun p=>ml.any fun q=>q.1 == p.1)=true:=by exact rfl):Wk (fun id=>Mem.of nJ id ≠ .none) e m (Env.of el) (Mem.of ml):=Wk.eq he hm hr mE
abbrev fi:List LV:=[.I 0,.I 0,.str (ByteArray.mk #[]),.nil,.nil]
abbrev cC (l:List LV):LE:=.nest 49 5 [(1,54,5),(2,4,1),(3,88,3)] l
theorem aT {α:Type} {a b:Array α} (h:a=b):a.toList=b.toList:=congrArg Array.toList h
theorem oI {α:Type} {a b:α} (h:some a=some b):a=b:=Option.some.inj h
theorem nT {a b n:Nat} (h:n=b) (h2:Nat.ble a b=true):a≤n:=by rw [h]; exact Nat.le_of_ble_eq_true h2
theorem cB {a b:Bool} (h:a=b):LV.bool a=LV.bool b:=congrArg LV.bool h
theorem bl {pr:Nat→Prop} {I:Nat→Env→Mem→Prop} {n:Nat} {Q:Exit→Env→Mem→Prop} {e e':Env} {m m':Mem} (h:I n e' m') (hw:Wk pr e m e' m'):tV pr I (n+1) Q .normal e m:=Mv hw h
section
variable {P:Program} {N:Nat} {pr:Nat→Prop} {ops:Array Oper} {l:List Oper} {KE:Env→Mem→Prop} {e:Env} {m:Mem} {i:Nat} {x:Operand} {ty:TypeId} {pos:String} {af:Array Edge}
theorem br {k:IntKind} {n:Int} (h:da e x=(.int k n)) (hr:cH P N pr ops l KE (e.put i (.int k n)) m):cH P N pr ops (⟨some i,.move x,ty,pos,af,.none⟩ :: l) KE e m:=sN (oM h hr)
theorem bM {b:Bool} (h:da e x=(.bool b)) (hr:cH P N pr ops l KE (e.put i (.bool b)) m):cH P N pr ops (⟨some i,.move x,ty,pos,af,.none⟩ :: l) KE e m:=sN (oM h hr)
theorem IG  (h:da e x=.nil) (hr:cH P N pr ops l KE (e.put i .nil) m):cH P N pr ops (⟨some i,.move x,ty,pos,af,.none⟩ :: l) KE e m:=sN (oM h hr)
theorem fh {k:Nat} {xs:List LV} (h:da e x=(.al k xs)) (hr:cH P N pr ops l KE (e.put i (.al k xs)) m):cH P N pr ops (⟨some i,.move x,ty,pos,af,.none⟩ :: l) KE e m:=sN (oM h hr)
theorem jQ {id n:Nat} (h:da e x=(.arr id n)) (hr:cH P N pr ops l KE (e.put i (.arr id n)) m):cH P N pr ops (⟨some i,.move x,ty,pos,af,.none⟩ :: l) KE e m:=sN (oM h hr)
theorem ig {id o:Nat} (h:da e x=(.ptr id o)) (hr:cH P N pr ops l KE (e.put i (.ptr id o)) m):cH P N pr ops (⟨some i,.move x,ty,pos,af,.none⟩ :: l) KE e m:=sN (oM h hr)
theorem wU {cs:List LV} (h:da e x=(.cV cs)) (hr:cH P N pr ops l KE (e.put i (.cV cs)) m):cH P N pr ops (⟨some i,.move x,ty,pos,af,.none⟩ :: l) KE e m:=sN (oM h hr)
theorem bt {k:IntKind} {n:Int} (h:da e x=(.int k n)) (hr:cH P N pr ops l KE (e.put i (.int k n)) m):cH P N pr ops (⟨some i,.assign x,ty,pos,af,.none⟩ :: l) KE e m:=sN (oA h hr)
theorem ct {b:Bool} (h:da e x=(.bool b)) (hr:cH P N pr ops l KE (e.put i (.bool b)) m):cH P N pr ops (⟨some i,.assign x,ty,pos,af,.none⟩ :: l) KE e m:=sN (oA h hr)
theorem k9  (h:da e x=.nil) (hr:cH P N pr ops l KE (e.put i .nil) m):cH P N pr ops (⟨some i,.assign x,ty,pos,af,.none⟩ :: l) KE e m:=sN (oA h hr)
theorem qB {k:Nat} {xs:List LV} (h:da e x=(.al k xs)) (hr:cH P N pr ops l KE (e.put i (.al k xs)) m):cH P N pr ops (⟨some i,.assign x,ty,pos,af,.none⟩ :: l) KE e m:=sN (oA h hr)
theorem nQ {id n:Nat} (h:da e x=(.arr id n)) (hr:cH P N pr ops l KE (e.put i (.arr id n)) m):cH P N pr ops (⟨some i,.assign x,ty,pos,af,.none⟩ :: l) KE e m:=sN (oA h hr)
theorem T6 {id o:Nat} (h:da e x=(.ptr id o)) (hr:cH P N pr ops l KE (e.put i (.ptr id o)) m):cH P N pr ops (⟨some i,.assign x,ty,pos,af,.none⟩ :: l) KE e m:=sN (oA h hr)
end
section
variable {P:Program} {pr:Nat→Prop} {ro:List Nat} {ops:Array Oper} {l:List Oper} {et:List Nat} {KE:Env→Mem→Prop} {e:Env} {m:Mem} {i:Nat} {x:Operand} {ty:TypeId} {pos:String} {af:Array Edge}
theorem fC {k:IntKind} {n:Int} (h:da e x=(.int k n)) (hr:cA P pr ro ops (List.zip l et) KE (e.put i (.int k n)) m):cA P pr ro ops (List.zip (⟨some i,.move x,ty,pos,af,.none⟩ :: l) (0 :: et)) KE e m:=aD (oM h ⟨rfl,hr⟩)
theorem M6 {k:IntKind} {n:Int} (h:da e x=(.int k n)) (hr:cA P pr ro ops (List.zip l et) KE (e.put i (.int k n)) m):cA P pr ro ops (List.zip (⟨some i,.assign x,ty,pos,af,.none⟩ :: l) (0 :: et)) KE e m:=aD (oA h ⟨rfl,hr⟩)
theorem iQ {b:Bool} (h:da e x=(.bool b)) (hr:cA P pr ro ops (List.zip l et) KE (e.put i (.bool b)) m):cA P pr ro ops (List.zip (⟨some i,.move x,ty,pos,af,.none⟩ :: l) (0 :: et)) KE e m:=aD (oM h ⟨rfl,hr⟩)
theorem L6 {b:Bool} (h:da e x=(.bool b)) (hr:cA P pr ro ops (List.zip l et) KE (e.put i (.bool b)) m):cA P pr ro ops (List.zip (⟨some i,.assign x,ty,pos,af,.none⟩ :: l) (0 :: et)) KE e m:=aD (oA h ⟨rfl,hr⟩)
theorem rV {k:Nat} {xs:List LV} (h:da e x=(.al k xs)) (hr:cA P pr ro ops (List.zip l et) KE (e.put i (.al k xs)) m):cA P pr ro ops (List.zip (⟨some i,.move x,ty,pos,af,.none⟩ :: l) (0 :: et)) KE e m:=aD (oM h ⟨rfl,hr⟩)
theorem PN {id n:Nat} (h:da e x=(.arr id n)) (hr:cA P pr ro ops (List.zip l et) KE (e.put i (.arr id n)) m):cA P pr ro ops (List.zip (⟨some i,.move x,ty,pos,af,.none⟩ :: l) (0 :: et)) KE e m:=aD (oM h ⟨rfl,hr⟩)
theorem WL {id n:Nat} (h:da e x=(.arr id n)) (hr:cA P pr ro ops (List.zip l et) KE (e.put i (.arr id n)) m):cA P pr ro ops (List.zip (⟨some i,.assign x,ty,pos,af,.none⟩ :: l) (0 :: et)) KE e m:=aD (oA h ⟨rfl,hr⟩)
theorem Cd {id o:Nat} (h:da e x=(.ptr id o)) (hr:cA P pr ro ops (List.zip l et) KE (e.put i (.ptr id o)) m):cA P pr ro ops (List.zip (⟨some i,.move x,ty,pos,af,.none⟩ :: l) (0 :: et)) KE e m:=aD (oM h ⟨rfl,hr⟩)
theorem JK {cs:List LV} (h:da e x=(.cV cs)) (hr:cA P pr ro ops (List.zip l et) KE (e.put i (.cV cs)) m):cA P pr ro ops (List.zip (⟨some i,.move x,ty,pos,af,.none⟩ :: l) (0 :: et)) KE e m:=aD (oM h ⟨rfl,hr⟩)
theorem WM {k:Nat} {cs:List LV} (h:da e x=(.fn k cs)) (hr:cA P pr ro ops (List.zip l et) KE (e.put i (.fn k cs)) m):cA P pr ro ops (List.zip (⟨some i,.move x,ty,pos,af,.none⟩ :: l) (0 :: et)) KE e m:=aD (oM h ⟨rfl,hr⟩)
theorem M5 {k:Nat} {cs:List LV} (h:da e x=(.fn k cs)) (hr:cA P pr ro ops (List.zip l et) KE (e.put i (.fn k cs)) m):cA P pr ro ops (List.zip (⟨some i,.assign x,ty,pos,af,.none⟩ :: l) (0 :: et)) KE e m:=aD (oA h ⟨rfl,hr⟩)
end
structure RP (α:Type) where
 f:Nat
 c:List LV
 m:Option α
 hc:LV.bo c=true
instance {α:Type}:Inhabited (RP α):=⟨⟨0,[],.none,rfl⟩⟩
theorem RP.refs {α:Type} (x:RP α):LV.bK x.c=[]:=gl x.hc
theorem Uq {α:Type} {Q:α→Prop}:∀ x ∈ ([]:List α),Q x:=fun x hx=>by cases hx
theorem Nv {α:Type} {Q:α→Prop} {x:α} {xs:List α} (h:Q x) (hr:∀ y ∈ xs,Q y):∀ y ∈ x :: xs,Q y:=fun y hy=>by
 rcases List.mem_cons.1 hy with rfl | hy
 ·exact h
 ·exact hr y hy
end Go.L
namespace Go.L
variable {P:Program} {d:Nat} {t:TypeId}
def qK (P:Program) (d:Nat) (t:TypeId) (v u:Value) (b:Bool):Prop:=∀ w,(Op.equalIn d t v u).run P w=.ok b w
def HI (P:Program) (d:Nat) (xs ys:Array Value) (fs:List Field) (b:Bool):Prop:=∀ w,(Op.eqFields d xs ys fs).run P w=.ok b w
theorem BW {k:IntKind} {a b:Int} (h:P.underlying t=some (.int k)):qK P (d+1) t (.int k a) (.int k b) (a == b):=fun w=>run_equalIn_int w d t k k a b h
theorem Rf {xs ys:Array Value} {b:Bool} (hS:P.underlying t=some (.struct (P.fieldsOf t))) (hp:P.stoodInHeld t=false) (h:HI P d xs ys (P.fieldsOf t).toList b):qK P (d+1) t (.agg xs) (.agg ys) b:=fun w=>(run_equalIn_agg w d t xs ys hS hp).trans (h w)
theorem Re {xs ys:Array Value}:HI P d xs ys [] true:=fun w=>by simp [Op.eqFields]
theorem BV {xs ys : Array Value} {f : Field} {fs : List Field} {v u : Value} {b c : Bool} (hn : (f.name != "_") = true) (hv : ∀ w, (part f.type xs f.offset).run P w = .ok v w) (hu : ∀ w, (part f.type ys f.offset).run P w = .ok u w) (he : qK P d f.type v u b) (hr : HI P d xs ys fs c) : HI P d xs ys (f :: fs) (b && c) := fun w => by
 have SG : f.name ≠ "_" := by simpa using hn
 simp only [Op.eqFields,SG,ne_eq,not_false_eq_true,if_true,Sem.run_bind,hv,hu,Result.andThen_ok,he w,Sem.run_ite]
 cases b with
 | false=>simp
 | true=>simp [hr w]
theorem Rg {xs ys:List LV} {vs us:List Value} {b c:Bool} (hg:P.eqGuardType P.depth t=false) (hx:ew xs=some vs) (hy:ew ys=some us) (h:qK P Op.maxDepth t (.agg vs.toArray) (.agg us.toArray) b) (hc:b=c):oh P t xs ys c:=⟨hg,vs,us,hx,hy,fun w=>hc ▸ h w⟩
end Go.L
namespace Go.L
section
variable {P:Program} {pr:Nat→Prop} {m m':Mem} {lv:LV} {o:Oper} {e:Env} {ev:Operand→LV}
def Env.only (e:Env) (sl:List Nat):Env:=fun i=>if sl.contains i then e i else .eD
theorem cj.Ub (sl:List Nat) (hs:∀ i ∈ sl,Operand.tmp i ∈ o.op.operands) (h:cj P pr o (da (e.only sl)) m lv m'):bn P pr o (da e) m lv m':=by
 intro c a Q bA hm
 refine h c a Q (fun x=>?_) hm
 cases x with
 | tmp t =>
  simp only [da,Env.only]
  by_cases ht:sl.contains t=true
  ·simp only [ht,if_true]; exact bA (.tmp t) (hs t (by simpa using ht))
  ·simp only [ht,if_false,av]; simp [av]
 | const v=>exact ng c v
 | global g=>simp [da,av]
 | func f=>simp only [da,Act.eval,av]; exact ⟨[],rfl,by simp [aC]⟩
theorem bn.Av {id n k:Nat} {el:TypeId} {α:Type} {f:α→LV} {xs:List α} (hp:∀ x ∈ o.op.operands,(ev x).pure=true) (h:bn P (fun _=>False) o ev Mem.none (.arr id n) (Mem.none.put id (.arr el k (xs.map f)))) (hn:n=xs.length) (m0:Mem):bn P pr o ev m0 (.al k (xs.map f)) m0:=by
 intro c a Q bA hm
 let c1:Cx:=⟨c.w,fun _=>.none,fun b=>c.O b ∨ c.own b,c.Q⟩
 have kF:∀ b,¬ c1.own b:=by rintro b ⟨i,be,hb,_⟩; cases hb
 have AH:c.Le c1:=⟨Nat.le_refl _,fun b _ hX=>⟨rfl,fun Aw=>Aw.elim (fun h=>h.elim (fun h=>h.elim (fun h=>hX (.inl (.inl h))) (fun h=>hX (.inr h))) (fun h=>hX (.inl (.inr h)))) (kF b)⟩,fun b n hb=>⟨rfl,hb⟩⟩
 have KB:∀ b,c.X b→b<c.w.heap.size:=fun b hb=>hb.elim (fun h=>h.elim (hm.pw b) (fun h=>(hm.cS b h).2.2)) (hm.k8)
 have iH:b3 c1 Mem.none:=⟨fun i=>by simp [Mem.none,bw,c1],(fun i i' be eF b h1=>by cases h1),fun b hb=>(kF b hb).elim,fun b hb=>KB b (hb.elim (fun h=>.inl (.inl h)) .inr),fun b hb=>⟨fun h=>h.elim (hm.cS b hb).1 (hm.cS b hb).2.1,kF b,(hm.cS b hb).2.2⟩⟩
 have KY:∀ x ∈ o.op.operands,av c1 (ev x) (a.eval x):=fun x hx=>av.mono AH _ _ (fun id bB=>by rw [eX _ (hp x hx)] at bB; cases bB) (bA x hx)
 refine Oper.wp_mono ?_ (h c1 a Q KY iH)
 rintro a' w' ⟨v,c',ha,rfl,hv,iO,kG⟩
 obtain ⟨us,hB,hk,bj,hl,hc,Fm⟩:=gv (e:=el) (k:=k) (xs:=xs.map f) iO hv (by simp [Mem.put]) (by simpa using hn)
 have hold:∀ b,b<c.w.heap.size→c'.w.heap[b]?=c.w.heap[b]?:=fun b hb=>kG.grow.jI b hb (kF b) (.inr fun h=>h)
 have rA:∀ b,c'.own b→c.w.heap.size≤b:=fun b hb=>(kG.grow.own b hb).elim (fun h=>(kF b h).elim) (fun h=>h)
 let c2:Cx:=⟨c'.w,c.B,c.O,c'.Q⟩
 have mn:hD c c2:=fun b n hb=>kG.q b n hb
 have Jj:∀ b,c'.Q b ≠ .none→c.Q b ≠ .none ∨ c.w.heap.size≤b:=fun b hb=>(kG.grow.qn b hb).imp (fun h=>h) (fun h=>h.elim (fun h=>(kF b h).elim) (fun h=>h))
 have oS:c.Le c2:=⟨kG.grow.size,fun b hb hX=>⟨hold b hb,fun Aw=>Aw.elim (fun h=>h.elim (fun h=>hX (.inl (.inl h))) (fun h=>(Jj b h).elim (fun h=>hX (.inl (.inr h))) (fun h=>absurd hb (Nat.not_lt.2 h)))) (fun h=>hX (.inr h))⟩,mn⟩
 have jq:b3 c2 m0:=⟨fun i=>bw.mono oS (fun _=>jB.refl _) (fun be b HV hb=>hold b ((hm.gE i).lt HV hb)) (hm.gE i),hm.inj,hm.jZ,fun b hb=>Nat.lt_of_lt_of_le (hm.pw b hb) kG.grow.size,fun b hb=>⟨fun h=>(iO.cS b hb).1 (by rw [kG.grow.O]; exact .inl h),fun h=>(Jj b hb).elim (fun q=>(hm.cS b q).2.1 h) (fun q=>absurd (hm.k8 h) (Nat.not_lt.2 q)),(iO.cS b hb).2.2⟩⟩
 have K3:c'.Le c2:=by
  refine ⟨Nat.le_refl _,fun b _ hX=>⟨rfl,fun Aw=>hX (.inl ?_)⟩,fun b n hb=>⟨rfl,hb⟩⟩
  rcases Aw with (h | h) | h
  ·exact .inl (by rw [kG.grow.O]; exact .inl h)
  ·exact .inr h
  ·exact .inl (by rw [kG.grow.O]; exact .inr h)
 refine ⟨v,c2,ha,rfl,?_,jq,⟨⟨rfl,kG.grow.os,kG.grow.tape,kG.grow.output,kG.grow.drawn,kG.grow.size,fun b hb _ _=>hold b hb,fun _ b n hb=>(mn b n hb).2,fun b hb=>(Jj b hb).imp (fun h=>h) (fun h=>.inr h),fun b hb=>.inl hb,fun i be _ hb=>⟨be,hb,.refl be⟩⟩,fun _=>jB.refl _,mn⟩⟩
 simp only [av]
 have iN:=aC.mono K3 (xs.map f) us (fun j hj=>by rw [az _ Fm] at hj; cases hj) hl
 rcases bj.2 with ⟨rfl,h0⟩ | ⟨g,cap,cur,rfl,_,sW,kq,_⟩
 ·exact ⟨.none,0,by rw [h0],by omega,fun _=>rfl,Fm,.inl (List.eq_nil_of_length_eq_zero h0)⟩
 ·refine ⟨some ⟨g,0,.none⟩,cap,rfl,kq,by simp,Fm,.inr ⟨g,0,us,rfl,(Array.getElem?_eq_some_iff.1 sW).1,fun hX=>?_,iN,hc,cY bj rfl⟩⟩
  have h1:=rA g ⟨id,_,hB,.inl rfl⟩
  rcases hX with (h | h) | h
  ·exact absurd (hm.pw g h) (Nat.not_lt.2 h1)
  ·exact (iO.cS g h).2.1 ⟨id,_,hB,.inl rfl⟩
  ·exact absurd (hm.k8 h) (Nat.not_lt.2 h1)
end
section
variable {P:Program} {pr:Nat→Prop} {m:Mem} {ev:Operand→LV} {α β:Type} {f:α→LV} {g:β→LV} {d:Option Nat} {x y:Operand} {t ty:TypeId} {pos:String} {af:Array Edge} {gd:Option (Nat × Bool)}
end
end Go.L
namespace Go.L
section
variable {P:Program} {N:Nat} {pr:Nat→Prop} {ops:Array Oper} {e:Env} {m m':Mem} {ev:Operand→LV} {o:Oper} {lv:LV} {l:List Oper} {KE:Env→Mem→Prop} {T:Bool}
theorem Sub.IL {e k:Nat} {xs:List LV}:Sub (.aJ false e k xs) (.al k xs):=fun c v h=>by simpa only [av] using h
theorem Sub.Ii {e k:Nat} {xs:List LV}:Sub (.al k xs) (.aJ false e k xs):=fun c v h=>by simpa only [av] using h
theorem Sub.TV {e k:Nat} (hk:Nat.ble 1 k=true):Sub .nil (.aJ T e k []):=fun c v h=>by
 have hk:=Nat.le_of_ble_eq_true hk
 simp only [av] at h
 subst h
 cases T
 ·simp only [av]; exact ⟨.none,0,by rfl,Nat.le_refl _,fun _=>by rfl,by rfl,.inl trivial⟩
 ·simp only [av]; exact ⟨hk,by rfl,[],World.ownsRow_nil c.w 0 e k,by simp [aC],by simp,fun b hb=>by simp [Value.ownBlock] at hb⟩
theorem p6 {α:Type} {f g:α→LV} (h:∀ z,Sub (f z) (g z)) {c:Cx}:∀ {xs:List α} {vs:List Value},aC c (xs.map f) vs→aC c (xs.map g) vs
 | [],vs,hr=>by simpa only [List.map_nil,aC] using hr
 | x :: xs,vs,hr=>by
  simp only [List.map_cons,aC] at hr ⊢
  obtain ⟨v,fI,h0,h1,h2⟩:=hr
  exact ⟨v,fI,h0,h x c v h1,p6 h h2⟩
theorem Sub.FX {α:Type} {f g:α→LV} {k:Nat} (h:∀ z,Sub (f z) (g z)) (hg:∀ z,(g z).pure=true) {xs:List α}:Sub (.al k (xs.map f)) (.al k (xs.map g)):=fun c v hr=>by
 simp only [av,List.length_map] at hr ⊢
 obtain ⟨a,cap,h1,h2,h3,h4,h5⟩:=hr
 refine ⟨a,cap,h1,h2,h3,cK.2 fun y hy=>?_,h5.imp (fun h=>by simpa using h) fun ⟨b,off,vs,q1,q2,q3,q4,q5⟩=>⟨b,off,vs,q1,q2,q3,p6 h q4,q5⟩⟩
 obtain ⟨z,_,rfl⟩:=List.mem_map.1 hy; exact hg z
theorem vG {e k:Nat} (hk:Nat.ble 1 k=true) {xs ys:List LV} (h:fo xs ys):fo (.nil :: xs) (.aJ T e k [] :: ys):=⟨Sub.TV hk,h⟩
theorem D4 {c:Cx} {e k:Nat} {xs:List LV} {v:Value} (h:av c (.aJ T e k xs) v):∃ a cap,v=.slice a xs.length cap:=by
 cases T
 ·simp only [av] at h; obtain ⟨a,cap,h,_⟩:=h; exact ⟨a,cap,h⟩
 ·simp only [av] at h; obtain ⟨_,_,_,h,_⟩:=h; exact dC h
theorem MB {c:Cx} {e k:Nat} {xs:List LV} {v:Value} (h:av c (.aJ T e k xs) v) {i:Nat} {y:LV} (hy:xs[i]?=some y) (hs:y.cells.all LV.scalar=true) :
  ∃ b off cap,v=.slice (some ⟨b,off,.none⟩) xs.length cap∧av c (.fS T y.cells) (.pointer (some ⟨b,off+i * k,.none⟩)):=by
 have ec:i<xs.length:=(List.getElem?_eq_some_iff.1 hy).1
 cases T
 ·simp only [av] at h
  obtain ⟨a,cap,he,mQ,hn,hp,hr⟩:=h
  rcases hr with rfl | ⟨b,off,vs,rfl,hb,hX,hl,hc,gi⟩
  ·simp at ec
  ·obtain ⟨u,Jl,Lw⟩:=hl.get hy
   obtain ⟨f1,f2⟩:=fY (k:=k) (fun v hv=>(hc v hv).1) Jl
   rw [f1] at gi
   have xW:=iA gi
   rw [f2] at xW
   obtain ⟨wv,FB⟩:=Lw.cellsOf hs
   refine ⟨b,off,cap,he,?_⟩
   simp only [av]
   exact ⟨b,_,u.cells.toList,rfl,hb,hX,wv,fun y hy=>FB y (by simpa using hy),xW⟩
 ·simp only [av] at h
  obtain ⟨hk,hp,vs,ho,hl,hc,hq⟩:=h
  rcases ho.2 with ⟨_,h0⟩ | ⟨g,cap,cur,hv,_⟩
  ·omega
  ·obtain ⟨u,Jl,Lw⟩:=hl.get hy
   obtain ⟨f1,f2⟩:=fY (k:=k) (fun v hv=>(hc v hv).1) Jl
   have gi:=cY ho (b:=g) (by rw [hv]; rfl)
   rw [f1] at gi
   have xW:=iA gi
   rw [f2] at xW
   obtain ⟨wv,FB⟩:=Lw.cellsOf hs
   refine ⟨g,0,cap,hv,?_⟩
   simp only [av]
   exact ⟨g,_,u.cells.toList,_,rfl,hq g (by rw [hv]; rfl),wv,fun y hy=>FB y (by simpa using hy),xW⟩
theorem xe {c:Cx} {cs:List LV} {v:Value} (h:av c (.fS T cs) v):∃ b off vs,v=.pointer (some ⟨b,off,.none⟩)∧aC c cs vs∧c.w.rangeAt b off vs∧∀ n,av c (.fS T (cs.drop n)) (.pointer (some ⟨b,off+n,.none⟩)):=by
 cases T
 ·simp only [av] at h
  obtain ⟨b,off,vs,he,hb,hX,hl,h1,gi⟩:=h
  exact ⟨b,off,vs,he,hl,gi,fun n=>by simp only [av]; exact ⟨b,off+n,vs.drop n,rfl,hb,hX,hl.drop n,fun y hy=>h1 y (List.mem_of_mem_drop hy),fu gi n⟩⟩
 ·simp only [av] at h
  obtain ⟨b,off,vs,q,he,hq,hl,h1,gi⟩:=h
  exact ⟨b,off,vs,he,hl,gi,fun n=>by simp only [av]; exact ⟨b,off+n,vs.drop n,q,rfl,hq,hl.drop n,fun y hy=>h1 y (List.mem_of_mem_drop hy),fu gi n⟩⟩
variable {d:Option Nat} {x y:Operand} {t ty:TypeId} {pos:String} {af:Array Edge} {g:Option (Nat × Bool)} {el kk e0:Nat}
theorem tu {α:Type} {f:α→LV} {xs:List α} (he:telem P t=some el) (hx:ev x=.aJ T e0 kk (xs.map f)):bn P pr ⟨d,.call ⟨.builtin .len,#[x],#[t]⟩,ty,pos,af,g⟩ ev m (.int .i64 xs.length) m:=by
 have hu:=fp he
 refine bn.value fun c a bA hM=>?_
 have hv:=bA x (by simp [Op.operands,Call.operands])
 rw [hx] at hv
 obtain ⟨ad,cp,hv⟩:=D4 hv
 exact ⟨.int .i64 xs.length,c,by simp [execOp,resolve,invoke,builtin,Builtin.len_,hv,run_underlying hu,goInt],by simp [av],hM,Step.refl pr c⟩
theorem iT {α:Type} {f:α→LV} {xs:List α} {z:α} {k:IntKind} {u:Int} {cs:List LV} (he:telem P t=some el) (hk:tok P el=true) (hs:tsize P el=kk) (hx:ev x=.aJ T e0 kk (xs.map f)) (hy:ev y=.int k u) (gD:qm kk f) (hz:idx xs u=some z) (hc:(f z).cells=cs):bn P pr ⟨d,.indexAddr t x y,ty,pos,af,g⟩ ev m (.fS T cs) m:=by
 subst hc
 have hu:=fp he
 obtain ⟨h0,h1⟩:=dB hz
 refine bn.value fun c a bA hM=>?_
 have e1:=bA x (by simp [Op.operands])
 have e2:=bA y (by simp [Op.operands])
 rw [hx] at e1; rw [hy] at e2
 simp only [av] at e2
 obtain ⟨b,off,cap,hv,hr⟩:=MB e1 (i:=u.toNat) (y:=f z) (by simp [h1]) (gD z).2.2
 have ec:u.toNat<xs.length:=(List.getElem?_eq_some_iff.1 h1).1
 have wj:u<(xs.length:Int):=by omega
 refine ⟨.pointer (some ⟨b,off+u.toNat * kk,.none⟩),c,?_,hr,hM,Step.refl pr c⟩
 unfold tok at hk
 cases sY:P.info? el with
 | none=>simp [sY] at hk
 | some ie =>
  have mn:kk=ie.size:=by rw [← hs]; simp [tsize,sY]
  simp [execOp,hv,e2,Instr.indexAt,asIntOf,run_underlying hu,h0,wj,sizeOf,typeInfo,sY,Addr.add_mid,mn]
theorem o4 {z:LV} {cs:List LV} (hx:ev x=.fS T (z :: cs)) (ht:tok P t=true) (ha:tagg P t=false):bn P pr ⟨d,.load t x,ty,pos,af,g⟩ ev m z m:=by
 refine bn.value fun c a bA hM=>?_
 have e1:=bA x (by simp [Op.operands])
 rw [hx] at e1
 obtain ⟨b,off,vs,hv,hl,gi,_⟩:=xe e1
 obtain ⟨lv,rfl,hr⟩:=hY (P:=P) (t:=t) (cs:=z :: cs) (K:=fun l=>l=z) ⟨ht,by rw [if_neg (by simp [ha])]⟩
 obtain ⟨v,ei,fH⟩:=hr c b off vs hl gi
 exact ⟨v,c,by simp [execOp,hv,ei],fH,hM,Step.refl pr c⟩
theorem nN {cs dj:List LV} {n:Nat} (hx:ev x=.fS T cs) (ht:tok P t=true) (ha:tagg P t=true) (hs:tsize P t=n) (hl:Nat.ble n cs.length=true) (hc:cs.take n=dj):bn P pr ⟨d,.load t x,ty,pos,af,g⟩ ev m (.agg dj) m:=by
 subst hc; subst hs
 refine bn.value fun c a bA hM=>?_
 have e1:=bA x (by simp [Op.operands])
 rw [hx] at e1
 obtain ⟨b,off,vs,hv,iN,gi,_⟩:=xe e1
 obtain ⟨lv,rfl,hr⟩:=hY (P:=P) (t:=t) (cs:=cs) (K:=fun l=>l=.agg (cs.take (tsize P t))) ⟨ht,by rw [if_pos ha]; exact ⟨Nat.le_of_ble_eq_true hl,rfl⟩⟩
 obtain ⟨v,ei,fH⟩:=hr c b off vs iN gi
 exact ⟨v,c,by simp [execOp,hv,ei],fH,hM,Step.refl pr c⟩
theorem tt {cs dj:List LV} {n off ft k:Nat} (hf:tfield P t n=some (off,ft)) (hk:tok P ft=true) (hs:tsize P ft=k+1) (hx:ev x=.fS T cs) (hl:Nat.ble off cs.length=true) (hi:cs.drop off=dj):bn P pr ⟨d,.fieldAddr t x n,ty,pos,af,g⟩ ev m (.fS T dj) m:=by
  subst hi
  refine bn.value fun c a bA hM=>?_
  have e1:=bA x (by simp [Op.operands])
  rw [hx] at e1
  obtain ⟨b,q,vs,hv,iN,gi,hd⟩:=xe e1
  obtain ⟨fs,fd,hu,B3,rfl,rfl⟩:∃ fs fd,P.underlying t=some (.struct fs)∧fs[n]?=some fd∧fd.offset=off∧fd.type=ft:=by
    unfold tfield at hf
    split at hf
    · rename_i fs hu
      cases KZ:fs[n]? with
      | none=>simp [KZ] at hf
      | some fd=>simp [KZ] at hf; exact ⟨fs,fd,hu,KZ,hf.1,hf.2⟩
    · cases hf
  refine ⟨.pointer (some ⟨b,q+fd.offset,.none⟩),c,?_,hd _,hM,Step.refl pr c⟩
  unfold tok at hk
  cases sY:P.info? fd.type with
  | none=>simp [sY] at hk
  | some i =>
    have NU : i.size ≠ 0 := by have : tsize P fd.type = i.size := by simp [tsize, sY]
                               omega
    simp [execOp,hv,Instr.fieldAt,run_underlying hu,B3,Instr.sureAddr,fieldPlace,sizeOf,typeInfo,sY,NU,Addr.add_mid]
theorem F7 {α:Type} {f:α→LV} {ys r:List α} {i id:Nat} {K:LV→Mem→Prop} {ro:List Nat} (hi:100+i=id) (he:telem P t=some el) (hr:gz P el=true) (hs:tsize P el=kk) (hx:ev x=.nil) (hy:ev y=.aJ T e0 kk (ys.map f)) (hl:app [] ys=some r) (hf:m id=.none) (h:K (.arr id r.length) (m.put id (.arr el kk (r.map f)))):LOp P pr ro ⟨some i,.call ⟨.builtin .append,#[x,y],#[t,t]⟩,ty,pos,af,g⟩ ev m K:=by
 obtain ⟨h0,rfl⟩:=BM hl
 subst hs; subst hi
 rw [LOp_append,he,hy,hx]
 refine ⟨rfl,hr,rfl,?_⟩
 simp only [qM]
 exact ⟨hf,by simpa using h0,by simpa using h⟩
end
theorem b3.No {T:Bool} {c:Cx} {m:Mem} {id e k:Nat} {xs:List LV} (h:b3 c m) (bB:m id=some (.arr e k xs)) (pH:∀ i le,i ≠ id→m i=some le→le.k6 id=true) :
  ∃ c':Cx,c'.w=c.w∧c'.O=c.O∧b3 c' (m.del id)∧(∀ x v,x.a8 id=true→av c x v→av c' x v)∧(∀ b,c'.own b→c.own b)∧(∀ v,av c (.arr id xs.length) v→av c' (.aJ T e k xs) v)∧(∀ i,i ≠ id→c'.B i=c.B i)∧(∀ b n,c.Q b=some n→c'.Q b=some n)∧(∀ b,c'.Q b ≠ .none→c.Q b ≠ .none ∨ c.own b):=by
 obtain ⟨u,us,hB,hk,bj,hl,hc,hp⟩:=kf h bB
 obtain ⟨c1,hw,hO,iH,hV,hU,hX,HQ⟩:=h.del id pH
 have hle:c.Le c1:=Cx.sub_le hw hO hU
 have iN:=aC.mono hle xs us (fun j hj=>by rw [az xs hp] at hj; cases hj) hl
 have Rx:∀ v,av c (.arr id xs.length) v→v=u:=fun v hv=>by
  simp only [av] at hv
  obtain ⟨_,u',k',lG,lE,iF,_,hv⟩:=hv
  rw [hB] at iF; cases iF
  exact hv rfl
 cases T
 ·refine ⟨c1,hw,hO.1,iH,hV,hU,fun v hv=>?_,HQ,fun b n hb=>by rw [hO.2]; exact hb,fun b hb=>.inl (by rw [hO.2] at hb; exact hb)⟩
  rw [Rx v hv]
  simp only [av]
  rcases bj.2 with ⟨rfl,h0⟩ | ⟨g,cap,cur,rfl,_,hg,kq,_⟩
  ·exact ⟨.none,0,by rw [h0],by omega,fun _=>rfl,hp,.inl (List.eq_nil_of_length_eq_zero h0)⟩
  ·refine ⟨some ⟨g,0,.none⟩,cap,rfl,kq,by simp,hp,.inr ⟨g,0,us,rfl,by rw [hw]; exact (Array.getElem?_eq_some_iff.1 hg).1,hX g _ hB (.inl rfl),iN,hc,?_⟩⟩
   rw [hw]; exact cY bj rfl
 ·let c2:Cx:=⟨c1.w,c1.B,c1.O,fun b=>if u.ownBlock=some b then some (xs.length * k) else c1.Q b⟩
  have hQ:∀ b,u.ownBlock=some b→c.Q b=.none:=fun b hb=>by
   cases hq:c.Q b with
   | none=>rfl
   | some n=>exact absurd ⟨id,_,hB,.inl hb⟩ (h.cS b (by rw [hq]; simp)).2.1
  have MX:∀ b n,c1.Q b=some n→c2.Q b=some n:=fun b n hb=>by
   simp only [c2]
   rw [if_neg (fun FC=>by rw [hO.2,hQ b FC] at hb; cases hb)]; exact hb
  have Wx:∀ b,u.ownBlock=some b→¬ c1.X b:=fun b hb=>hX b _ hB (.inl hb)
  -- W3 is read at all is not read there
  have s9:∀ b,c2.own b→c1.own b:=fun b hb=>hb
  have hblk:∀ b,u.ownBlock=some b→c.own b:=fun b hb=>⟨id,_,hB,.inl hb⟩
  have oS:c.Le c2:=⟨by rw [show c2.w=c1.w from rfl,hw]; exact Nat.le_refl _,fun b hb hx=>⟨by rw [show c2.w=c1.w from rfl,hw],fun ov=>by
    rcases ov with (h' | h') | h'
    ·exact hx (.inl (.inl (by rw [← hO.1]; exact h')))
    ·simp only [c2] at h'
     by_cases FC:u.ownBlock=some b
     ·exact hx (.inr (hblk b FC))
     ·rw [if_neg FC,hO.2] at h'; exact hx (.inl (.inr h'))
    ·exact hx (.inr (hU b h'))⟩,fun b n hb=>⟨by rw [show c2.w=c1.w from rfl,hw],MX b n (by rw [hO.2]; exact hb)⟩⟩
  have I7:∀ i,i ≠ id→c2.B i=c.B i:=fun i hi=>HQ i hi
  have wc:∀ x:LV,x.a8 id=true→∀ j,x.a8 j=false→jB (c.B j) (c2.B j):=fun x hx j hj=>by
   have:j ≠ id:=fun he=>by rw [he,hx] at hj; cases hj
   rw [I7 j this]; exact jB.refl _
  refine ⟨c2,hw,hO.1,⟨fun i=>?_,iH.inj,fun b ho=>by have:=iH.jZ b ho; exact this,iH.pw,fun b hb=>?_⟩,fun x v hx hv=>av.mono oS x v (wc x hx) hv,hU,fun v hv=>?_,I7,fun b n hb=>MX b n (by rw [hO.2]; exact hb),fun b hb=>?_⟩
  ·by_cases hi:i=id
   ·subst hi
    have:=iH.gE i
    simp only [Mem.del,if_true] at this ⊢
    simpa only [bw] using this
   ·have he:=h.gE i
    have e1:m.del id i=m i:=by simp [Mem.del,hi]
    rw [e1,I7 i hi]
    cases xV:m i with
    | none=>rw [xV] at he; simpa only [bw] using he
    | some le =>
     rw [xV] at he
     have Ru:=pH i le hi xV
     cases le with
     | box cs =>
      simp only [bw] at he ⊢
      obtain ⟨b,vs,e',q1,q2,q3,q4⟩:=he
      exact ⟨b,vs,e',q1,by rw [show c2.w=c1.w from rfl,hw]; exact q2,aC.mono oS cs vs (fun j hj=>by
       have:j ≠ id:=fun he=>by rw [he] at hj; simp only [LE.k6] at Ru; rw [Ru] at hj; cases hj
       rw [I7 j this]; exact jB.refl _) q3,q4⟩
     | arr e' k' ug =>
      simp only [bw] at he ⊢
      obtain ⟨u',vs,q1,q0,q2,q3,q4,q5⟩:=he
      exact ⟨u',vs,q1,q0,by rw [show c2.w=c1.w from rfl,hw]; exact q2,aC.mono oS ug vs (fun j hj=>by rw [az ug q5] at hj; cases hj) q3,q4,q5⟩
     | nest e' k' os ug =>
      simp only [bw] at he ⊢
      obtain ⟨u',vs,bs,q1,q0,q2,q3,q4⟩:=he
      exact ⟨u',vs,bs,q1,q0,by rw [show c2.w=c1.w from rfl,hw]; exact q2,q3.mono oS (fun b _=>by rw [show c2.w=c1.w from rfl,hw]),q4⟩
     | c6 e' k' os ug i1 o1 id2 n2 =>
      simp only [bw] at he ⊢
      obtain ⟨u',vs,bs,q1,q0,q2,q3,⟨ws,v,g1,g2,g3⟩,q4⟩:=he
      exact ⟨u',vs,bs,q1,q0,by rw [show c2.w=c1.w from rfl,hw]; exact q2,q3.mono oS (fun b _=>by rw [show c2.w=c1.w from rfl,hw]),⟨ws,v,g1,by rw [show c2.w=c1.w from rfl,hw]; exact g2,av.mono oS (.arr id2 n2) v (fun j hj=>by
       have:j ≠ id:=fun he=>by rw [he] at hj; simp only [LE.k6] at Ru; simp only [LV.a8] at hj; rw [Ru] at hj; cases hj
       rw [I7 j this]; exact jB.refl _) g3⟩,q4⟩
     | dead=>simpa only [bw] using he
     | map kt vt es =>
      simp only [bw] at he ⊢
      obtain ⟨b,jF,ck,q1,q2,q3,q4,q5,q6,q7⟩:=he
      exact ⟨b,jF,ck,q1,by rw [show c2.w=c1.w from rfl,hw]; exact q2,aC.mono oS _ _ (fun j hj=>by rw [az _ q5] at hj; cases hj) q3,aC.mono oS _ _ (fun j hj=>by rw [az _ q6] at hj; cases hj) q4,q5,q6,q7⟩
  ·by_cases FC:u.ownBlock=some b
   ·have hn:=Wx b FC
    exact ⟨fun ho=>hn (.inl (.inl ho)),fun ho=>hn (.inr ho),by rw [show c2.w=c1.w from rfl,hw]; exact (h.gE id).lt hB (.inl FC)⟩
   ·simp only [c2] at hb
    rw [if_neg FC] at hb
    exact iH.cS b hb
  ·rw [Rx v hv]
   simp only [av]
   refine ⟨hk,hp,us,by rw [show c2.w=c1.w from rfl,hw]; exact bj,aC.mono oS xs us (fun j hj=>by rw [az xs hp] at hj; cases hj) hl,hc,fun b hb=>?_⟩
   simp only [c2,if_pos hb]
  ·simp only [c2] at hb
   by_cases FC:u.ownBlock=some b
   ·exact .inr (hblk b FC)
   ·rw [if_neg FC,hO.2] at hb; exact .inl hb
theorem oy.rep {id n:Nat} {tv:LV} {c c':Cx} (hV:∀ x v,x.a8 id=true→av c x v→av c' x v) (hR:∀ v,av c (.arr id n) v→av c' tv v):∀ {el fB:List (Nat × LV)},oy id n tv el fB→∀ i v,av c (Env.of el i) v→av c' (Env.of fB i) v
 | [],[],_,i,v,h=>by simp [Env.of,av]
 | p :: r,q :: s,h,i,v,hr=>by
  obtain ⟨⟨h1,h2⟩,h3⟩:=h
  obtain ⟨pi,pv⟩:=p
  obtain ⟨qi,qv⟩:=q
  simp only at h1 h2
  subst h1
  simp only [Env.of] at hr ⊢
  by_cases hi:i=qi
  ·simp only [hi,if_true] at hr ⊢
   rcases h2 with ⟨rfl,h2⟩ | ⟨rfl,rfl⟩
   ·exact hV _ _ h2 hr
   ·exact hR _ hr
  ·simp only [hi,if_false] at hr ⊢
   exact oy.rep hV hR h3 i v hr
theorem Wk.Ky {pr:Nat→Prop} {α:Type} {f:α→LV} {el fB:List (Nat × LV)} {ml:List (Nat × LE)} (T:Bool) (id e0 k0:Nat) (xs:List α) (bB:Mem.of ml id=some (.arr e0 k0 (xs.map f))) (kp:sL id ml=true) (mE:¬ pr id) (h:oy id xs.length (.aJ T e0 k0 (xs.map f)) el fB) :
  Wk pr (Env.of el) (Mem.of ml) (Env.of fB) (Mem.of (ml.filter fun q=>q.1 != id)):=by
 intro N c a bY
 rw [← Mem.A4]
 obtain ⟨c',hw,hO,iO,hV,bj,hR,hB,SM,MX⟩:=bY.mem.No (T:=T) bB (mP kp)
 refine ⟨c',hw,⟨fun i=>h.rep hV (by simpa using hR) i _ (bY.env i),iO,bY.size,bY.defers⟩,?_⟩
 exact ⟨hO,by rw [hw],by rw [hw],by rw [hw],by rw [hw]; exact Nat.le_refl _,by rw [hw]; exact Nat.le_refl _,fun b _ _ _=>by rw [hw],fun _=>SM,fun b hb=>(MX b hb).imp (fun h=>h) .inl,fun b ho=>.inl (bj b ho),fun i be AO hb=>⟨be,by rw [hB i (fun h=>mE (h ▸ AO))]; exact hb,.refl be⟩⟩
def ql (id n:Nat) (tv:LV):List LV→List LV→Prop
 | [],[]=>True
 | x :: xs,y :: ys=>((y=x∧x.a8 id=true) ∨ (x=.arr id n∧y=tv))∧ql id n tv xs ys
 | _,_=>False
theorem Nt {id n:Nat} {tv:LV}:ql id n tv [] []:=trivial
theorem I4 {id n:Nat} {tv x:LV} {xs ys:List LV} (h0:x.a8 id=true) (h:ql id n tv xs ys):ql id n tv (x :: xs) (x :: ys):=⟨.inl ⟨rfl,h0⟩,h⟩
theorem Nu {id n:Nat} {tv:LV} {xs ys:List LV} (h:ql id n tv xs ys):ql id n tv (.arr id n :: xs) (tv :: ys):=⟨.inr ⟨rfl,rfl⟩,h⟩
theorem ql.rep {id n:Nat} {tv:LV} {c c':Cx} (hV:∀ x v,x.a8 id=true→av c x v→av c' x v) (hR:∀ v,av c (.arr id n) v→av c' tv v):∀ {xs ys:List LV},ql id n tv xs ys→∀ vs,aC c xs vs→aC c' ys vs
 | [],[],_,vs,h=>by simpa only [aC] using h
 | x :: xs,y :: ys,h,vs,hr=>by
  simp only [aC] at hr ⊢
  obtain ⟨v,fI,rfl,h1,h2⟩:=hr
  refine ⟨v,fI,rfl,?_,ql.rep hV hR h.2 fI h2⟩
  rcases h.1 with ⟨rfl,h0⟩ | ⟨rfl,rfl⟩
  ·exact hV _ _ h0 h1
  ·exact hR _ h1
theorem ql.len {id n:Nat} {tv:LV}:∀ {xs ys:List LV},ql id n tv xs ys→ys.length=xs.length
 | [],[],_=>rfl
 | x :: xs,y :: ys,h=>by simp [ql.len h.2]
theorem Wk.sM {pr:Nat→Prop} {el:List (Nat × LV)} {ml:List (Nat × LE)} {α:Type} {f:α→LV} (T:Bool) (id e k:Nat) (xs:List α) (kK:Nat) {cs dj:List LV} (bB:Mem.of ml id=some (.arr e k (xs.map f))) (hb:Mem.of ml kK=some (.box cs)) (eA:(kK == id)=false) (hcs:ql id xs.length (.aJ T e k (xs.map f)) cs dj) (kp:EW id kK ml=true) (AF:(el.all fun p=>p.2.a8 id)=true) (mE:¬ pr id) :
  Wk pr (Env.of el) (Mem.of ml) (Env.of el) (((Mem.of ml).del id).put kK (.box dj)):=by
 intro N c a bY
 have eA:kK ≠ id:=by simpa using eA
 obtain ⟨b,vs,e1,zU,hh,hl,h1⟩:=jj bY.mem hb
 have iH:=bY.mem.re (dj:=cs.map fun _=>LV.eD) hb zU hh (tT cs vs hl) h1 (by simp)
 obtain ⟨c',hw,hO,iO,hV,bj,hR,hB,SM,MX⟩:=iH.No (T:=T) (id:=id) (e:=e) (k:=k) (xs:=xs.map f) (by simp [Mem.put,Ne.symm eA,bB]) (by
  intro i ds hi hd
  by_cases C8:i=kK
  ·subst C8
   simp only [Mem.put,if_true,Option.some.injEq] at hd
   rw [← hd]; exact o2 cs
  ·simp only [Mem.put,C8,if_false] at hd
   have:=List.all_eq_true.1 kp _ (fq hd)
   cases ds with
   | box cs=>simpa [hi,C8,LE.k6] using this
   | c6 _ _ _ _ _ _ _ _=>simpa [hi,C8,LE.k6] using this
   | _=>rfl)
 have B5:aC c' dj vs:=hcs.rep hV (by simpa using hR) vs hl
 have jq:=iO.re (kK:=kK) (cs:=cs.map fun _=>LV.eD) (dj:=dj) (by simp [Mem.del,Mem.put,eA]) (by rw [hB kK eA]; simpa using zU) (by rw [hw]; exact hh) B5 h1 (by simpa using hcs.len)
 have gI:(((Mem.of ml).put kK (.box (cs.map fun _=>LV.eD))).del id).put kK (.box dj)=((Mem.of ml).del id).put kK (.box dj):=by
  funext i
  simp only [Mem.put,Mem.del]
  by_cases C8:i=kK <;> simp [C8]
 rw [gI] at jq
 refine ⟨c',hw,⟨fun i=>hV _ _ ?_ (bY.env i),jq,bY.size,bY.defers⟩,?_⟩
 ·clear bY
  induction el with
  | nil=>simp [Env.of,LV.a8]
  | cons p el ih =>
   simp only [List.all_cons,Bool.and_eq_true] at AF
   simp only [Env.of]
   split
   ·exact AF.1
   ·exact ih AF.2
 ·exact ⟨hO,by rw [hw],by rw [hw],by rw [hw],by rw [hw]; exact Nat.le_refl _,by rw [hw]; exact Nat.le_refl _,fun b _ _ _=>by rw [hw],fun _=>SM,fun b hb=>(MX b hb).imp (fun h=>h) .inl,fun b ho=>.inl (bj b ho),fun i be AO hb=>⟨be,by rw [hB i (fun h=>mE (h ▸ AO))]; exact hb,.refl be⟩⟩
theorem bn.Ky {P:Program} {pr:Nat→Prop} {o:Oper} {ev:Operand→LV} {T:Bool} {id n k:Nat} {el:TypeId} {α:Type} {f:α→LV} {xs:List α} (hp:∀ x ∈ o.op.operands,(ev x).pure=true) (h:bn P (fun _=>False) o ev Mem.none (.arr id n) (Mem.none.put id (.arr el k (xs.map f)))) (hn:n=xs.length) (m0:Mem):bn P pr o ev m0 (.aJ T el k (xs.map f)) m0:=by
 cases T
 ·intro c a Q bA hm
  refine Oper.wp_mono ?_ (bn.Av (pr:=pr) hp h hn m0 c a Q bA hm)
  rintro a' w' ⟨v,c',h1,h2,h3,h4⟩
  exact ⟨v,c',h1,h2,Sub.Ii c' v h3,h4⟩
 intro c a Q bA hm
 let c1:Cx:=⟨c.w,fun _=>.none,fun b=>c.O b ∨ c.own b,c.Q⟩
 have kF:∀ b,¬ c1.own b:=by rintro b ⟨i,be,hb,_⟩; cases hb
 have AH:c.Le c1:=⟨Nat.le_refl _,fun b _ hX=>⟨rfl,fun Aw=>Aw.elim (fun h=>h.elim (fun h=>h.elim (fun h=>hX (.inl (.inl h))) (fun h=>hX (.inr h))) (fun h=>hX (.inl (.inr h)))) (kF b)⟩,fun b n hb=>⟨rfl,hb⟩⟩
 have KB:∀ b,c.X b→b<c.w.heap.size:=fun b hb=>hb.elim (fun h=>h.elim (hm.pw b) (fun h=>(hm.cS b h).2.2)) (hm.k8)
 have iH:b3 c1 Mem.none:=⟨fun i=>by simp [Mem.none,bw,c1],(fun i i' be eF b h1=>by cases h1),fun b hb=>(kF b hb).elim,fun b hb=>KB b (hb.elim (fun h=>.inl (.inl h)) .inr),fun b hb=>⟨fun h=>h.elim (hm.cS b hb).1 (hm.cS b hb).2.1,kF b,(hm.cS b hb).2.2⟩⟩
 have KY:∀ x ∈ o.op.operands,av c1 (ev x) (a.eval x):=fun x hx=>av.mono AH _ _ (fun id bB=>by rw [eX _ (hp x hx)] at bB; cases bB) (bA x hx)
 refine Oper.wp_mono ?_ (h c1 a Q KY iH)
 rintro a' w' ⟨v,c',ha,rfl,hv,iO,kG⟩
 obtain ⟨us,hB,hk,bj,hl,hc,Fm⟩:=gv (e:=el) (k:=k) (xs:=xs.map f) iO hv (by simp [Mem.put]) (by simpa using hn)
 have hold:∀ b,b<c.w.heap.size→c'.w.heap[b]?=c.w.heap[b]?:=fun b hb=>kG.grow.jI b hb (kF b) (.inr fun h=>h)
 have rA:∀ b,c'.own b→c.w.heap.size≤b:=fun b hb=>(kG.grow.own b hb).elim (fun h=>(kF b h).elim) (fun h=>h)
 have Jn:∀ b,v.ownBlock=some b→c.w.heap.size≤b:=fun b hb=>rA b ⟨id,_,hB,.inl hb⟩
 let c2:Cx:=⟨c'.w,c.B,c.O,fun b=>if v.ownBlock=some b then some (xs.length * k) else c'.Q b⟩
 have mn:hD c c2:=fun b n hb=>by
  have hn:=(hm.cS b (by rw [hb]; simp)).2.2
  refine ⟨(kG.q b n hb).1,?_⟩
  simp only [c2]
  rw [if_neg (fun h=>by have:=Jn b h; omega)]
  exact (kG.q b n hb).2
 have Jj:∀ b,c2.Q b ≠ .none→c.Q b ≠ .none ∨ c.w.heap.size≤b:=fun b hb=>by
  by_cases Jm:v.ownBlock=some b
  ·exact .inr (Jn b Jm)
  ·simp only [c2,Jm,if_false] at hb
   exact (kG.grow.qn b hb).imp (fun h=>h) (fun h=>h.elim (fun h=>(kF b h).elim) (fun h=>h))
 have oS:c.Le c2:=⟨kG.grow.size,fun b hb hX=>⟨hold b hb,fun Aw=>Aw.elim (fun h=>h.elim (fun h=>hX (.inl (.inl h))) (fun h=>(Jj b h).elim (fun h=>hX (.inl (.inr h))) (fun h=>absurd hb (Nat.not_lt.2 h)))) (fun h=>hX (.inr h))⟩,mn⟩
 have K4:∀ b,c2.Q b ≠ .none→b<c'.w.heap.size:=fun b hb=>by
  by_cases Jm:v.ownBlock=some b
  ·exact (iO.gE id).lt hB (.inl Jm)
  ·simp only [c2,Jm,if_false] at hb; exact (iO.cS b hb).2.2
 have jq:b3 c2 m0:=⟨fun i=>bw.mono oS (fun _=>jB.refl _) (fun be b HV hb=>hold b ((hm.gE i).lt HV hb)) (hm.gE i),hm.inj,hm.jZ,fun b hb=>Nat.lt_of_lt_of_le (hm.pw b hb) kG.grow.size,fun b hb=>⟨fun h=>(Jj b hb).elim (fun q=>(hm.cS b q).1 h) (fun q=>absurd (hm.pw b h) (Nat.not_lt.2 q)),fun h=>(Jj b hb).elim (fun q=>(hm.cS b q).2.1 h) (fun q=>absurd (hm.k8 h) (Nat.not_lt.2 q)),K4 b hb⟩⟩
 have K3:c'.Le c2:=by
  refine ⟨Nat.le_refl _,fun b _ hX=>⟨rfl,fun Aw=>hX ?_⟩,fun b n hb=>⟨rfl,?_⟩⟩
  ·rcases Aw with (h | h) | h
   ·exact .inl (.inl (by rw [kG.grow.O]; exact .inl h))
   ·by_cases Jm:v.ownBlock=some b
    ·exact .inr ⟨id,_,hB,.inl Jm⟩
    ·simp only [c2,Jm,if_false] at h; exact .inl (.inr h)
   ·exact .inl (.inl (by rw [kG.grow.O]; exact .inr h))
  ·simp only [c2]
   rw [if_neg (fun h=>(iO.cS b (by rw [hb]; simp)).2.1 ⟨id,_,hB,.inl h⟩)]; exact hb
 refine ⟨v,c2,ha,rfl,?_,jq,⟨⟨rfl,kG.grow.os,kG.grow.tape,kG.grow.output,kG.grow.drawn,kG.grow.size,fun b hb _ _=>hold b hb,fun _ b n hb=>(mn b n hb).2,fun b hb=>(Jj b hb).imp (fun h=>h) (fun h=>.inr h),fun b hb=>.inl hb,fun i be _ hb=>⟨be,hb,.refl be⟩⟩,fun _=>jB.refl _,mn⟩⟩
 simp only [av]
 refine ⟨hk,Fm,us,bj,aC.mono K3 (xs.map f) us (fun j hj=>by rw [az _ Fm] at hj; cases hj) hl,hc,fun b hb=>?_⟩
 simp only [c2,hb,if_true,List.length_map]
end Go.L
namespace Go.L
structure sm (q:Bool) (c c':Cx):Prop where
 B:∀ id be,id ≠ dv→c.B id=some be→c'.B id=some be
 size:c.w.heap.size≤c'.w.heap.size
 heap:∀ b,b<c.w.heap.size→¬ c.X b→c'.w.heap[b]?=c.w.heap[b]?∧¬ c'.X b
 own:∀ b,c.own b→c'.w.heap[b]?=c.w.heap[b]?
 aJ:q=true→∀ b n,c.Q b=some n→b<c'.w.heap.size∧¬ c'.X b∧∀ j,j<n→c'.w.cell? ⟨b,j,.none⟩=c.w.cell? ⟨b,j,.none⟩
def Rel (q:Bool) (x y:LV):Prop:=∀ c c' v,sm q c c'→av c x v→av c' y v
def lQ (q:Bool):List LV→List LV→Prop
 | [],[]=>True
 | x :: xs,y :: ys=>Rel q x y∧lQ q xs ys
 | _,_=>False
variable {q:Bool}
theorem lX:lQ q [] []:=trivial
theorem eY {x y:LV} {xs ys:List LV} (h:Rel q x y) (hr:lQ q xs ys):lQ q (x :: xs) (y :: ys):=⟨h,hr⟩
theorem lQ.rep:∀ {xs ys:List LV},lQ q xs ys→∀ {c c':Cx} {vs:List Value},sm q c c'→aC c xs vs→aC c' ys vs
 | [],[],_,c,c',vs,_,h=>by simpa only [aC] using h
 | x :: xs,y :: ys,hs,c,c',vs,hc,h=>by
  simp only [aC] at h ⊢
  obtain ⟨v,fI,h0,h1,h2⟩:=h
  exact ⟨v,fI,h0,hs.1 c c' v hc h1,lQ.rep hs.2 hc h2⟩
theorem lQ.map {α:Type} {f g:α→LV} (h:∀ z,Rel q (f z) (g z)):∀ (xs:List α),lQ q (xs.map f) (xs.map g)
 | []=>trivial
 | x :: xs=>⟨h x,lQ.map h xs⟩
theorem Rel.int {k:IntKind} {n:Int}:Rel q (.int k n) (.int k n):=fun c c' v _ h=>by simpa only [av] using h
theorem Rel.bool {b:Bool}:Rel q (.bool b) (.bool b):=fun c c' v _ h=>by simpa only [av] using h
theorem Rel.str {s:ByteArray}:Rel q (.str s) (.str s):=fun c c' v _ h=>by simpa only [av] using h
theorem Rel.nil:Rel q .nil .nil:=fun c c' v _ h=>by simpa only [av] using h
theorem Rel.eD {x:LV}:Rel q x .eD:=fun c c' v _ h=>by simp only [av]
theorem Rel.agg {xs ys:List LV} (h:lQ q xs ys):Rel q (.agg xs) (.agg ys):=fun c c' v hc hv=>by
 simp only [av] at hv ⊢
 obtain ⟨vs,h0,h1⟩:=hv
 exact ⟨vs,h0,h.rep hc h1⟩
theorem Rel.ag {xs ys:List LV} (h:lQ q xs ys):Rel q (.ag xs) (.ag ys):=fun c c' v hc hv=>by
 simp only [av] at hv ⊢
 obtain ⟨b,off,vs,h0,hb,hX,hl,h1,gi⟩:=hv
 obtain ⟨g1,g2⟩:=hc.heap b hb hX
 exact ⟨b,off,vs,h0,Nat.lt_of_lt_of_le hb hc.size,g2,h.rep hc hl,h1,ek gi g1⟩
theorem Rel.ptr {id o:Nat} (hn:Nat.beq id dv=false):Rel q (.ptr id o) (.ptr id o):=fun c c' v hc hv=>by
 simp only [av] at hv ⊢
 obtain ⟨b,n,h0,h1⟩:=hv
 exact ⟨b,n,hc.B id _ (fun he=>by rw [he] at hn; cases hn) h0,h1⟩
theorem Rel.al {α:Type} {f g:α→LV} {k:Nat} (h:∀ z,Rel q (f z) (g z)) (hg:∀ z,(g z).pure=true) {xs:List α}:Rel q (.al k (xs.map f)) (.al k (xs.map g)):=fun c c' v hc hv=>by
 simp only [av,List.length_map] at hv ⊢
 obtain ⟨a,cap,h1,h2,h3,h4,h5⟩:=hv
 refine ⟨a,cap,h1,h2,h3,cK.2 fun y hy=>?_,?_⟩
 ·obtain ⟨z,_,rfl⟩:=List.mem_map.1 hy; exact hg z
 ·rcases h5 with h5 | ⟨b,off,vs,q1,q2,q3,q4,q5,q6⟩
  ·exact .inl (by simpa using h5)
  ·obtain ⟨g1,g2⟩:=hc.heap b q2 q3
   exact .inr ⟨b,off,vs,q1,Nat.lt_of_lt_of_le q2 hc.size,g2,(lQ.map h xs).rep hc q4,q5,ek q6 g1⟩
theorem Rel.aJ {α:Type} {f g:α→LV} {T:Bool} {e k:Nat} (h:∀ z,Rel true (f z) (g z)) (hg:∀ z,(g z).pure=true) {xs:List α}:Rel true (.aJ T e k (xs.map f)) (.al k (xs.map g)):=fun c c' v hc hv=>by
 cases T
 ·exact Rel.al h hg c c' v hc (Sub.IL c v hv)
 ·simp only [av,List.length_map] at hv ⊢
  obtain ⟨hk,hp,vs,ho,hl,sR,hq⟩:=hv
  have iN:=(lQ.map h xs).rep hc hl
  have Lc:LV.bo (xs.map g)=true:=cK.2 fun y hy=>by obtain ⟨z,_,rfl⟩:=List.mem_map.1 hy; exact hg z
  have hlen:xs.length=vs.length:=by simpa using hl.length
  rcases ho.2 with ⟨rfl,h0⟩ | ⟨b,cap,cur,rfl,_,hb,kq,_⟩
  ·exact ⟨.none,0,by rw [h0],by omega,fun _=>rfl,Lc,.inl (by simpa using List.eq_nil_of_length_eq_zero h0)⟩
  ·obtain ⟨g1,g2,g3⟩:=hc.aJ rfl b _ (hq b rfl)
   refine ⟨some ⟨b,0,.none⟩,cap,rfl,kq,by simp,Lc,.inr ⟨b,0,vs,rfl,g1,g2,iN,sR,fun j u hu=>?_⟩⟩
   have gi:=cY ho rfl j u hu
   rw [Nat.zero_add] at gi ⊢
   rw [g3 j ?_]; exact gi
   have:=(List.getElem?_eq_some_iff.1 hu).1
   rw [dm (k:=k) (fun v hv=>(sR v hv).1),← hlen] at this
   exact this
def im (q:Bool) (x y:LE):Prop:=∀ c c' (z:Option BE),sm q c c'→(∀ be b,z=some be→be.has b→c.own b)→bw c (some x) z→bw c' (some y) z
theorem im.box {cs ds:List LV} (h:lQ q cs ds):im q (.box cs) (.box ds):=fun c c' z hc hz hr=>by
 simp only [bw] at hr ⊢
 obtain ⟨b,vs,e,rfl,h1,h2,h3⟩:=hr
 have iN:=h.rep hc h2
 exact ⟨b,vs,e,by rw [h2.length,iN.length],(hc.own b (hz _ b rfl rfl)).trans h1,iN,h3⟩
theorem im.dead:im q .dead .dead:=fun c c' z hc hz hr=>by simpa only [bw] using hr
def rq (q:Bool):List (Nat × LE)→List (Nat × LE)→Prop
 | [],[]=>True
 | x :: r,y :: s=>(y.1=x.1∧im q x.2 y.2)∧rq q r s
 | _,_=>False
theorem Mu:rq q [] []:=trivial
theorem uu {i:Nat} {x y:LE} {r s:List (Nat × LE)} (h:im q x y) (hr:rq q r s):rq q ((i,x) :: r) ((i,y) :: s):=⟨⟨rfl,h⟩,hr⟩
theorem rq.at:∀ {r s:List (Nat × LE)},rq q r s→∀ i,(Mem.of r i=.none∧Mem.of s i=.none) ∨ ∃ x y,Mem.of r i=some x∧Mem.of s i=some y∧im q x y
 | [],[],_,i=>.inl ⟨rfl,rfl⟩
 | (a,x) :: r,(b,y) :: s,h,i=>by
  obtain ⟨⟨h1,h2⟩,h3⟩:=h
  simp only at h1 h2
  subst h1
  simp only [Mem.of]
  by_cases hi:i=b
  ·simp only [hi,if_true]; exact .inr ⟨x,y,rfl,rfl,h2⟩
  ·simp only [hi,if_false]; exact rq.at h3 i
def px (q:Bool):List (Nat × LV)→List (Nat × LV)→Prop
 | [],[]=>True
 | x :: r,y :: s=>(y.1=x.1∧Rel q x.2 y.2)∧px q r s
 | _,_=>False
theorem QL:px q [] []:=trivial
theorem wP {i:Nat} {x y:LV} {r s:List (Nat × LV)} (h:Rel q x y) (hr:px q r s):px q ((i,x) :: r) ((i,y) :: s):=⟨⟨rfl,h⟩,hr⟩
theorem px.at:∀ {r s:List (Nat × LV)},px q r s→∀ i,Rel q (Env.of r i) (Env.of s i)
 | [],[],_,i=>fun c c' v _ _=>by simp [Env.of,av]
 | (a,x) :: r,(b,y) :: s,h,i=>by
  obtain ⟨⟨h1,h2⟩,h3⟩:=h
  simp only at h1 h2
  subst h1
  simp only [Env.of]
  by_cases hi:i=b
  ·simp only [hi,if_true]; exact h2
  ·simp only [hi,if_false]; exact px.at h3 i
theorem A0 {c:Cx} {m:Mem} (hM:b3 c m) (w':World) (eK:c.w.heap.size≤w'.heap.size) (hk:∀ b,b<c.w.heap.size→c.Q b=.none→w'.heap[b]?=c.w.heap[b]?) (ht:∀ b n,c.Q b=some n→∀ j,j<n→w'.cell? ⟨b,j,.none⟩=c.w.cell? ⟨b,j,.none⟩) :
  sm true c ⟨w',c.B,c.O,fun _=>.none⟩ where
 B:=fun id be _ h=>h
 size:=eK
 heap:=fun b hb hx=>⟨hk b hb (by cases hq:c.Q b with | none=>rfl | some n=>exact absurd (.inl (.inr (by rw [hq]; simp))) hx),fun ov=>by
  rcases ov with (h | h) | h
  ·exact hx (.inl (.inl h))
  ·exact h rfl
  ·exact hx (.inr h)⟩
 own:=fun b hb=>hk b (hM.k8 hb) (by cases hq:c.Q b with | none=>rfl | some n=>exact absurd hb (hM.cS b (by rw [hq]; simp)).2.1)
 aJ:=fun _ b n hb=>by
  have hn:=hM.cS b (by rw [hb]; simp)
  refine ⟨Nat.lt_of_lt_of_le hn.2.2 eK,fun ov=>?_,ht b n hb⟩
  rcases ov with (h | h) | h
  ·exact hn.1 h
  ·exact h rfl
  ·exact hn.2.1 h
theorem pa {c:Cx} {ml cQ:List (Nat × LE)} {w':World} (hM:b3 c (Mem.of ml)) (hl:sm true c ⟨w',c.B,c.O,fun _=>.none⟩) (hr:rq true ml cQ):b3 ⟨w',c.B,c.O,fun _=>.none⟩ (Mem.of cQ):=by
 refine ⟨fun i=>?_,hM.inj,hM.jZ,fun b hb=>Nat.lt_of_lt_of_le (hM.pw b hb) hl.size,fun b hb=>absurd rfl hb⟩
 have he:=hM.gE i
 rcases hr.at i with ⟨h1,h2⟩ | ⟨x,y,h1,h2,h3⟩
 ·rw [h1] at he; rw [h2]; simpa only [bw] using he
 ·rw [h1] at he; rw [h2]
  exact h3 c _ _ hl (fun be b hz hb=>⟨i,be,hz,hb⟩) he
theorem Wk.loose {pr:Nat→Prop} {el fB:List (Nat × LV)} {ml cQ:List (Nat × LE)} (hp:pr dv) (he:px true el fB) (hm:rq true ml cQ):Wk pr (Env.of el) (Mem.of ml) (Env.of fB) (Mem.of cQ):=by
 intro N c a hr
 have hl:=A0 hr.mem c.w (Nat.le_refl _) (fun _ _ _=>rfl) (fun _ _ _ _ _=>rfl)
 refine ⟨⟨c.w,c.B,c.O,fun _=>.none⟩,rfl,⟨fun i=>he.at i c _ _ hl (hr.env i),pa hr.mem hl hm,hr.size,hr.defers⟩,?_⟩
 exact ⟨rfl,rfl,rfl,rfl,Nat.le_refl _,Nat.le_refl _,fun _ _ _ _=>rfl,fun h=>absurd hp h,fun b hb=>absurd rfl hb,fun b hb=>.inl hb,fun i be _ hb=>⟨be,hb,.refl be⟩⟩
theorem tW {P:Program} {w:World} {t ty e:TypeId} {i:TypeInfo} {z:Value} (ht:P.underlying t=some (.slice e)) (hi:P.info? e=some i) (hz:i.zero=some z) (uk:z.cells.size=i.size) (eH:0<i.size) (C0:i.bytes≤256)
  {v:Value} {n:Nat} {xs:List Value} (bj:w.ownsRow 0 e i.size v n xs) {a:Addr} {q cap:Nat} {news:List Value} (hl:news.length=q * i.size) (jO:∀ j u,news[j]?=some u→w.cell? (a.add j)=some u) (h1:∀ u ∈ news,u.oneCell'=true)
  (hb:n+q≤549755813888) :
  ∃ v' w',(Builtin.append_ #[t,t] ty #[v,.slice (some a) q cap]).run P w=.ok v' w'∧w'.ownsRow 0 e i.size v' (n+q) (xs++news)∧w.grownBy w' v.ownBlock∧(∀ b,v'.ownBlock=some b→v.ownBlock=some b ∨ w.heap.size≤b)∧w.drawn≤w'.drawn∧∀ b,v.ownBlock=some b→w'.rangeAt b 0 xs:=by
 obtain ⟨v',w',hr,h2,h3,h4,h5,h6⟩:=ey (P:=P) (ty:=ty) ht hi hz uk eH C0 bj (cap:=cap) hl jO h1 hb
 refine ⟨v',w',hr,h2,h3,h4,h6,fun b Ed=>?_⟩
 rcases bj.2 with ⟨rfl,rfl⟩ | ⟨g,Am,cur,rfl,Ax,hg,kq,zX,hcs,Om⟩
 ·simp [Value.ownBlock] at Ed
 ·have NP:g=b:=by simpa [Value.ownBlock] using Ed
  subst NP
  have hmul:(n+q) * i.bytes≤140737488355328:=by
   have:=Nat.mul_le_mul hb C0
   omega
  have Ny:n+q≤maxLen:=by simp only [maxLen]; omega
  by_cases ou:n+q≤Am
  ·have xQ:n * i.size+news.length≤cur.size:=by rw [hl,hcs,← Nat.add_mul]; exact Nat.mul_le_mul_right _ ou
   have fH:=run_append_room (P:=P) w t ty e i ht hi g n Am cur hg a q cap news hl jO h1 ou xQ
   rw [hr] at fH
   cases fH
   have:=cY h2 (b:=g) rfl
   intro j u hu
   refine this j u ?_
   rw [List.getElem?_append_left (List.getElem?_eq_some_iff.1 hu).1]; exact hu
  ·have holds:∀ j u,xs[j]?=some u→w.cell? ((⟨g,0,.none⟩:Addr).add j)=some u:=bj.cells (g:=g) rfl
   have fH:=run_append_grow (P:=P) w t ty e i z ht hi hz ⟨g,0,.none⟩ n Am xs bj.1 holds a q cap news hl jO (by omega) (by simp only [maxLen] at Ny; omega) (growslice_fits (by omega) hmul)
   rw [hr] at fH
   cases fH
   have ec:g<w.heap.size:=(Array.getElem?_eq_some_iff.1 hg).1
   exact ek (cY bj rfl) (oq w.drew _ g ec)
section
variable {P:Program} {N:Nat} {pr:Nat→Prop} {ops:Array Oper} {l:List Oper} {KE:Env→Mem→Prop}
theorem Bt {α:Type} {f g:α→LV} {xs ys r:List α} {i el kk:Nat} {t ty:TypeId} {pos:String} {af:Array Edge} {x y:Operand} {es jF:List (Nat × LV)} {ml cQ:List (Nat × LE)} (hp:pr dv) (he:telem P t=some el) (hr:gz P el=true) (hs:tsize P el=kk) (hx:da (Env.of es) x=.aJ true el kk (xs.map f)) (hy:da (Env.of es) y=.al kk (ys.map f)) (hl:app xs ys=some r) (UI:∀ z,Rel true (f z) (g z)) (hg:∀ z,(g z).pure=true) (Wi:px true es jF) (Wj:rq true ml cQ)
  (hn:cH P N pr ops l KE ((Env.of jF).put i (.al kk (r.map g))) (Mem.of cQ)):cH P N pr ops (⟨some i,.call ⟨.builtin .append,#[x,y],#[t,t]⟩,ty,pos,af,.none⟩ :: l) KE (Env.of es) (Mem.of ml):=by
 intro hd N3
 obtain ⟨e2,m2,hK,jP⟩:=hn hd (fun q hq=>N3 q (by simp [hq]))
 refine ⟨e2,m2,hK,fun c a bY=>?_⟩
 simp only [wpList]
 rw [if_pos (by simp [Region.wanted])]
 left
 obtain ⟨h0,rfl⟩:=BM hl
 subst hs
 have hu:=fp he
 obtain ⟨it,z,hi,hz,uk,B7,eH,C0,qe⟩:=pc hr
 have ec:i<N:=hd ⟨some i,.call ⟨.builtin .append,#[x,y],#[t,t]⟩,ty,pos,af,.none⟩ (N3 _ (by simp)) i rfl
 have oa:=bY.ev x
 rw [hx] at oa
 have lU:=bY.ev y
 rw [hy] at lU
 simp only [av,List.length_map] at oa
 obtain ⟨hk,Oc,vs,ho,Jg,I8,hq⟩:=oa
 rw [qe] at ho I8 hq
 have hlen:xs.length=vs.length:=by simpa using Jg.length
 -- the outcome
 have key:∃ v' w',(Builtin.append_ #[t,t] ty #[a.eval x,a.eval y]).run P c.w=.ok v' w'∧c.w.heap.size≤w'.heap.size∧(∀ b,b<c.w.heap.size→c.Q b=.none→w'.heap[b]?=c.w.heap[b]?)∧(∀ b n,c.Q b=some n→∀ j,j<n→w'.cell? ⟨b,j,.none⟩=c.w.cell? ⟨b,j,.none⟩) ∧
   w'.os=c.w.os∧w'.tape=c.w.tape∧w'.output=c.w.output∧c.w.drawn≤w'.drawn ∧
   ∃ us,aC c (ys.map f) us∧(∀ v ∈ us,v.cells.size=it.size∧∀ y ∈ v.cells,y.oneCell'=true)∧LV.bo (ys.map f)=true∧w'.ownsRow 0 el it.size v' (xs.length+ys.length) (flat (vs++us))∧(∀ b,v'.ownBlock=some b→(a.eval x).ownBlock=some b ∨ c.w.heap.size≤b):=by
  rcases Ha (k:=tsize P el) (.inl rfl) lU with ⟨R5,hv⟩ | ⟨ad,cap,us,hv,K5,E4,Fm,gi⟩
  ·have Ic:ys=[]:=by simpa using R5
   subst Ic
   refine ⟨a.eval x,c.w,?_,Nat.le_refl _,fun _ _ _=>rfl,fun _ _ _ _ _=>rfl,rfl,rfl,rfl,Nat.le_refl _,[],by simp [aC],by simp,by simp [LV.bo],by simpa using ho,fun b hb=>.inl hb⟩
   rw [hv,run_append_owned_none (P:=P) (w:=c.w) 0 t ty el it it.size hu hi (a.eval x) xs.length _ ho]
  ·rw [qe] at E4
   have K6:ys.length=us.length:=by simpa using K5.length
   have C6:(flat us).length=ys.length * it.size:=by rw [dm (k:=it.size) (fun v hv=>(E4 v hv).1),K6]
   simp only [List.length_map] at hv
   obtain ⟨v',w',du,h2,h3,h4,h5,h6⟩:=tW (P:=P) (ty:=ty) hu hi hz uk eH C0 ho (cap:=cap) C6 gi (fun q hq=>by
    simp only [flat,List.mem_flatMap] at hq
    obtain ⟨v,hv,hq⟩:=hq
    exact (E4 v hv).2 q (by simpa using hq)) h0
   refine ⟨v',w',by rw [hv]; exact du,h3.size,fun b hb H7=>h3.block b hb fun hh=>?_,fun b n H7 j hj=>?_,h3.os,h3.tape,h3.output,h5,us,K5,E4,Fm,by rw [eI]; exact h2,h4⟩
   ·rw [hq b hh.symm] at H7; cases H7
   ·by_cases qU:(a.eval x).ownBlock=some b
    ·rw [hq b qU] at H7
     cases H7
     have Sv:(flat vs).length=xs.length * it.size:=by rw [dm (k:=it.size) (fun v hv=>(I8 v hv).1),← hlen]
     obtain ⟨u,FA⟩:∃ u,(flat vs)[j]?=some u:=⟨(flat vs)[j]'(by omega),by simp [show j<(flat vs).length by omega]⟩
     have g1:=h6 b qU j u FA
     have g2:=cY ho qU j u FA
     rw [Nat.zero_add] at g1 g2
     rw [g1,g2]
    ·have wj:=(bY.mem.cS b (by rw [H7]; simp)).2.2
     exact uV (h3.block b wj fun hh=>qU hh.symm) j
 obtain ⟨v',w',du,eK,UN,Wq,Ei,pR,oT,xN,us,K5,E4,Fm,iz,hblk⟩:=key
 have rR:=A0 bY.mem w' eK UN Wq
 let c':Cx:=⟨w',c.B,c.O,fun _=>.none⟩
 have VD:b3 c' (Mem.of cQ):=pa bY.mem rR Wj
 have jN:Grow pr c c':=⟨rfl,Ei,pR,oT,xN,eK,fun b hb _ pk=>UN b hb (pk.elim (fun h=>h) (fun h=>absurd hp h)),fun h=>absurd hp h,fun b hb=>absurd rfl hb,fun b hb=>.inl hb,fun j be _ hb=>⟨be,hb,.refl be⟩⟩
 have Lu:av c' (.al (tsize P el) ((xs++ys).map g)) v':=by
  have N3:aC c' ((xs++ys).map g) (vs++us):=by
   rw [List.map_append]
   exact ((lQ.map UI xs).rep rR Jg).append ((lQ.map UI ys).rep rR K5)
  have Lc:LV.bo ((xs++ys).map g)=true:=cK.2 fun y hy=>by obtain ⟨z,_,rfl⟩:=List.mem_map.1 hy; exact hg z
  simp only [av,List.length_map,List.length_append]
  rcases iz.2 with ⟨rfl,U1⟩ | ⟨b,cap,cur,rfl,_,hb,kq,_⟩
  ·exact ⟨.none,0,by rw [U1],by omega,fun _=>rfl,Lc,.inl (by simpa using (List.eq_nil_of_length_eq_zero (by simpa using U1):xs++ys=[]))⟩
  ·refine ⟨some ⟨b,0,.none⟩,cap,rfl,kq,by simp,Lc,.inr ⟨b,0,vs++us,rfl,(Array.getElem?_eq_some_iff.1 hb).1,?_,N3,fun v hv=>by rw [qe]; exact (List.mem_append.1 hv).elim (I8 v) (E4 v),cY iz rfl⟩⟩
   rcases hblk b rfl with h | h
   ·exact (rR.aJ rfl b _ (hq b h)).2.1
   ·rintro ((h' | h') | h')
    ·have:=bY.mem.pw b h'; omega
    ·exact h' rfl
    ·have:=bY.mem.k8 (show c.own b from h'); omega
 have B2:(execOp a.eval ⟨some i,.call ⟨.builtin .append,#[x,y],#[t,t]⟩,ty,pos,af,.none⟩).run P c.w=.ok (.value v') w':=by
  simp [execOp,resolve,invoke,builtin,du,Result.andThen]
 unfold Oper.wp
 rw [B2,Oper.upon_value]
 have te:mw N c' ((Env.of jF).put i (.al (tsize P el) ((xs++ys).map g))) (Mem.of cQ) (a.put (some i) v'):=by
  refine ⟨fun j=>?_,VD,by simp [Act.put,bY.size],bY.defers⟩
  simp only [Env.put,Act.put]
  by_cases hj:j=i
  ·subst hj
   have:j<a.tmps.size:=by rw [bY.size]; exact ec
   simpa [this] using Lu
  ·simp only [hj,if_false]
   simpa [Array.getElem?_setIfInBounds_ne (Ne.symm hj)] using Wi.at j c c' _ rR (bY.env j)
 refine gq _ _ _ _ _ ?_ (jP c' _ te)
 rintro x Nf MH ⟨hx,c2,qV,fH,pL⟩
 exact ⟨hx,c2,qV,fH,jN.trans pL⟩
end
theorem aO.view {P:Program} {f:Nat} {args gB:List LV} {lv:LV} (h:aO P f gB (Mem.of []) lv (Mem.of [])) (ha:lQ true args gB) (hv:lv.kN=true) (hr:lv.refs=[]):aO P f args (Mem.of []) lv (Mem.of []):=by
 intro c vs hm hargs
 have rR:=A0 hm c.w (Nat.le_refl _) (fun _ _ _=>rfl) (fun _ _ _ _ _=>rfl)
 have hB:∀ id,c.B id=.none:=fun id=>hm.fresh rfl
 have kF:∀ b,¬ c.own b:=by rintro b ⟨id,be,h1,_⟩; rw [hB] at h1; cases h1
 refine (h ⟨c.w,c.B,c.O,fun _=>.none⟩ vs (pa (ml:=[]) (cQ:=[]) hm rR trivial) (ha.rep rR hargs)).mono ?_
 rintro en w' ⟨v,c1,rfl,rfl,iH,jY,hg⟩
 have K9:∀ b,¬ (⟨c1.w,fun _=>.none,c.O,c.Q⟩:Cx).own b:=by rintro b ⟨id,be,h1,_⟩; cases h1
 refine ⟨v,⟨c1.w,fun _=>.none,c.O,c.Q⟩,rfl,rfl,⟨fun id=>rfl,fun i i' be eF b h1=>(by cases h1),fun b ho=>(K9 b ho).elim,fun b hb=>Nat.lt_of_lt_of_le (hm.pw b hb) hg.size,fun b hb=>⟨(hm.cS b hb).1,K9 b,Nat.lt_of_lt_of_le (hm.cS b hb).2.2 hg.size⟩⟩,av.jt lv v hv (fun id bB=>?_) jY,?_⟩
 ·have:=je lv bB
  rw [hr] at this; cases this
 ·exact ⟨rfl,hg.os,hg.tape,hg.output,hg.drawn,hg.size,fun b hb ho _=>hg.jI b hb (fun h'=>ho h') (.inl rfl),fun _ b n hb=>hb,fun b hb=>.inl hb,fun b hb=>(K9 b hb).elim,fun id be hp=>absurd rfl hp⟩
theorem aO.IQ {P:Program} {f:Nat} {args:List LV} {nJ va:List (Nat × LE)} {lv:LV} (h:aO P f args (Mem.of ((dv,.dead) :: nJ)) lv (Mem.of ((dv,.dead) :: va))) (h0:Mem.of nJ dv=.none) (h1:Mem.of va dv=.none)
  (ha:lQ false args args) (pM:rq false nJ nJ) (iH:rq false va va) (hv:Rel false lv lv):aO P f args (Mem.of nJ) lv (Mem.of va):=by
 intro c vs hm hargs
 have VA:c.B dv=.none:=hm.fresh h0
 let c0:Cx:=⟨c.w,fun i=>if i=dv then some (.arr (.slice .none 0 0) 1 1 []) else c.B i,fun b=>c.O b ∨ c.Q b ≠ .none,fun _=>.none⟩
 have B0:∀ i,i ≠ dv→c0.B i=c.B i:=fun i hi=>by simp [c0,hi]
 have HR:c0.B dv=some (.arr (.slice .none 0 0) 1 1 []):=by simp [c0]
 have u1:∀ b,c0.own b ↔ c.own b:=by
  intro b
  constructor
  ·rintro ⟨i,be,g1,g2⟩
   by_cases hi:i=dv
   ·subst hi; rw [HR] at g1; cases g1; simp [BE.has,Value.ownBlock] at g2
   ·rw [B0 i hi] at g1; exact ⟨i,be,g1,g2⟩
  ·rintro ⟨i,be,g1,g2⟩
   have hi:i ≠ dv:=fun hi=>by rw [hi,VA] at g1; cases g1
   exact ⟨i,be,by rw [B0 i hi]; exact g1,g2⟩
 have rR:sm false c c0:=⟨fun id be bB hb=>by rw [B0 id bB]; exact hb,Nat.le_refl _,fun b hb hx=>⟨rfl,fun ov=>by
  rcases ov with (h' | h') | h'
  ·rcases h' with h' | h'
   ·exact hx (.inl (.inl h'))
   ·exact hx (.inl (.inr h'))
  ·exact h' rfl
  ·exact hx (.inr ((u1 b).1 h'))⟩,fun b _=>rfl,fun hq=>by cases hq⟩
 have VE:b3 c0 (Mem.of ((dv,.dead) :: nJ)):=by
  refine ⟨fun i=>?_,fun i j be eF b g1 g2 g3 g4=>?_,fun b ho hO=>?_,fun b hb=>?_,fun b hb=>absurd rfl hb⟩
  ·by_cases hi:i=dv
   ·subst hi
    rw [HR]
    simp only [Mem.of,if_true,bw]
    exact ⟨_,_,_,rfl,rfl⟩
   ·rw [B0 i hi]
    simp only [Mem.of,hi,if_false]
    have he:=hm.gE i
    rcases pM.at i with ⟨e1,_⟩ | ⟨x,y,e1,e2,e3⟩
    ·rw [e1] at he ⊢; simpa only [bw] using he
    ·rw [e1] at he; rw [e2]
     exact e3 c c0 _ rR (fun be b hz hb=>⟨i,be,hz,hb⟩) he
  ·by_cases hi:i=dv
   ·subst hi; rw [HR] at g1; cases g1; simp [BE.has,Value.ownBlock] at g3
   ·by_cases hj:j=dv
    ·subst hj; rw [HR] at g2; cases g2; simp [BE.has,Value.ownBlock] at g4
    ·rw [B0 i hi] at g1; rw [B0 j hj] at g2; exact hm.inj i j be eF b g1 g2 g3 g4
  ·have rB:=(u1 b).1 ho
   rcases hO with hO | hO
   ·exact hm.jZ b rB hO
   ·exact (hm.cS b hO).2.1 rB
  ·rcases hb with hb | hb
   ·exact hm.pw b hb
   ·exact (hm.cS b hb).2.2
 refine (h c0 vs VE (ha.rep rR hargs)).mono ?_
 rintro en w' ⟨v,c1,rfl,rfl,Rj,jY,hg⟩
 let c':Cx:=⟨c1.w,fun i=>if i=dv then .none else c1.B i,c.O,c.Q⟩
 have iF:∀ i,i ≠ dv→c'.B i=c1.B i:=fun i hi=>by simp [c',hi]
 have iz:∀ b,c'.own b→c1.own b:=by
  rintro b ⟨i,be,g1,g2⟩
  by_cases hi:i=dv
  ·simp [c',hi] at g1
  ·rw [iF i hi] at g1; exact ⟨i,be,g1,g2⟩
 have Rl:∀ b,c1.O b ↔ c.O b ∨ c.Q b ≠ .none:=fun b=>by rw [hg.O]
 have N4:sm false c1 c':=⟨fun id be bB hb=>by rw [iF id bB]; exact hb,Nat.le_refl _,fun b hb hx=>⟨rfl,fun ov=>by
  rcases ov with (h' | h') | h'
  ·exact hx (.inl (.inl ((Rl b).2 (.inl h'))))
  ·exact hx (.inl (.inl ((Rl b).2 (.inr h'))))
  ·exact hx (.inr (iz b h'))⟩,fun b _=>rfl,fun hq=>by cases hq⟩
 have eH:c.w.heap.size≤c1.w.heap.size:=hg.size
 refine ⟨v,c',rfl,rfl,⟨fun i=>?_,fun i j be eF b g1 g2 g3 g4=>?_,fun b ho hO=>Rj.jZ b (iz b ho) ((Rl b).2 (.inl hO)),fun b hb=>Nat.lt_of_lt_of_le (hm.pw b hb) eH,fun b hb=>⟨(hm.cS b hb).1,fun ho=>Rj.jZ b (iz b ho) ((Rl b).2 (.inr hb)),Nat.lt_of_lt_of_le (hm.cS b hb).2.2 eH⟩⟩,hv c1 c' v N4 jY,?_⟩
 ·by_cases hi:i=dv
  ·subst hi
   rw [h1]; simp [bw,c']
  ·rw [iF i hi]
   have he:=Rj.gE i
   simp only [Mem.of,hi,if_false] at he
   rcases iH.at i with ⟨e1,_⟩ | ⟨x,y,e1,e2,e3⟩
   ·rw [e1] at he ⊢; simpa only [bw] using he
   ·rw [e1] at he; rw [e2]
    exact e3 c1 c' _ N4 (fun be b hz hb=>⟨i,be,hz,hb⟩) he
 ·by_cases hi:i=dv
  ·simp [c',hi] at g1
  ·by_cases hj:j=dv
   ·simp [c',hj] at g2
   ·rw [iF i hi] at g1; rw [iF j hj] at g2; exact Rj.inj i j be eF b g1 g2 g3 g4
 ·refine ⟨rfl,hg.os,hg.tape,hg.output,hg.drawn,hg.size,fun b hb ho _=>hg.jI b hb (fun h'=>ho ((u1 b).1 h')) (.inl rfl),fun _ b n hb=>hb,fun b hb=>.inl hb,fun b hb=>(hg.own b (iz b hb)).imp (fun h'=>(u1 b).1 h') (fun h'=>h'),fun i be hp hb=>?_⟩
  have hi:i ≠ dv:=fun hi=>by rw [hi] at hp; exact hp h0
  obtain ⟨eF,g1,g2⟩:=hg.A9 i be (by simpa [Mem.of,hi] using hp) (by rw [B0 i hi]; exact hb)
  exact ⟨eF,by rw [iF i hi]; exact g1,g2⟩
theorem PY {le:LE} {nJ:List (Nat × LE)}:(fun id=>Mem.of ((dv,le) :: nJ) id ≠ .none) dv:=fun h=>by simp [Mem.of] at h
end Go.L
