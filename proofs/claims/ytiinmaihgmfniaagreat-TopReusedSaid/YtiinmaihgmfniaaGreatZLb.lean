import Derived.Test.YtiinmaihgmfniaaGreatZLa
import Derived.WideKeyElems
import Derived.Lib.AppendZeros
import Derived.Lib.SliceRun
import Derived.Lib.Overlaps
import Derived.Laws.IdiomCopy
import Derived.Laws.StructEq
import Derived.Shelf.SlSortCmp.NoneTotal
import Derived.Laws.Strings
import Derived.Laws.Concat
import Derived.Laws.BytesString
set_option linter.unusedVariables false
set_option linter.unusedSimpArgs false
namespace Go.L
abbrev LV.I:Int→LV:=LV.int .i64
abbrev LV.L (xs:List Int):LV:=.lst 1 (xs.map (LV.int .i64))
abbrev dn (P : Program) (f : Nat) : Prop := ∃ fn, P.funcs[f]? = some fn ∧ (fn.name == "runtime.NumGoroutine") = false ∧ fn.body.isNone = false
def Sub (x y:LV):Prop:=∀ c v,ar c x v→ar c y v
def fl:List LV→List LV→Prop
 | [],[]=>True
 | x :: xs,y :: ys=>Sub x y∧fl xs ys
 | _,_=>False
theorem Sub.rfl {x:LV}:Sub x x:=fun _ _ h=>h
theorem Sub.fg {x:LV}:Sub x .fg:=fun _ _ _=>by simp [ar]
theorem Sub.nil {k:Nat}:Sub .nil (.lst k []):=fun c v h=>by
 simp only [ar] at h ⊢
 subst h
 exact ⟨.none,0,by rfl,Nat.le_refl _,fun _=>by rfl,by rfl,.inl trivial⟩
theorem fl.rep:∀ {xs ys:List LV},fl xs ys→∀ {c:Cx} {vs:List Value},aE c xs vs→aE c ys vs
 | [],[],_,c,vs,h=>h
 | x :: xs,y :: ys,hs,c,vs,h=>by
  simp only [aE] at h ⊢
  obtain ⟨v,fR,h0,h1,h2⟩:=h
  exact ⟨v,fR,h0,hs.1 c v h1,fl.rep hs.2 h2⟩
theorem fl.rfl:∀ {xs:List LV},fl xs xs
 | []=>trivial
 | x :: xs=>⟨Sub.rfl,fl.rfl⟩
theorem Sub.agg {xs ys:List LV} (h:fl xs ys):Sub (.agg xs) (.agg ys):=fun c v hv=>by
 simp only [ar] at hv ⊢
 obtain ⟨vs,h0,h1⟩:=hv
 exact ⟨vs,h0,h.rep h1⟩
theorem Sub.tup {xs ys:List LV} (h:fl xs ys):Sub (.tup xs) (.tup ys):=fun c v hv=>by
 simp only [ar] at hv ⊢
 obtain ⟨vs,h0,h1⟩:=hv
 exact ⟨vs,h0,h.rep h1⟩
theorem aF.sub {P:Program} {f:Nat} {args eH:List LV} {m m':Mem} {lv:LV} (h:aF P f eH m lv m') (hs:fl args eH):aF P f args m lv m':=fun c vs hm ha=>h c vs hm (hs.rep ha)
theorem aF.res {P:Program} {f:Nat} {args:List LV} {m m':Mem} {lv vW:LV} (h:aF P f args m lv m') (hs:Sub lv vW):aF P f args m vW m':=fun c vs hm ha=>(h c vs hm ha).mono fun en w' ⟨v,c',h1,h2,h3,h4,h5⟩=>⟨v,c',h1,h2,h3,hs c' v h4,h5⟩
def oR {α:Type} (k:Nat) (f:α→LV):Prop:=∀ x,(f x).pure=true∧(f x).cells.length=k∧(f x).cells.all LV.scalar=true
theorem oR.Y2 {α:Type} {k:Nat} {f:α→LV} (h:oR k f) (xs:List α):rU k (xs.map f):=by
 intro x hx
 obtain ⟨y,_,rfl⟩:=List.mem_map.1 hx
 exact h y
theorem oR.bt {α:Type} {k:Nat} {f:α→LV} (h:oR k f) (xs:List α):LV.bt (xs.map f)=true:=c6.2 fun x hx=>by
 obtain ⟨y,_,rfl⟩:=List.mem_map.1 hx
 exact (h y).1
theorem jB {k:IntKind}:oR 1 (LV.int k):=fun _=>⟨by rfl,by rfl,by rfl⟩
theorem okB:oR 1 LV.bool:=fun _=>⟨by rfl,by rfl,by rfl⟩
def idx {α:Type} (xs:List α) (i:Int):Option α:=if 0≤i then xs[i.toNat]? else .none
def Q5 {α:Type} (xs:List α) (a b:Int):Option (List α):=if 0≤a∧a≤b∧b≤xs.length then some ((xs.take b.toNat).drop a.toNat) else .none
def app {α:Type} (xs ys:List α):Option (List α):=if xs.length+ys.length≤549755813888 then some (xs++ys) else .none
def quo (k:IntKind) (a b:Int):Option Int:=if b=0 then .none else some (k.wrap (a.tdiv b))
def QX (a b:Int):Option Int:=if b=0 then .none else some (a.tmod b)
def vB {α:Type} (z:α) (n:Int):Option (List α):=if 0≤n∧n≤549755813888 then some (List.replicate n.toNat z) else .none
def put {α:Type} (xs:List α) (i:Int) (f:α→α):Option (List α):=(idx xs i).bind fun x=>some (xs.set i.toNat (f x))
abbrev i64 (n:Int):Int:=IntKind.i64.wrap n
theorem ae {α β:Type} {o:Option α} {f:α→Option β} {r:β} (h:o.bind f=some r):∃ a,o=some a∧f a=some r:=by
 cases o with
 | none=>cases h
 | some a=>exact ⟨a,rfl,h⟩
theorem aB {α:Type} {b:Bool} {x y:Option α} {r:α} (h:(if b=true then x else y)=some r) (hb:b=true):x=some r:=by rw [if_pos hb] at h; exact h
theorem aA {α:Type} {b:Bool} {x y:Option α} {r:α} (h:(if b=true then x else y)=some r) (hb:b=false):y=some r:=by rw [if_neg (by simp [hb])] at h; exact h
theorem bF {b:Bool} (h:¬ b=true):b=false:=by cases b <;> simp_all
section
variable {P:Program} {N:Nat} {pr:Nat→Prop} {ro:List Nat} {ops:Array Oper} {e:Env} {m:Mem} {ev:Operand→LV} {d:Option Nat} {i j q:Nat} {want:Bool} {op:Op} {ty:TypeId} {pos:String} {af:Array Edge} {g:Option (Nat × Bool)} {l:List Oper} {ey:List Nat} {KE:Env→Mem→Prop} {K:LV→Mem→Prop}
def cJ (P:Program) (N:Nat) (pr:Nat→Prop) (ops:Array Oper) (l:List Oper) (K:Env→Mem→Prop) (e:Env) (m:Mem):Prop :=
 (∀ q ∈ ops,∀ i,q.dst=some i→i<N)→(∀ o ∈ l,o ∈ ops)→∃ e' m',K e' m'∧∀ (c:Cx) (a:Act),mZ N c e m a→wpList P ops (fun x a' w'=>x=.normal∧∃ c':Cx,c'.w=w'∧mZ N c' e' m' a'∧Grow pr c c') l a c.w
theorem gz:∀ (l:List Oper) (a:Act) (w:World) (Q Q':Exit→Act→World→Prop),(∀ x a w,Q x a w→Q' x a w)→wpList P ops Q l a w→wpList P ops Q' l a w:=by
 intro l
 induction l with
 | nil=>intro a w Q Q' hq hh; exact hq _ _ _ hh
 | cons o l ih =>
  intro a w Q Q' hq hh
  simp only [wpList] at hh ⊢
  split
  ·rename_i XQ
   rw [if_pos XQ] at hh
   rcases hh with hh | ⟨h1,a0,w0,h2⟩
   ·left
    unfold Oper.wp at hh ⊢
    generalize (execOp a.eval o).run P w=r at hh ⊢
    cases r with
    | ok nx w' =>
     cases nx <;> simp only [Oper.upon] at hh ⊢ <;> first
      | exact ih _ _ _ _ hq hh
      | exact Calls.mono hh (fun en Rk he=>by cases en <;> first | exact ih _ _ _ _ hq he | exact hq _ _ _ he | exact he.imp fun _=>Exists.imp fun _=>hq _ _ _)
      | exact Rows.mono hh (fun _ _ he=>ih _ _ _ _ hq he)
    | halt x w'=>cases x <;> simp only [Oper.upon] at hh ⊢ <;> first | exact hq _ _ _ hh | exact hh
   ·exact .inr ⟨h1,a0,w0,hq _ _ _ h2⟩
  ·rename_i XQ
   rw [if_neg XQ] at hh
   exact ih _ _ _ _ hq hh
theorem cJ.step {o:Oper} (h:DW P pr ro ops o (cJ P N pr ops l KE) e m):cJ P N pr ops (o :: l) KE e m:=by
 intro hd hl
 obtain ⟨lv,m1,h1,Is⟩:=zb hd (hd o (hl o (by simp))) h
 obtain ⟨e',m',hK,jM⟩:=h1 hd (fun q hq=>hl q (by simp [hq]))
 refine ⟨e',m',hK,fun c a hr=>?_⟩
 simp only [wpList]
 refine Is c a _ _ hr ?_
 intro a' c' kJ hs
 refine gz _ _ _ _ _ ?_ (jM c' a' kJ)
 rintro x RS Rk ⟨hx,c2,qf,hr2,hg2⟩
 exact ⟨hx,c2,qf,hr2,hs.grow.trans hg2⟩
theorem cJ.wk {e':Env} {m':Mem} (hw:Wk pr e m e' m') (h:cJ P N pr ops l KE e' m'):cJ P N pr ops l KE e m:=by
 intro hd hl
 obtain ⟨e2,m2,hK,dt⟩:=h hd hl
 refine ⟨e2,m2,hK,fun c a hr=>?_⟩
 obtain ⟨c1,hw1,dR,yW⟩:=hw N c a hr
 rw [← hw1]
 refine gz _ _ _ _ _ ?_ (dt c1 a dR)
 rintro x a' w' ⟨hx,c2,qf,hr2,hg2⟩
 exact ⟨hx,c2,qf,hr2,yW.trans hg2⟩
theorem s0 (h:KE e m):cJ P N pr ops [] KE e m:=fun _ _=>⟨e,m,h,fun c a hr=>⟨rfl,c,rfl,hr,.refl pr c⟩⟩
theorem sN (h:LOp P pr [] ⟨some i,op,ty,pos,af,.none⟩ (cP e) m fun lv m'=>cJ P N pr ops l KE (e.put i lv) m'):cJ P N pr ops (⟨some i,op,ty,pos,af,.none⟩ :: l) KE e m:=cJ.step (ro:=[]) h
theorem sB (h:LOp P pr [i] ⟨some i,op,ty,pos,af,.none⟩ (cP e) m fun lv m'=>cJ P N pr ops l KE (e.put i lv) m'):cJ P N pr ops (⟨some i,op,ty,pos,af,.none⟩ :: l) KE e m:=cJ.step (ro:=[i]) h
theorem s_ (h:LOp P pr [] ⟨.none,op,ty,pos,af,.none⟩ (cP e) m fun lv m'=>cJ P N pr ops l KE e m'):cJ P N pr ops (⟨.none,op,ty,pos,af,.none⟩ :: l) KE e m:=cJ.step (ro:=[]) h
theorem sT (hj:(ops[j]?).bind (·.dst)=some q) (hg:e q=.bool want) (h:LOp P pr [] ⟨some i,op,ty,pos,af,some (j,want)⟩ (cP e) m fun lv m'=>cJ P N pr ops l KE (e.put i lv) m'):cJ P N pr ops (⟨some i,op,ty,pos,af,some (j,want)⟩ :: l) KE e m:=cJ.step (ro:=[]) (by
 rw [o9,hj]; simp only [hg,if_true]; exact h)
theorem sF {t:Bool} (hj:(ops[j]?).bind (·.dst)=some q) (hg:e q=.bool t) (hn:t=!want) (h:cJ P N pr ops l KE (e.put i (.tup [])) m):cJ P N pr ops (⟨some i,op,ty,pos,af,some (j,want)⟩ :: l) KE e m:=cJ.step (ro:=[]) (by
 subst hn
 rw [o9,hj]; simp only [hg]; cases want <;> exact h)
theorem sU (hj:(ops[j]?).bind (·.dst)=some q) (hg:e q=.tup []) (h:cJ P N pr ops l KE (e.put i (.tup [])) m):cJ P N pr ops (⟨some i,op,ty,pos,af,some (j,want)⟩ :: l) KE e m:=cJ.step (ro:=[]) (by
 rw [o9,hj]; simp only [hg]; exact h)
theorem m0 (h:KE e m):cQ P pr ro ops (List.zip [] []) KE e m:=h
theorem aX (h:LOp P pr ro ⟨some i,op,ty,pos,af,.none⟩ (cP e) Mem.none fun lv m'=>m'=Mem.none∧cQ P pr ro ops (List.zip l ey) KE (e.put i lv) m):cQ P pr ro ops (List.zip (⟨some i,op,ty,pos,af,.none⟩ :: l) (0 :: ey)) KE e m:=h
theorem KU (h:LOp P pr ro ⟨some i,op,ty,pos,af,.none⟩ (cP e) m fun lv m'=>m'=m∧cQ P pr ro ops (List.zip l ey) KE (e.put i lv) m):cQ P pr ro ops (List.zip (⟨some i,op,ty,pos,af,.none⟩ :: l) (1 :: ey)) KE e m:=h
theorem yt (h:LOp P pr ro ⟨some i,op,ty,pos,af,.none⟩ (cP e) m fun lv m'=>cQ P pr ro ops (List.zip l ey) KE (e.put i lv) m'):cQ P pr ro ops (List.zip (⟨some i,op,ty,pos,af,.none⟩ :: l) (2 :: ey)) KE e m:=h
theorem mT {md:Nat} (hj:(ops[j]?).bind (·.dst)=some q) (hg:e q=.bool want) (h:cQ P pr ro ops (List.zip (⟨d,op,ty,pos,af,.none⟩ :: l) (md :: ey)) KE e m):cQ P pr ro ops (List.zip (⟨d,op,ty,pos,af,some (j,want)⟩ :: l) (md :: ey)) KE e m:=by
 show gK P pr ro ops md _ _ e m
 rw [za,hj]; simp only [hg,if_true]; exact h
theorem mF {md:Nat} {t:Bool} (hj:(ops[j]?).bind (·.dst)=some q) (hg:e q=.bool t) (hn:t=!want) (h:cQ P pr ro ops (List.zip l ey) KE (e.put i (.tup [])) m):cQ P pr ro ops (List.zip (⟨some i,op,ty,pos,af,some (j,want)⟩ :: l) (md :: ey)) KE e m:=by
 subst hn
 show gK P pr ro ops md _ _ e m
 rw [za,hj]; simp only [hg]; cases want <;> exact h
variable {x y a:Operand} {t t':TypeId} {k k':IntKind} {v:LV} {u w:Int} {b c:Bool} {cs dL:List LV} {n id o off el ft kk:Nat}
theorem oM (hx:ev x=v) (h:K v m):LOp P pr ro ⟨d,.move x,ty,pos,af,g⟩ ev m K:=by rw [LOp_move,hx]; exact h
theorem oA (hx:ev x=v) (h:K v m):LOp P pr ro ⟨d,.assign x,ty,pos,af,g⟩ ev m K:=by rw [LOp_assign,hx]; exact h
theorem aY {z:Operand} (hc:ev x=.bool true) (ha:ev y=v) (h:K v m):LOp P pr ro ⟨d,.pick x y z,ty,pos,af,g⟩ ev m K:=by rw [LOp_pick,hc]; simp only [if_true]; rw [ha]; exact h
theorem bc {z:Operand} (hc:ev x=.bool false) (ha:ev z=v) (h:K v m):LOp P pr ro ⟨d,.pick x y z,ty,pos,af,g⟩ ev m K:=by rw [LOp_pick,hc]; simp only [Bool.false_eq_true,if_false]; rw [ha]; exact h
theorem hD {z:LV} (hi:100+i=id) (hz:tzero P t=some z) (hc:z.cells=cs) (hf:m id=.none) (h:K (.ptr id 0) (m.put id (.box cs))):LOp P pr ro ⟨some i,.alloc t,ty,pos,af,g⟩ ev m K:=by
 subst hi; subst hc; rw [LOp_alloc,hz]; exact ⟨hf,h⟩
theorem dm (hr:ro.contains i=true) (hx:ev x=v) (hc:v.cells=cs) (hs:cs.all LV.scalar=true) (h:K (.sptr cs) m):LOp P pr ro ⟨some i,.box t x,ty,pos,af,g⟩ ev m K:=by
 subst hc; rw [LOp_box,hx,if_pos hr]; exact ⟨hs,h⟩
theorem TS (hr:ro.contains i=false) (hi:100+i=id) (hx:ev x=v) (hc:v.cells=cs) (hs:cs.all LV.scalar=true) (hf:m id=.none) (h:K (.ptr id 0) (m.put id (.box cs))):LOp P pr ro ⟨some i,.box t x,ty,pos,af,g⟩ ev m K:=by
 subst hi; subst hc; rw [LOp_box,hx,if_neg (by rw [hr]; simp)]; exact ⟨hs,hf,h⟩
theorem gI:nj P t cs []=some cs:=rfl
theorem lf {res:List LV} {r:List (Nat × LV)} (hf:tfield P t i=some (off,ft)) (hs:tsize P ft=v.cells.length) (hk:tok P ft=true) (hl:Nat.ble (off+v.cells.length) cs.length=true) (vw:v.cells.all LV.scalar=true) (hr:rep cs off v.cells=dL) (h:nj P t dL r=some res):nj P t cs ((i,v) :: r)=some res:=by
 subst hr
 simp only [nj,hf]
 rw [if_pos ⟨hs.symm,Nat.le_of_ble_eq_true hl,hk,vw⟩]; exact h
theorem gJ {z:List LV} {ps:List (Nat × Operand)} {vs:List (Nat × LV)} (hb:tbuild P t=true) (hz:tzero P t=some (.agg z)) (hv:(ps.map fun p=>(p.1,ev p.2))=vs) (hf:nj P t z vs=some cs) (h:K (.agg cs) m):LOp P pr ro ⟨d,.build t ps.toArray,ty,pos,af,g⟩ ev m K:=by
 rw [LOp_build,hz]; refine ⟨hb,?_⟩; simp only [hv,hf]; exact h
theorem jU {α:Type} {f:α→LV} {ys:List α} {ps:List (Nat × Operand)} (he:telem P t=some el) (hr:fQ P el=true) (hk:tsize P el=kk) (hb:Nat.ble (n * kk) 16777216=true) (hi:ps.map (·.1)=List.range n) (hv:(ps.map fun p=>ev p.2)=ys.map f) (gP:oR kk f) (h:K (.lst kk (ys.map f)) m):LOp P pr ro ⟨d,.buildSlice t n ps.toArray,ty,pos,af,g⟩ ev m K:=by
 subst hk
 rw [LOp_buildSlice,he]; exact ⟨hr,Nat.le_of_ble_eq_true hb,hi,by rw [hv]; exact gP.Y2 ys,by rw [hv]; exact h⟩
theorem bj (hx:ev a=.sptr (v :: cs)) (ht:tok P t=true) (ha:tagg P t=false) (h:K v m):LOp P pr ro ⟨d,.load t a,ty,pos,af,g⟩ ev m K:=by
 rw [LOp_load,hx]; simp only [loadC_def,ha,Bool.false_eq_true,if_false]; exact ⟨ht,h⟩
theorem bw (hx:ev a=.sptr cs) (ht:tok P t=true) (ha:tagg P t=true) (hs:tsize P t=n) (hl:Nat.ble n cs.length=true) (hc:cs.take n=dL) (h:K (.agg dL) m):LOp P pr ro ⟨d,.load t a,ty,pos,af,g⟩ ev m K:=by
 subst hc; subst hs
 rw [LOp_load,hx]; simp only [loadC_def,ha,if_true]; exact ⟨ht,Nat.le_of_ble_eq_true hl,h⟩
theorem dv {r:List LV} (hx:ev a=.ptr id o) (hm:m id=some (.box cs)) (hl:Nat.ble o cs.length=true) (hc:cs.drop o=v :: r) (ht:tok P t=true) (ha:tagg P t=false) (h:K v m):LOp P pr ro ⟨d,.load t a,ty,pos,af,g⟩ ev m K:=by
 rw [LOp_load,hx]; simp only [hm,loadC_def,hc,ha,Bool.false_eq_true,if_false]; exact ⟨Nat.le_of_ble_eq_true hl,ht,h⟩
theorem kp (hx:ev a=.ptr id o) (hm:m id=some (.box cs)) (hl:Nat.ble o cs.length=true) (ht:tok P t=true) (ha:tagg P t=true) (hs:tsize P t=n) (Cz:Nat.ble n (cs.drop o).length=true) (hc:(cs.drop o).take n=dL) (h:K (.agg dL) m):LOp P pr ro ⟨d,.load t a,ty,pos,af,g⟩ ev m K:=by
 subst hc; subst hs
 rw [LOp_load,hx]; simp only [hm,loadC_def,ha,if_true]; exact ⟨Nat.le_of_ble_eq_true hl,ht,Nat.le_of_ble_eq_true Cz,h⟩
theorem sx {α:Type} {f:α→LV} {xs:List α} {z:α} {r:List LV} (hx:ev a=.eptr id xs.length j o) (hm:m id=some (.arr el kk (xs.map f))) (hz:xs[j]?=some z) (vw:(f z).cells.all LV.scalar=true) (hl:Nat.ble o (f z).cells.length=true) (hc:(f z).cells.drop o=v :: r) (ht:tok P t=true) (ha:tagg P t=false) (h:K v m):LOp P pr ro ⟨d,.load t a,ty,pos,af,g⟩ ev m K:=by
 rw [LOp_load,hx]; simp only [hm,List.length_map,List.getElem?_map,hz,Option.map_some,loadC_def]
 exact ⟨trivial,f z,rfl,vw,Nat.le_of_ble_eq_true hl,ht,by rw [ha,hc]; exact h⟩
theorem qm {α:Type} {f:α→LV} {xs:List α} {z:α} (hx:ev a=.eptr id xs.length j o) (hm:m id=some (.arr el kk (xs.map f))) (hz:xs[j]?=some z) (vw:(f z).cells.all LV.scalar=true) (hl:Nat.ble o (f z).cells.length=true) (ht:tok P t=true) (ha:tagg P t=true) (hs:tsize P t=n) (Cz:Nat.ble n ((f z).cells.drop o).length=true) (hc:((f z).cells.drop o).take n=dL) (h:K (.agg dL) m):LOp P pr ro ⟨d,.load t a,ty,pos,af,g⟩ ev m K:=by
 subst hc; subst hs
 rw [LOp_load,hx]; simp only [hm,List.length_map,List.getElem?_map,hz,Option.map_some,loadC_def]
 exact ⟨trivial,f z,rfl,vw,Nat.le_of_ble_eq_true hl,ht,by rw [if_pos ha]; exact ⟨Nat.le_of_ble_eq_true Cz,h⟩⟩
theorem cM (hx:ev a=.ptr id o) (hv:ev x=v) (vw:v.cells.all LV.scalar=true) (ht:tok P t=true) (hs:tsize P t=v.cells.length) (hm:m id=some (.box cs)) (hl:Nat.ble (o+v.cells.length) cs.length=true) (hc:rep cs o v.cells=dL) (h:K .fg (m.put id (.box dL))):LOp P pr ro ⟨d,.store t a x,ty,pos,af,g⟩ ev m K:=by
 subst hc
 rw [LOp_store,hv,hx]; simp only [hm]; exact ⟨vw,ht,hs,Nat.le_of_ble_eq_true hl,h⟩
theorem I4 {α β:Type} (f:α→β) (xs:List α) (j:Nat) (z:α):(xs.map f).set j (f z)=(xs.set j z).map f:=by
 simp [List.map_set]
theorem nZ {α:Type} {f:α→LV} {xs:List α} {z z':α} (hx:ev a=.eptr id xs.length j o) (hv:ev x=v) (vw:v.cells.all LV.scalar=true) (hp:LV.bt v.cells=true) (ht:tok P t=true) (hs:tsize P t=v.cells.length) (hm:m id=some (.arr el kk (xs.map f))) (hz:xs[j]?=some z) (hw:By (f z) o v=some (f z')) (h:K .fg (m.put id (.arr el kk ((xs.set j z').map f)))):LOp P pr ro ⟨d,.store t a x,ty,pos,af,g⟩ ev m K:=by
 rw [LOp_store,hv,hx]; simp only [hm]
 exact ⟨vw,ht,hs,by simp,hp,f z,f z',by simp [hz],hw,by rw [I4]; exact h⟩
theorem Gc (hx:ev x=.ptr id o) (h:K (.ptr id o) m):LOp P pr ro ⟨d,.nilCheck x,ty,pos,af,g⟩ ev m K:=by rw [LOp_nilCheck,hx]; exact h
theorem b8 (hx:ev x=.int k u) (hy:ev y=.int k w) (h:K (.int k (k.wrap (u+w))) m):LOp P pr ro ⟨d,.binOp .add t x y t',ty,pos,af,g⟩ ev m K:=by rw [LOp_binOp,hx,hy]; exact ⟨rfl,h⟩
theorem kq (hx:ev x=.int k u) (hy:ev y=.int k w) (h:K (.int k (k.wrap (u - w))) m):LOp P pr ro ⟨d,.binOp .sub t x y t',ty,pos,af,g⟩ ev m K:=by rw [LOp_binOp,hx,hy]; exact ⟨rfl,h⟩
theorem Jd (hx:ev x=.int k u) (hy:ev y=.int k w) (h:K (.int k (k.wrap (u * w))) m):LOp P pr ro ⟨d,.binOp .mul t x y t',ty,pos,af,g⟩ ev m K:=by rw [LOp_binOp,hx,hy]; exact ⟨rfl,h⟩
theorem Yj {r:Int} (hx:ev x=.int k u) (hy:ev y=.int k w) (hr:quo k u w=some r) (h:K (.int k r) m):LOp P pr ro ⟨d,.binOp .quo t x y t',ty,pos,af,g⟩ ev m K:=by
 rw [LOp_binOp,hx,hy]; unfold quo at hr; split at hr
 ·cases hr
 ·rename_i h0; cases hr; exact ⟨rfl,h0,h⟩
theorem TV {r:Int} (hx:ev x=.int k u) (hy:ev y=.int k w) (hr:QX u w=some r) (h:K (.int k r) m):LOp P pr ro ⟨d,.binOp .rem t x y t',ty,pos,af,g⟩ ev m K:=by
 rw [LOp_binOp,hx,hy]; unfold QX at hr; split at hr
 ·cases hr
 ·rename_i h0; cases hr; exact ⟨rfl,h0,h⟩
theorem iX (hx:ev x=.int k u) (hy:ev y=.int k w) (h:K (.bool (u == w)) m):LOp P pr ro ⟨d,.binOp .eql t x y t',ty,pos,af,g⟩ ev m K:=by rw [LOp_binOp,hx,hy]; exact ⟨rfl,h⟩
theorem iC (hx:ev x=.int k u) (hy:ev y=.int k w) (h:K (.bool (u != w)) m):LOp P pr ro ⟨d,.binOp .neq t x y t',ty,pos,af,g⟩ ev m K:=by rw [LOp_binOp,hx,hy]; exact ⟨rfl,h⟩
theorem eG (hx:ev x=.int k u) (hy:ev y=.int k w) (h:K (.bool (decide (u<w))) m):LOp P pr ro ⟨d,.binOp .lss t x y t',ty,pos,af,g⟩ ev m K:=by rw [LOp_binOp,hx,hy]; exact ⟨rfl,h⟩
theorem KV (hx:ev x=.int k u) (hy:ev y=.int k w) (h:K (.bool (decide (u≤w))) m):LOp P pr ro ⟨d,.binOp .leq t x y t',ty,pos,af,g⟩ ev m K:=by rw [LOp_binOp,hx,hy]; exact ⟨rfl,h⟩
theorem jf (hx:ev x=.int k u) (hy:ev y=.int k w) (h:K (.bool (decide (u > w))) m):LOp P pr ro ⟨d,.binOp .gtr t x y t',ty,pos,af,g⟩ ev m K:=by rw [LOp_binOp,hx,hy]; exact ⟨rfl,h⟩
theorem oY (hx:ev x=.int k u) (hy:ev y=.int k w) (h:K (.bool (decide (u ≥ w))) m):LOp P pr ro ⟨d,.binOp .geq t x y t',ty,pos,af,g⟩ ev m K:=by rw [LOp_binOp,hx,hy]; exact ⟨rfl,h⟩
theorem TT (hx:ev x=.bool b) (hy:ev y=.bool c) (ht:xK P t=true) (h:K (.bool (b == c)) m):LOp P pr ro ⟨d,.binOp .eql t x y t',ty,pos,af,g⟩ ev m K:=by rw [LOp_binOp,hx,hy]; exact ⟨ht,h⟩
theorem Yi (hx:ev x=.bool b) (hy:ev y=.bool c) (ht:xK P t=true) (h:K (.bool (!(b == c))) m):LOp P pr ro ⟨d,.binOp .neq t x y t',ty,pos,af,g⟩ ev m K:=by rw [LOp_binOp,hx,hy]; exact ⟨ht,h⟩
theorem Qv (hx:ev x=.agg cs) (hy:ev y=.agg dL) (ht:pV P t cs dL b) (h:K (.bool b) m):LOp P pr ro ⟨d,.binOp .eql t x y t',ty,pos,af,g⟩ ev m K:=by rw [LOp_binOp,hx,hy]; exact ⟨b,ht,h⟩
theorem TU (hx:ev x=.agg cs) (hy:ev y=.agg dL) (ht:pV P t cs dL b) (h:K (.bool (!b)) m):LOp P pr ro ⟨d,.binOp .neq t x y t',ty,pos,af,g⟩ ev m K:=by rw [LOp_binOp,hx,hy]; exact ⟨b,ht,h⟩
theorem eM (hx:ev x=.bool b) (h:K (.bool (!b)) m):LOp P pr ro ⟨d,.unOp .not t x,ty,pos,af,g⟩ ev m K:=by rw [LOp_not,hx]; exact h
theorem Yh (hk:tok P t=true) (ht:tint P t'=some k') (hx:ev x=.int k u) (h:K (.int k' (k'.wrap u)) m):LOp P pr ro ⟨d,.convert t t' x,ty,pos,af,g⟩ ev m K:=by rw [LOp_convert,ht,hx]; exact ⟨hk,h⟩
theorem Vc {α:Type} {xs r:List α} (h:Q5 xs u w=some r):0≤u∧u≤w∧w≤xs.length∧r=(xs.take w.toNat).drop u.toNat:=by
 unfold Q5 at h; split at h
 ·rename_i h0; cases h; exact ⟨h0.1,h0.2.1,h0.2.2,rfl⟩
 ·cases h
theorem ZL {α:Type} {f:α→LV} {xs r:List α} {lo hi:Option Operand} (he:telem P t=some el) (hk:tok P el=true) (hs:tsize P el=kk) (hx:ev x=.lst kk (xs.map f)) (GX:(match lo with | .none=>u=0 | some z=>ev z=.int .i64 u)) (KO:(match hi with | .none=>w=(xs.length:Int) | some z=>ev z=.int .i64 w)) (hr:Q5 xs u w=some r) (h:K (.lst kk (r.map f)) m):LOp P pr ro ⟨d,.slice t x lo hi .none,ty,pos,af,g⟩ ev m K:=by
 obtain ⟨h0,h1,h2,rfl⟩:=Vc hr
 rw [LOp_slice,he,hx]
 refine ⟨rfl,hk,by trivial,by simp [hs],u.toNat,w.toNat,?_,?_,by omega,by simp; omega,?_⟩
 ·cases lo with
  | none=>simp only at GX; subst GX; rfl
  | some z=>simp only at GX ⊢; rw [GX,Int.toNat_of_nonneg h0]
 ·cases hi with
  | none=>simp only at KO; subst KO; simp
  | some z=>simp only at KO ⊢; rw [KO,Int.toNat_of_nonneg (by omega)]
 ·rw [← List.map_take,← List.map_drop]; exact h
theorem fo (hf:tfield P t n=some (off,ft)) (hk:tok P ft=true) (hs:tsize P ft=kk+1) (hx:ev x=.ptr id o) (hi:o+off=i) (h:K (.ptr id i) m):LOp P pr ro ⟨d,.fieldAddr t x n,ty,pos,af,g⟩ ev m K:=by
 subst hi; rw [LOp_fieldAddr,hf,hx]; exact ⟨hk,by rw [hs]; simp,h⟩
theorem aC (hf:tfield P t n=some (off,ft)) (hk:tok P ft=true) (hs:tsize P ft=kk+1) (hx:ev x=.sptr cs) (hl:Nat.ble off cs.length=true) (hi:cs.drop off=dL) (h:K (.sptr dL) m):LOp P pr ro ⟨d,.fieldAddr t x n,ty,pos,af,g⟩ ev m K:=by
 subst hi; rw [LOp_fieldAddr,hf,hx]; exact ⟨hk,by rw [hs]; simp,Nat.le_of_ble_eq_true hl,h⟩
theorem Gb {α:Type} {f:α→LV} {xs:List α} {iP kk':Nat} (hf:tfield P t n=some (off,ft)) (hk:tok P ft=true) (hs:tsize P ft=kk+1) (hx:ev x=.eptr id xs.length j o) (hm:m id=some (.arr iP kk' (xs.map f))) (hi:o+off=i) (h:K (.eptr id xs.length j i) m):LOp P pr ro ⟨d,.fieldAddr t x n,ty,pos,af,g⟩ ev m K:=by
 subst hi; rw [LOp_fieldAddr,hf,hx]; simp only [hm]; exact ⟨hk,by rw [hs]; simp,by simp,h⟩
theorem dp {α:Type} {xs:List α} {z:α} (h:idx xs u=some z):0≤u∧xs[u.toNat]?=some z:=by
 unfold idx at h; split at h
 ·exact ⟨by assumption,h⟩
 ·cases h
theorem eF {α:Type} {f:α→LV} {xs:List α} {z:α} (he:telem P t=some el) (hk:tok P el=true) (hs:tsize P el=kk) (hx:ev x=.lst kk (xs.map f)) (hy:ev y=.int k u) (gP:oR kk f) (hz:idx xs u=some z) (hc:(f z).cells=cs) (h:K (.sptr cs) m):LOp P pr ro ⟨d,.indexAddr t x y,ty,pos,af,g⟩ ev m K:=by
 obtain ⟨h0,h1⟩:=dp hz
 subst hc; subst hs
 rw [LOp_indexAddr,he,hx,hy]
 exact ⟨hk,rfl,h0,f z,by simp [h1],(gP z).2.2,h⟩
theorem fP {α:Type} {f:α→LV} {xs:List α} {z:α} (he:telem P t=some el) (hk:tok P el=true) (hs:tsize P el=kk) (hx:ev x=.arr id xs.length) (hm:m id=some (.arr el kk (xs.map f))) (hy:ev y=.int k u) (hz:idx xs u=some z) (h:K (.eptr id xs.length u.toNat 0) m):LOp P pr ro ⟨d,.indexAddr t x y,ty,pos,af,g⟩ ev m K:=by
 obtain ⟨h0,h1⟩:=dp hz
 subst hs
 have:=(List.getElem?_eq_some_iff.1 h1).1
 rw [LOp_indexAddr,he,hx,hy]; simp only [hm]
 exact ⟨hk,by simp,trivial,h0,by omega,h⟩
theorem fL {vs:List LV} (hx:ev x=.tup vs) (hv:vs[n]?=some v) (h:K v m):LOp P pr ro ⟨d,.extract x n,ty,pos,af,g⟩ ev m K:=by rw [LOp_extract,hx]; exact ⟨v,hv,h⟩
theorem z7 {f:Nat} {cap:List Operand} {vs:List LV} (hv:cap.map ev=vs) (h:K (.fn f vs) m):LOp P pr ro ⟨d,.makeFunc (.func f) #[] cap.toArray,ty,pos,af,g⟩ ev m K:=by rw [LOp_makeFunc,hv]; exact h
theorem Qw {α:Type} {f:α→LV} {z:α} {r:List α} (hi:100+i=id) (he:telem P t=some el) (hz:tzero P el=some (f z)) (hr:fQ P el=true) (hk:tsize P el=kk) (hx:ev x=.int .i64 u) (hy:ev y=.int .i64 u) (hp:(f z).pure=true) (hl:vB z u=some r) (hf:m id=.none) (h:K (.arr id r.length) (m.put id (.arr el kk (r.map f)))):LOp P pr ro ⟨some i,.makeSlice t x y,ty,pos,af,g⟩ ev m K:=by
 subst hi; subst hk
 unfold vB at hl; split at hl
 ·rename_i h0; cases hl
  rw [LOp_makeSlice,he]
  simp only [Option.getD_some,hz,hx,hy]
  exact ⟨trivial,h0.1,h0.2,hr,hp,hf,by simpa using h⟩
 ·cases hl
theorem bW {α:Type} {f:α→LV} {xs:List α} (he:telem P t=some el) (hx:ev x=.lst kk (xs.map f)) (h:K (.int .i64 xs.length) m):LOp P pr ro ⟨d,.call ⟨.builtin .len,#[x],#[t]⟩,ty,pos,af,g⟩ ev m K:=by rw [LOp_len,hx]; exact ⟨by rw [he]; rfl,by simpa using h⟩
theorem z6 {α:Type} {f:α→LV} {xs:List α} {iP:Nat} (he:telem P t=some el) (hx:ev x=.arr id xs.length) (hm:m id=some (.arr iP kk (xs.map f))) (h:K (.int .i64 xs.length) m):LOp P pr ro ⟨d,.call ⟨.builtin .len,#[x],#[t]⟩,ty,pos,af,g⟩ ev m K:=by
 rw [LOp_len,hx]; simp only [hm]; exact ⟨by rw [he]; rfl,by simp,h⟩
theorem RV {α:Type} {xs ys r:List α} (h:app xs ys=some r):xs.length+ys.length≤549755813888∧r=xs++ys:=by
 unfold app at h; split at h
 ·cases h; exact ⟨by assumption,rfl⟩
 ·cases h
theorem rT {α:Type} {f:α→LV} {xs ys r:List α} (he:telem P t=some el) (hr:fQ P el=true) (hs:tsize P el=kk) (hx:ev x=.arr id xs.length) (hm:m id=some (.arr el kk (xs.map f))) (hp:¬ pr id) (hy:ev y=.lst kk (ys.map f)) (hl:app xs ys=some r) (h:K (.arr id r.length) (m.put id (.arr el kk (r.map f)))):LOp P pr ro ⟨some i,.call ⟨.builtin .append,#[x,y],#[t,t]⟩,ty,pos,af,g⟩ ev m K:=by
 obtain ⟨h0,rfl⟩:=RV hl
 subst hs
 rw [LOp_append,he,hy,hx]
 refine ⟨rfl,hr,rfl,?_⟩
 simp only [zf,hm]
 exact ⟨hp,by trivial,by trivial,by simp,by simpa using h0,by simpa using h⟩
theorem dq {f : Nat} {cap args eH : List LV} {xs : List Operand} {ts : Array TypeId} (hx : ev x = .fn f cap) (hf : ∃ fn, P.funcs[f]? = some fn ∧ (fn.name == "runtime.NumGoroutine") = false ∧ fn.body.isNone = false) (ha : xs.map ev ++ cap = args) (hs : fl args eH) (hc : aF P f eH (Mem.of []) v (Mem.of [])) (hp : LV.bt args = true) (h : K v m) : LOp P pr ro ⟨d, .call ⟨.value x, xs.toArray, ts⟩, ty, pos, af, g⟩ ev m K := by
 subst ha
 rw [LOp_call,hx]
 exact ⟨hf,tm.RZ (hc.sub hs) hp m h⟩
theorem ej {f : Nat} {cap args eH : List LV} {xs : List Operand} {ts : Array TypeId} {ml cS : List (Nat × LE)} (hx : ev x = .fn f cap) (hf : ∃ fn, P.funcs[f]? = some fn ∧ (fn.name == "runtime.NumGoroutine") = false ∧ fn.body.isNone = false) (ha : xs.map ev ++ cap = args) (hs : fl args eH) (hc : aF P f eH (Mem.of ml) v (Mem.of cS)) (hm : j8 m ml) (oT : ∀ p ∈ cS, (ml.any fun q => q.1 == p.1) = true ∨ m p.1 = .none) (hr : av (args.map fun x => (0, x)) ml = true) (h : K v (m.over (Mem.of cS))) : LOp P pr ro ⟨d, .call ⟨.value x, xs.toArray, ts⟩, ty, pos, af, g⟩ ev m K := by
 subst ha
 rw [LOp_call,hx]
 exact ⟨hf,aF.My (hc.sub hs) hm oT hr h⟩
def lY (e:Env):List (Nat × LV)→Prop
 | []=>True
 | (i,v) :: r=>Sub (e i) v∧lY e r
theorem lY.at:∀ {l:List (Nat × LV)},lY e l→∀ i,Sub (e i) (Env.of l i)
 | [],_,i=>Sub.fg
 | (j,v) :: r,h,i=>by
  simp only [Env.of]
  split
  ·rename_i hi; subst hi; exact h.1
  ·exact lY.at h.2 i
theorem eN:lY e []:=trivial
def G8 (e:Env):List (Nat × LV)→Prop
 | []=>True
 | (i,v) :: r=>e i=v∧G8 e r
theorem eQ:∀ {l:List (Nat × LV)},G8 e l→lY e l
 | [],_=>trivial
 | (i,v) :: r,h=>⟨h.1 ▸ Sub.rfl,eQ h.2⟩
theorem eC {r:List (Nat × LV)} (h:e i=v) (hr:lY e r):lY e ((i,v) :: r):=⟨h ▸ Sub.rfl,hr⟩
theorem LR (el:List (Nat × LV)) (i:Nat):Env.of (el.map fun p=>(p.1,e p.1)) i=if (el.any fun p=>p.1 == i)=true then e i else .fg:=by
 induction el with
 | nil=>rfl
 | cons p r ih =>
  simp only [List.map_cons,Env.of,List.any_cons]
  by_cases h:i=p.1
  ·simp [h]
  ·rw [if_neg h,ih]
   have:(p.1 == i)=false:=by simpa using fun h'=>h h'.symm
   simp only [this,Bool.false_or]
theorem Jf (el:List (Nat × LV)) (i:Nat) (h:¬ (el.any fun p=>p.1 == i)=true):Env.of el i=.fg:=by
 induction el with
 | nil=>rfl
 | cons p r ih =>
  simp only [List.any_cons,Bool.or_eq_true,not_or] at h
  simp only [Env.of]
  rw [if_neg (fun h'=>h.1 (by simp [h'])),ih h.2]
theorem Wk.to {ml:List (Nat × LE)} {el:List (Nat × LV)} (he:lY e el) (hm:j8 m ml) (hr:av (el.map fun p=>(p.1,e p.1)) ml=true) (mi:∀ id,pr id→m id=.none ∨ Mem.of ml id ≠ .none):Wk pr e m (Env.of el) (Mem.of ml):=by
 refine (Wk.cut (el.map fun p=>(p.1,e p.1)) ml (fun p hp=>?_) hm.all hr mi).trans fun N c a cv=>⟨c,rfl,⟨fun i=>?_,cv.mem,cv.size,cv.defers⟩,.refl pr c⟩
 ·obtain ⟨q,_,rfl⟩:=List.mem_map.1 hp
  rfl
 ·have h1:=cv.env i
  rw [LR] at h1
  by_cases hk:(el.any fun p=>p.1 == i)=true
  ·rw [if_pos hk] at h1; exact he.at i c _ h1
  ·rw [Jf el i hk]; simp [ar]
theorem aN {qJ ml:List (Nat × LE)} (h:(qJ.all fun p=>ml.any fun q=>q.1 == p.1)=true):∀ id,Mem.of qJ id ≠ .none→m id=.none ∨ Mem.of ml id ≠ .none:=by
 intro id cj
 cases hx:Mem.of qJ id with
 | none=>exact absurd hx cj
 | some le=>exact .inr (eL (List.all_eq_true.1 h _ (dS hx)))
theorem cc {qJ:List (Nat × LE)} (h:Mem.of qJ id=.none):¬ (fun id=>Mem.of qJ id ≠ .none) id:=fun h'=>h' h
def tl (id:Nat):List (Nat × LV)→List (Nat × LV)→Prop
 | [],[]=>True
 | p :: r,q :: s=>(q.1=p.1∧(q.2=p.2 ∨ (p.2=.nil∧q.2=.arr id 0)))∧tl id r s
 | _,_=>False
theorem wN:tl id [] []:=trivial
theorem wK {p:Nat × LV} {r s:List (Nat × LV)} (h:tl id r s):tl id (p :: r) (p :: s):=⟨⟨rfl,.inl rfl⟩,h⟩
theorem wO {r s:List (Nat × LV)} (h:tl id r s):tl id ((i,.nil) :: r) ((i,.arr id 0) :: s):=⟨⟨rfl,.inr ⟨rfl,rfl⟩⟩,h⟩
theorem tl.len:∀ {el iP:List (Nat × LV)},tl id el iP→iP.length=el.length
 | [],[],_=>rfl
 | _ :: _,_ :: _,h=>by simp [h.2.len]
theorem tl.get:∀ {el iP:List (Nat × LV)},tl id el iP→∀ i:Nat,∀ p q,el[i]?=some p→iP[i]?=some q→q.1=p.1∧(q.2=p.2 ∨ (p.2=.nil∧q.2=.arr id 0))
 | [],[],_,i,p,q,hp,hq=>by simp at hp
 | a :: r,b :: s,h,0,p,q,hp,hq=>by simp at hp hq; subst hp; subst hq; exact h.1
 | a :: r,b :: s,h,i+1,p,q,hp,hq=>by simp at hp hq; exact h.2.get i p q hp hq
theorem Wk.Ac {el iP:List (Nat × LV)} {ml:List (Nat × LE)} (id e0 k0:Nat) (cj:Mem.of ml id=.none) (hk:Nat.ble 1 k0=true) (h:tl id el iP):Wk pr (Env.of el) (Mem.of ml) (Env.of iP) (Mem.of ((id,.arr e0 k0 []) :: ml)) :=
 Wk.own id e0 k0 cj (Nat.le_of_ble_eq_true hk) h.len h.get
theorem LH.df {Gy:Nat} {Q:Exit→Env→Mem→Prop} (el:List (Nat × LV)) (ml:List (Nat × LE)) (hd:kX N l=true) (h:cJ P N pr l.toArray l (fun e m=>Wk pr e m (Env.of el) (Mem.of ml)) e m) (hr:Q .normal (Env.of el) (Mem.of ml)):LH P N pr (.region Gy l.toArray false) Q e m:=by
 obtain ⟨e',m',hK,dt⟩:=h (p5 hd) (by simp)
 refine ⟨.normal,_,_,nD.post (e':=e') (m':=m') (fun c a hr=>?_) hK,hr⟩
 refine wp_region ?_
 rw [List.size_toArray,List.range_eq_range',wpOps_eq_wpList l 0 (by simp)]
 exact dt c a hr
theorem LH.ax {Gy:Nat} {yc:Code} {Q:Exit→Env→Mem→Prop} (el:List (Nat × LV)) (ml:List (Nat × LE)) (hd:kX N l=true) (h:cJ P N pr l.toArray l (fun e m=>Wk pr e m (Env.of el) (Mem.of ml)) e m) (hr:LH P N pr yc Q (Env.of el) (Mem.of ml)):LH P N pr (.seq (.region Gy l.toArray false) yc) Q e m :=
 LH.seq (LH.df el ml hd h hr)
theorem LH.pE {Gy:Nat} {Q:Exit→Env→Mem→Prop} (yj:P.follows .mixedOrders=true) (ro:List Nat) (ey:List Nat) (el:List (Nat × LV)) (ml:List (Nat × LE)) (hlen:ey.length=l.length) (hd:kX N l=true) (gP:Co l.toArray ey=true)
  (h:cQ P pr ro l.toArray (l.zip ey) (fun e m=>Wk pr e m (Env.of el) (Mem.of ml)) e m) (hr:Q .normal (Env.of el) (Mem.of ml)):LH P N pr (.region Gy l.toArray true) Q e m:=by
 obtain ⟨e',m',hK,hc⟩:=kF _ h
 rw [← rG l ey hlen] at hc
 obtain ⟨ex,e2,m2,h1,h2⟩:=LH.EV (Q:=fun ex e m=>ex=.normal∧e=e'∧m=m') yj ro ey hd gP hc ⟨rfl,rfl,rfl⟩
 obtain ⟨rfl,rfl,rfl⟩:=h2
 exact ⟨.normal,_,_,h1.post hK,hr⟩
section
variable {Q:Exit→Env→Mem→Prop} {M:Env→Mem→Prop} {I:Nat→Env→Mem→Prop}
theorem ai (h:M e m):BK M Q .normal e m:=h
theorem cg (h:Q (.exit i) e m):BK M Q (.exit i) e m:=h
theorem aO (h:Q .ret e m):BK M Q .ret e m:=h
theorem aQ (h:Q .normal e m):l9 j Q .normal e m:=h
theorem bH (h:Q .ret e m):l9 j Q .ret e m:=h
theorem bK (h:Q .normal e m):l9 j Q (.exit j) e m:=by simp only [l9,if_true]; exact h
theorem Cg (hn:Nat.beq i j=false) (h:Q (.exit i) e m):l9 j Q (.exit i) e m:=by simp only [l9]; rw [if_neg (fun h'=>by subst h'; simp at hn)]; exact h
theorem bO (h:Q (.exit i) e m):uS pr I n Q (.exit i) e m:=h
theorem dg (h:Q .ret e m):uS pr I n Q .ret e m:=h
theorem QY {e':Env} {m':Mem} (hw:Wk pr e m e' m') (h:I n e' m'):uS pr I (n+1) Q .normal e m:=⟨e',m',hw,n,Nat.lt_succ_self n,h⟩
end
def Ends (Ce:LV) (rj:List (Nat × LE)) (lv:LV) (m':Mem):Prop:=Sub lv Ce∧m'=Mem.of rj
theorem bP {KL:List LV→Prop} (h:KL []):iS P e m [] KL:=h
theorem bT {KL:List LV→Prop} {r:List ResultVar} (hv:e i=v) (h:iS P e m r fun l=>KL (v :: l)):iS P e m (.tmp i :: r) KL:=by simp only [iS]; rw [hv]; exact h
theorem Qq {KL:List LV→Prop} {r:List ResultVar} (hv:e i=.ptr id o) (hm:m id=some (.box cs)) (hl:Nat.ble o cs.length=true) (ht:tok P t=true) (ha:tagg P t=true) (hs:tsize P t=n) (Cz:Nat.ble n (cs.drop o).length=true) (hc:(cs.drop o).take n=dL) (h:iS P e m r fun l=>KL (.agg dL :: l)):iS P e m (.cell i t :: r) KL:=by
 subst hc; subst hs
 simp only [iS,hv,hm,loadC_def,ha,if_true]; exact ⟨Nat.le_of_ble_eq_true hl,ht,Nat.le_of_ble_eq_true Cz,h⟩
theorem dN {KL:List LV→Prop} {r:List ResultVar} (hv:e i=.sptr cs) (ht:tok P t=true) (ha:tagg P t=true) (hs:tsize P t=n) (Cz:Nat.ble n cs.length=true) (hc:cs.take n=dL) (h:iS P e m r fun l=>KL (.agg dL :: l)):iS P e m (.cell i t :: r) KL:=by
 subst hc; subst hs
 simp only [iS,hv,loadC_def,ha,if_true]; exact ⟨ht,Nat.le_of_ble_eq_true Cz,h⟩
theorem aJ {fn:Func} {rs:List ResultVar} {Ce:LV} {rj:List (Nat × LE)} (hr:fn.results.toList=rs) (h:iS P e m rs fun l=>(∀ p ∈ rj,m p.1=some p.2)∧av [(0,oneOf l)] rj=true∧(∀ id,pr id→m id=.none ∨ Mem.of rj id ≠ .none)∧Sub (oneOf l) Ce):Gx P fn pr (Ends Ce rj) .ret e m:=by
 have key : ∀ (rs : List ResultVar) (K K' : List LV → Prop), (∀ l, K l → K' l) → iS P e m rs K → iS P e m rs K' := by
  intro rs
  induction rs with
  | nil=>intro K K' hk h; exact hk _ h
  | cons r rs ih =>
   intro K K' hk h
   have hl:∀ (t:TypeId) (cs:List LV) (A B:LV→Prop),(∀ x,A x→B x)→loadC P t cs A→loadC P t cs B:=by
    intro t cs A B nf hA
    obtain ⟨ht,hA⟩:=hA
    refine ⟨ht,?_⟩
    split at hA
    ·rename_i hg; rw [if_pos hg]; exact ⟨hA.1,nf _ hA.2⟩
    ·rename_i hg
     rw [if_neg hg]
     match cs,hA with
     | x :: cs,hA=>exact nf _ hA
   cases r with
   | tmp t=>exact ih _ _ (fun l hl=>hk _ hl) h
   | cell a t =>
    simp only [iS] at h ⊢
    cases hx:e a <;> simp only [hx] at h ⊢
    case sptr cs=>exact hl _ _ _ _ (fun lv SF=>ih _ _ (fun l hl=>hk _ hl) SF) h
    case ptr id o =>
     cases hm:m id with
     | none=>simp [hm] at h
     | some le =>
      cases le with
      | map _ _ _=>simp [hm] at h
      | nest _ _ _ _=>simp [hm] at h
      | de _ _ _ _ _ _ _ _=>simp [hm] at h
      | dead=>simp [hm] at h
      | arr _ _ _=>simp [hm] at h
      | box cs =>
       simp only [hm] at h ⊢
       exact ⟨h.1,hl _ _ _ _ (fun lv SF=>ih _ _ (fun l hl=>hk _ hl) SF) h.2⟩
 show iS P e m fn.results.toList _
 rw [hr]
 exact key _ _ _ (fun l ⟨h1,h2,h3,h4⟩=>⟨rj,h1,h2,h3,h4,rfl⟩) h
theorem uR {fn:Func} {rs:List ResultVar} {Ce:LV} {rj:List (Nat × LE)} (hr:fn.results.toList=rs) (h:iS P e m rs fun l=>(∀ p ∈ rj,m p.1=some p.2)∧av [(0,oneOf l)] rj=true∧(∀ id,pr id→m id=.none ∨ Mem.of rj id ≠ .none)∧Sub (oneOf l) Ce):Gx P fn pr (Ends Ce rj) .normal e m:=aJ hr h
theorem bh {f:Nat} {fn:Func} {code:Code} {args:List LV} {qJ rj:List (Nat × LE)} {Ce:LV} (hf:P.funcs[f]?=some fn) (hb:fn.body=some code) (hn:args.length≤fn.ntmps)
  (h:LH P fn.ntmps (fun id=>Mem.of qJ id ≠ .none) code (Gx P fn (fun id=>Mem.of qJ id ≠ .none) (Ends Ce rj)) (Env.args args) (Mem.of qJ)):aF P f args (Mem.of qJ) Ce (Mem.of rj):=by
 obtain ⟨lv,m',h1,h2,rfl⟩:=aF.yw (R:=Ends Ce rj) hf hb hn h
 exact h1.res h2
theorem aG {ml:List (Nat × LE)} (h:j8 m ml):∀ p ∈ ml,m p.1=some p.2:=h.all
theorem bX {ml:List (Nat × LE)}:∀ p ∈ ([]:List (Nat × LE)),(ml.any fun q=>q.1 == p.1)=true ∨ m p.1=.none:=by simp
theorem bu {ml cS:List (Nat × LE)} {le:LE} (h:(ml.any fun q=>q.1 == i)=true) (h2:∀ p ∈ cS,(ml.any fun q=>q.1 == p.1)=true ∨ m p.1=.none):∀ p ∈ (i,le) :: cS,(ml.any fun q=>q.1 == p.1)=true ∨ m p.1=.none:=by
 intro p hp; rcases List.mem_cons.1 hp with rfl | hp
 ·exact .inl h
 ·exact h2 p hp
theorem kE {ml cS:List (Nat × LE)} {le:LE} (h:m i=.none) (h2:∀ p ∈ cS,(ml.any fun q=>q.1 == p.1)=true ∨ m p.1=.none):∀ p ∈ (i,le) :: cS,(ml.any fun q=>q.1 == p.1)=true ∨ m p.1=.none:=by
 intro p hp; rcases List.mem_cons.1 hp with rfl | hp
 ·exact .inr h
 ·exact h2 p hp
end
mutual
theorem ph {id k:Nat} {ys:List LV}:∀ (x:LV),x.bo id=true→x.fv id k ys=x
 | .fg,_ | .int _ _,_ | .bool _,_ | .nil,_ | .slen _,_ | .full _ _,_ | .str _,_ | .it _,_ | .nilf,_ | .nilp,_ | .lst _ _,_=>by simp [LV.fv]
 | .sptr cs,h=>by simp only [LV.bo] at h; simp [LV.fv,h]
 | .arr i n,h=>by simp [LV.bo] at h; simp [LV.fv,h]
 | .ptr i n,h=>by simp [LV.bo] at h; simp [LV.fv,h]
 | .eptr i n j o,h=>by simp [LV.bo] at h; simp [LV.fv,h]
 | .mp i,h=>by simp [LV.bo] at h; simp [LV.fv,h]
 | .agg cs,h=>by simp only [LV.bo] at h; simp only [LV.fv]; rw [jx cs h]
 | .tup cs,h=>by simp only [LV.bo] at h; simp only [LV.fv]; rw [jx cs h]
 | .fn _ cs,h=>by simp only [LV.bo] at h; simp only [LV.fv]; rw [jx cs h]
 | .bfn _ cs,h=>by simp only [LV.bo] at h; simp only [LV.fv]; rw [jx cs h]
theorem jx {id k:Nat} {ys:List LV}:∀ (xs:List LV),LV.cD id xs=true→LV.gj id k ys xs=xs
 | [],_=>by simp [LV.gj]
 | x :: xs,h=>by
  simp only [LV.cD,Bool.and_eq_true] at h
  simp only [LV.gj]; rw [ph x h.1,jx xs h.2]
end
def th (id n:Nat) (lv:LV):List (Nat × LV)→List (Nat × LV)→Prop
 | [],[]=>True
 | p :: r,q :: s=>(q.1=p.1∧((q.2=p.2∧p.2.bo id=true) ∨ (p.2=.arr id n∧q.2=lv)))∧th id n lv r s
 | _,_=>False
theorem fN {id n:Nat} {lv:LV}:th id n lv [] []:=trivial
theorem fK {id n:Nat} {lv:LV} {p:Nat × LV} {r s:List (Nat × LV)} (h0:p.2.bo id=true) (h:th id n lv r s):th id n lv (p :: r) (p :: s):=⟨⟨rfl,.inl ⟨rfl,h0⟩⟩,h⟩
theorem fZ {id n i:Nat} {lv:LV} {r s:List (Nat × LV)} (h:th id n lv r s):th id n lv ((i,.arr id n) :: r) ((i,lv) :: s):=⟨⟨rfl,.inr ⟨rfl,rfl⟩⟩,h⟩
theorem th.sub {id k n:Nat} {ys:List LV} (hn:n=ys.length):∀ {el iP:List (Nat × LV)},th id n (.lst k ys) el iP→∀ i,Sub (Env.of (el.map fun p=>(p.1,p.2.fv id k ys)) i) (Env.of iP i)
 | [],[],_,i=>Sub.rfl
 | p :: r,q :: s,h,i=>by
  obtain ⟨⟨h1,h2⟩,h3⟩:=h
  obtain ⟨pi,pv⟩:=p
  obtain ⟨qi,qv⟩:=q
  simp only at h1 h2
  subst h1
  simp only [List.map_cons,Env.of]
  by_cases hi:i=qi
  ·simp only [hi,if_true]
   rcases h2 with ⟨rfl,h2⟩ | ⟨rfl,rfl⟩
   ·rw [ph _ h2]; exact Sub.rfl
   ·simp only [LV.fv,if_true,hn]; exact Sub.rfl
  ·simp only [hi,if_false]
   exact th.sub hn h3 i
theorem Wk.pj {pr:Nat→Prop} {α:Type} {f:α→LV} {el iP:List (Nat × LV)} {ml:List (Nat × LE)} (id e0 k0:Nat) (xs:List α) (cj:Mem.of ml id=some (.arr e0 k0 (xs.map f))) (nM:tM id ml=true) (mi:¬ pr id) (h:th id xs.length (.lst k0 (xs.map f)) el iP) :
  Wk pr (Env.of el) (Mem.of ml) (Env.of iP) (Mem.of (ml.filter fun q=>q.1 != id)) :=
 (Wk.fv id e0 k0 (xs.map f) cj nM mi).trans fun N c a hr=>⟨c,rfl,⟨fun i=>th.sub (by simp) h i c _ (hr.env i),hr.mem,hr.size,hr.defers⟩,.refl pr c⟩
theorem mN {m:Mem}:j8 m []:=trivial
theorem mC {m:Mem} {i:Nat} {v:LE} {r:List (Nat × LE)} (h:m i=some v) (hr:j8 m r):j8 m ((i,v) :: r):=⟨h,hr⟩
theorem bl:fl [] []:=trivial
theorem aw {x:LV} {xs ys:List LV} (h:fl xs ys):fl (x :: xs) (x :: ys):=⟨Sub.rfl,h⟩
theorem jC {k:Nat} {xs ys:List LV} (h:fl xs ys):fl (.nil :: xs) (.lst k [] :: ys):=⟨Sub.nil,h⟩
theorem sd {x y:LV} {xs ys:List LV} (h0:Sub x y) (h:fl xs ys):fl (x :: xs) (y :: ys):=⟨h0,h⟩
abbrev lvl {α:Type} (k:Nat) (f:α→LV):List α→LV:=fun xs=>.lst k (xs.map f)
theorem eV {b x:Bool} (h:b=true):x=(b && x):=by subst h; simp
theorem lB {b x:Bool} (h:b=false):false=(b && x):=by subst h; simp
theorem mq {b x:Bool} (h:b=true):true=(b || x):=by subst h; simp
theorem gN {b x:Bool} (h:b=false):x=(b || x):=by subst h; simp
theorem fl.head {x y:LV} {xs ys:List LV} (h:fl (x :: xs) (y :: ys)):Sub x y:=h.1
end Go.L
namespace Go.L
section
variable {P:Program} {N:Nat} {pr:Nat→Prop} {ro:List Nat} {ops:Array Oper} {e:Env} {m m':Mem} {ev La:Operand→LV} {o:Oper} {lv:LV} {l:List Oper} {ey:List Nat} {KE:Env→Mem→Prop}
theorem bR.ok (h:bR P pr o ev m lv m'):cw P pr o ev m lv m':=fun c a Q bS hm=>h c a Q (fun x _=>bS x) hm
theorem bR.value (h:∀ (c:Cx) (a:Act),(∀ x ∈ o.op.operands,ar c (ev x) (a.eval x))→cG c m→∃ v c',(execOp a.eval o).run P c.w=.ok (.value v) c'.w∧ar c' lv v∧cG c' m'∧Step pr c c'):bR P pr o ev m lv m':=by
 intro c a Q bS hm
 obtain ⟨v,c',hr,h1,h2,h3⟩:=h c a bS hm
 unfold Oper.wp
 rw [hr]
 exact ⟨v,c',rfl,rfl,h1,h2,h3⟩
theorem bR.skip (hd:o.dst=.none) (h:∀ (c:Cx) (a:Act),(∀ x ∈ o.op.operands,ar c (ev x) (a.eval x))→cG c m→∃ c',(execOp a.eval o).run P c.w=.ok .skip c'.w∧cG c' m'∧Step pr c c'):bR P pr o ev m .fg m':=by
 intro c a Q bS hm
 obtain ⟨c',hr,h2,h3⟩:=h c a bS hm
 unfold Oper.wp
 rw [hr]
 exact ⟨undef,c',by simp [Act.put,hd],rfl,by simp [ar],h2,h3⟩
theorem sX {i:Nat} {op:Op} {ty:TypeId} {pos:String} {af:Array Edge} (h:cw P pr ⟨some i,op,ty,pos,af,.none⟩ (cP e) m lv m') (hr:cJ P N pr ops l KE (e.put i lv) m'):cJ P N pr ops (⟨some i,op,ty,pos,af,.none⟩ :: l) KE e m:=by
 intro hd hl
 obtain ⟨e2,m2,hK,jM⟩:=hr hd (fun q hq=>hl q (by simp [hq]))
 refine ⟨e2,m2,hK,fun c a cv=>?_⟩
 simp only [wpList]
 rw [if_pos (by simp [Region.wanted])]
 left
 refine Oper.wp_mono ?_ (h c a _ cv.ev cv.mem)
 rintro a' w' ⟨v,c',rfl,rfl,hv,j6,hs⟩
 have uf:mZ N c' (e.put i lv) m' (a.put (some i) v):=cv.put (d:=some i) hs j6 (hd ⟨some i,op,ty,pos,af,.none⟩ (hl _ (by simp))) hv
 refine gz _ _ _ _ _ ?_ (jM c' _ uf)
 rintro x RS Rk ⟨hx,c2,qf,hr2,hg2⟩
 exact ⟨hx,c2,qf,hr2,hs.grow.trans hg2⟩
theorem KW {op:Op} {ty:TypeId} {pos:String} {af:Array Edge} (h:cw P pr ⟨.none,op,ty,pos,af,.none⟩ (cP e) m lv m') (hr:cJ P N pr ops l KE e m'):cJ P N pr ops (⟨.none,op,ty,pos,af,.none⟩ :: l) KE e m:=by
 intro hd hl
 obtain ⟨e2,m2,hK,jM⟩:=hr hd (fun q hq=>hl q (by simp [hq]))
 refine ⟨e2,m2,hK,fun c a cv=>?_⟩
 simp only [wpList]
 rw [if_pos (by simp [Region.wanted])]
 left
 refine Oper.wp_mono ?_ (h c a _ cv.ev cv.mem)
 rintro a' w' ⟨v,c',ha,rfl,hv,j6,hs⟩
 have uf:mZ N c' e m' a':=by rw [ha]; exact cv.put (d:=.none) hs j6 (by simp) hv
 refine gz _ _ _ _ _ ?_ (jM c' _ uf)
 rintro x RS Rk ⟨hx,c2,qf,hr2,hg2⟩
 exact ⟨hx,c2,qf,hr2,hs.grow.trans hg2⟩
theorem ZR {i j q:Nat} {want:Bool} {op:Op} {ty:TypeId} {pos:String} {af:Array Edge} (hj:(ops[j]?).bind (·.dst)=some q) (hg:e q=.bool want) (h:cw P pr ⟨some i,op,ty,pos,af,some (j,want)⟩ (cP e) m lv m') (hr:cJ P N pr ops l KE (e.put i lv) m'):cJ P N pr ops (⟨some i,op,ty,pos,af,some (j,want)⟩ :: l) KE e m:=by
 intro hd hl
 obtain ⟨e2,m2,hK,jM⟩:=hr hd (fun q hq=>hl q (by simp [hq]))
 refine ⟨e2,m2,hK,fun c a cv=>?_⟩
 simp only [wpList]
 rw [oQ cv hd rfl hj hg,if_pos (by simp)]
 left
 refine Oper.wp_mono ?_ (h c a _ cv.ev cv.mem)
 rintro a' w' ⟨v,c',rfl,rfl,hv,j6,hs⟩
 have uf:mZ N c' (e.put i lv) m' (a.put (some i) v):=cv.put (d:=some i) hs j6 (hd ⟨some i,op,ty,pos,af,some (j,want)⟩ (hl _ (by simp))) hv
 refine gz _ _ _ _ _ ?_ (jM c' _ uf)
 rintro x RS Rk ⟨hx,c2,qf,hr2,hg2⟩
 exact ⟨hx,c2,qf,hr2,hs.grow.trans hg2⟩
def iZ:LV→Option Value
 | .agg cs=>(eJ cs).map fun vs=>.agg vs.toArray
 | x=>kc x
theorem tE {c:Cx} {x:LV} {u v:Value} (h:kc x=some u) (hr:ar c x v):v=u:=by
 cases x <;> simp [kc] at h <;> subst h <;> simpa [ar] using hr
theorem rL {c:Cx}:∀ {xs:List LV} {us vs:List Value},eJ xs=some us→aE c xs vs→vs=us
 | [],us,vs,h,hr=>by simp [eJ] at h; subst h; simpa [aE] using hr
 | x :: xs,us,vs,h,hr=>by
  simp only [eJ] at h
  split at h
  ·rename_i v0 vs0 h1 h2
   cases h
   simp only [aE] at hr
   obtain ⟨v,fR,rfl,h3,h4⟩:=hr
   rw [tE h1 h3,rL h2 h4]
  ·cases h
theorem pg {c:Cx} {x:LV} {u v:Value} (h:iZ x=some u) (hr:ar c x v):v=u:=by
 cases x
 case agg cs =>
  simp only [iZ,Option.map_eq_some_iff] at h
  obtain ⟨vs,h1,rfl⟩:=h
  simp only [ar] at hr
  obtain ⟨us,rfl,h2⟩:=hr
  rw [rL h1 h2]
 all_goals (simp only [iZ] at h; exact tE h hr)
theorem tD {x y:LV} {u:Value} (h:kc x=some u) (h':kc y=some u):x=y:=by
 cases x <;> simp [kc] at h <;> subst h <;> cases y <;> simp [kc] at h' <;> simp [h']
theorem tF:∀ {xs ys:List LV} {us:List Value},eJ xs=some us→eJ ys=some us→xs=ys
 | [],ys,us,h,h'=>by
  simp [eJ] at h; subst h
  cases ys with
  | nil=>rfl
  | cons y ys=>simp only [eJ] at h'; split at h' <;> cases h'
 | x :: xs,ys,us,h,h'=>by
  simp only [eJ] at h
  split at h
  ·rename_i v0 vs0 h1 h2
   cases h
   cases ys with
   | nil=>simp [eJ] at h'
   | cons y ys =>
    simp only [eJ] at h'
    split at h'
    ·rename_i v1 vs1 h3 h4
     cases h'
     rw [tD h1 h3,tF h2 h4]
    ·cases h'
  ·cases h
theorem tG {x y:LV} {u:Value} (h:iZ x=some u) (h':iZ y=some u):x=y:=by
 have a1:∀ cs v,(eJ cs).map (fun vs:List Value=>Value.agg vs.toArray)=some v→∃ us,eJ cs=some us∧v=.agg us.toArray:=fun cs v hv=>by
  simp only [Option.map_eq_some_iff] at hv
  obtain ⟨us,h1,h2⟩:=hv; exact ⟨us,h1,h2.symm⟩
 cases x
 case agg cs =>
  obtain ⟨us,h1,rfl⟩:=a1 cs u h
  cases y
  case agg ds =>
   obtain ⟨Vt,h2,h3⟩:=a1 ds _ h'
   have:us=Vt:=by simpa using h3
   subst this
   rw [tF h1 h2]
  all_goals simp [iZ,kc] at h'
 all_goals
  cases y
  case agg ds =>
   obtain ⟨Vt,h2,h3⟩:=a1 ds _ h'
   subst h3
   simp [iZ,kc] at h
  all_goals (simp only [iZ] at h h'; exact tD h h')
structure Ms (P:Program) (k:TypeId) (S:Value→Prop):Prop where
 check:∀ (w:World) (em:Bool) (v:Value),S v→(Instr.checkKey em 10000 k v).run P w=.ok () w
 find:∀ (w:World) (x:Value),S x→∀ es:List MapEntry,(∀ e ∈ es,S e.key)→((Instr.findKey k x es).run P w=.ok .none w∧∀ e ∈ es,e.key ≠ x) ∨ ∃ j e,(Instr.findKey k x es).run P w=.ok (some (j,e.val)) w∧es[j]?=some e∧e.key=x
 stays:∀ (w:World) (v:Value),S v→(Instr.keyThatStays v v).run P w=.ok v w
def BM (P:Program) (t:TypeId):Option (Nat × Nat):=match P.underlying t with | some (.map k v)=>some (k,v) | _=>.none
theorem mU {t k v:Nat} (h:BM P t=some (k,v)):P.underlying t=some (.map k v):=by
 unfold BM at h; split at h <;> simp_all
def ib {α β:Type} [DecidableEq α]:List (α × β)→α→Option β
 | [],_=>.none
 | (a,b) :: r,k=>if a=k then some b else ib r k
def eW {α β:Type} [DecidableEq α]:List (α × β)→α→β→List (α × β)
 | [],k,v=>[(k,v)]
 | (a,b) :: r,k,v=>if a=k then (k,v) :: r else (a,b) :: eW r k v
variable {α β:Type} [DecidableEq α] {f:α→LV} {g:β→LV}
abbrev je (f:α→LV) (g:β→LV) (xs:List (α × β)):List (LV × LV):=xs.map fun p=>(f p.1,g p.2)
def y9 (f:α→LV) (S:Value→Prop):Prop:=(∀ x,∃ v,iZ (f x)=some v∧S v∧(f x).pure=true)∧∀ x y,f x=f y→x=y
theorem F9 {xs:List (α × β)} {k:α} (h:∀ p ∈ xs,p.1 ≠ k):ib xs k=.none:=by
 induction xs with
 | nil=>rfl
 | cons p r ih =>
  obtain ⟨a,b⟩:=p
  simp only [ib]
  rw [if_neg (h (a,b) (by simp)),ih fun q hq=>h q (by simp [hq])]
theorem LO {xs:List (α × β)} {k:α} {b:β} {j:Nat} (hn:(xs.map (·.1)).Nodup) (h:xs[j]?=some (k,b)):ib xs k=some b:=by
 induction xs generalizing j with
 | nil=>simp at h
 | cons p r ih =>
  obtain ⟨a,b'⟩:=p
  simp only [List.map_cons,List.nodup_cons] at hn
  simp only [ib]
  cases j with
  | zero=>simp at h; rw [if_pos h.1,h.2]
  | succ j =>
   simp at h
   have:a ≠ k:=fun he=>hn.1 (by subst he; exact List.mem_map.2 ⟨_,List.mem_of_getElem? h,rfl⟩)
   rw [if_neg this]; exact ih hn.2 h
theorem Ga {xs:List (α × β)} {k:α} {v:β} (h:∀ p ∈ xs,p.1 ≠ k):eW xs k v=xs++[(k,v)]:=by
 induction xs with
 | nil=>rfl
 | cons p r ih =>
  obtain ⟨a,b⟩:=p
  simp only [eW]
  rw [if_neg (h (a,b) (by simp)),ih fun q hq=>h q (by simp [hq])]; rfl
theorem I9 {xs:List (α × β)} {k:α} {b v:β} {j:Nat} (hn:(xs.map (·.1)).Nodup) (h:xs[j]?=some (k,b)):eW xs k v=xs.set j (k,v):=by
 induction xs generalizing j with
 | nil=>simp at h
 | cons p r ih =>
  obtain ⟨a,b'⟩:=p
  simp only [List.map_cons,List.nodup_cons] at hn
  simp only [eW]
  cases j with
  | zero=>simp at h; rw [if_pos h.1]; rfl
  | succ j =>
   simp at h
   have:a ≠ k:=fun he=>hn.1 (by subst he; exact List.mem_map.2 ⟨_,List.mem_of_getElem? h,rfl⟩)
   rw [if_neg this,ih hn.2 h]; rfl
omit [DecidableEq α] in
theorem El {c:Cx} {id kt vt:Nat} {S:Value→Prop} {xs:List (α × β)} {v:Value} (hm:cG c m) (cj:m id=some (.map kt vt (je f g xs))) (hv:ar c (.mp id) v) (hf:y9 f S) :
  ∃ b j3 ck,c.B id=some (.mp b)∧v=.map (some b)∧c.w.heap[b]?=some (.map j3 ck)∧j3.toList.length=xs.length∧(∀ (j:Nat) (x:α) (y:β),xs[j]?=some (x,y)→∃ (en:MapEntry) (u:Value),j3.toList[j]?=some en∧iZ (f x)=some en.key∧S en.key∧u=en.val∧ar c (g y) u)∧(xs.map (·.1)).Nodup∧LV.bt (xs.map fun p=>g p.2)=true:=by
 have he:=hm.gH id
 rw [cj] at he
 simp only [bJ] at he
 obtain ⟨b,j3,ck,h1,h2,h3,h4,h5,h6,h7,_⟩:=he
 simp only [ar] at hv
 obtain ⟨b',iG,rfl⟩:=hv
 rw [h1] at iG; cases iG
 have l3:=h3.length
 simp only [je,List.map_map,List.length_map] at l3
 refine ⟨b,j3,ck,h1,rfl,h2,l3.symm,fun j x y hj=>?_,?_,?_⟩
 ·have hk:((je f g xs).map (·.1))[j]?=some (f x):=by simp [je,hj]
  have Pp:((je f g xs).map (·.2))[j]?=some (g y):=by simp [je,hj]
  obtain ⟨k1,SA,WS⟩:=h3.get hk
  obtain ⟨u,hu1,hu2⟩:=h4.get Pp
  simp only [List.getElem?_map,Option.map_eq_some_iff] at SA hu1
  obtain ⟨en,Rs,rfl⟩:=SA
  obtain ⟨VA,VG,rfl⟩:=hu1
  rw [Rs] at VG; cases VG
  obtain ⟨kv,e1,e2,_⟩:=hf.1 x
  have:=pg e1 WS
  exact ⟨en,en.val,Rs,by rw [e1,this],by rw [this]; exact e2,rfl,hu2⟩
 ·simp only [je,List.map_map] at h7
  rw [List.nodup_iff_pairwise_ne] at h7 ⊢
  rw [List.pairwise_map] at h7 ⊢
  exact h7.imp fun {p q} h he=>h (congrArg f he)
 ·simp only [je,List.map_map] at h6; exact h6
omit [DecidableEq α] in
theorem zX {c:Cx} {S:Value→Prop} {xs:List (α × β)} {j3:List MapEntry} (hl:j3.length=xs.length) (h:∀ (j:Nat) (x:α) (y:β),xs[j]?=some (x,y)→∃ (en:MapEntry) (u:Value),j3[j]?=some en∧iZ (f x)=some en.key∧S en.key∧u=en.val∧ar c (g y) u):(∀ en ∈ j3,S en.key)∧∀ (j:Nat) en,j3[j]?=some en→∃ x y,xs[j]?=some (x,y)∧iZ (f x)=some en.key∧ar c (g y) en.val:=by
 have key:∀ (j:Nat) en,j3[j]?=some en→∃ x y,xs[j]?=some (x,y)∧iZ (f x)=some en.key∧S en.key∧ar c (g y) en.val:=fun j en hj=>by
  have hlt:j<xs.length:=by rw [← hl]; exact (List.getElem?_eq_some_iff.1 hj).1
  obtain ⟨VA,u,h1,h2,h3,rfl,h5⟩:=h j xs[j].1 xs[j].2 (by simp [hlt])
  rw [hj] at h1; cases h1
  exact ⟨xs[j].1,xs[j].2,by simp [hlt],h2,h3,h5⟩
 refine ⟨fun en hen=>?_,fun j en hj=>?_⟩
 ·obtain ⟨j,hj⟩:=List.mem_iff_getElem?.1 hen
  obtain ⟨_,_,_,_,h3,_⟩:=key j en hj; exact h3
 ·obtain ⟨x,y,h1,h2,_,h4⟩:=key j en hj; exact ⟨x,y,h1,h2,h4⟩
theorem KH {vt:TypeId} {z:LV} (h:tzero P vt=some z) (w:World):∃ zv,(zeroValue vt).run P w=.ok zv w∧∀ c,ar c z zv:=by
 unfold tzero at h
 split at h
 ·rename_i i hi
  split at h
  ·rename_i zv hz
   split at h
   ·cases h
    exact ⟨zv,by simp [zeroValue,typeInfo,Sem.run,hi,hz],fun c=>lT c zv⟩
   ·cases h
  ·cases h
 ·cases h
theorem look {c:Cx} {id kt vt:Nat} {t:TypeId} {S:Value→Prop} {xs:List (α × β)} {key:α} {z:β} {v kv:Value} (ht:BM P t=some (kt,vt)) (K:Ms P kt S) (hf:y9 f S) (hm:cG c m) (cj:m id=some (.map kt vt (je f g xs))) (hv:ar c (.mp id) v) (hk:ar c (f key) kv) (hz:tzero P vt=some (g z)) (ok:Bool) :
  ∃ u,(Instr.lookup t v kv ok).run P c.w=.ok (if ok then .tuple #[u,.bool (ib xs key).isSome] else u) c.w∧ar c (g ((ib xs key).getD z)) u:=by
 obtain ⟨b,j3,ck,hB,rfl,hh,hlen,qH,hnd,_⟩:=El hm cj hv hf
 obtain ⟨hS,HK⟩:=zX hlen qH
 obtain ⟨k0,e1,e2,_⟩:=hf.1 key
 obtain rfl:k0=kv:=(pg e1 hk).symm
 rcases K.find c.w k0 e2 j3.toList hS with ⟨h1,h2⟩ | ⟨j,en,h1,h2,h3⟩
 ·have sR:ib xs key=.none:=F9 fun p hp he=>by
   obtain ⟨j,hj⟩:=List.mem_iff_getElem?.1 hp
   obtain ⟨en,u,h4,h5,_⟩:=qH j p.1 p.2 hj
   rw [he,e1] at h5
   exact h2 en (List.mem_of_getElem? h4) (Option.some.inj h5).symm
  obtain ⟨zv,vU,BX⟩:=KH hz c.w
  refine ⟨zv,?_,by rw [sR]; exact BX c⟩
  simp [Instr.lookup,run_underlying (mU ht),MapKept.run_getObj_map hh,K.check c.w _ _ e2,h1,vU,Result.andThen,sR]
 ·obtain ⟨x,y,h4,h5,h6⟩:=HK j en h2
  have hx:x=key:=hf.2 x key (tG h5 (by rw [h3]; exact e1))
  subst hx
  have MS:ib xs x=some y:=LO hnd h4
  refine ⟨en.val,?_,by rw [MS]; exact h6⟩
  simp [Instr.lookup,run_underlying (mU ht),MapKept.run_getObj_map hh,K.check c.w _ _ e2,h1,Result.andThen,MS]
theorem uz {id kt vt:Nat} {t:TypeId} {d:Option Nat} {x k:Operand} {ty:TypeId} {pos:String} {af:Array Edge} {gd:Option (Nat × Bool)} {S:Value→Prop} {xs:List (α × β)} {key:α} {z:β} (ht:BM P t=some (kt,vt)) (K:Ms P kt S) (hf:y9 f S) (hx:ev x=.mp id) (cj:m id=some (.map kt vt (je f g xs))) (hk:ev k=f key) (hz:tzero P vt=some (g z)) :
  bR P pr ⟨d,.lookup t x k true,ty,pos,af,gd⟩ ev m (.tup [g ((ib xs key).getD z),.bool (ib xs key).isSome]) m :=
 bR.value fun c a bS hm=>by
  have h1:=bS x (by simp [Op.operands])
  have h2:=bS k (by simp [Op.operands])
  rw [hx] at h1; rw [hk] at h2
  obtain ⟨u,hr,hu⟩:=look ht K hf hm cj h1 h2 hz true
  refine ⟨_,c,by simp [execOp,hr,Result.andThen]; rfl,?_,hm,Step.refl pr c⟩
  simp only [ar,aE]
  exact ⟨[u,.bool (ib xs key).isSome],rfl,u,_,rfl,hu,_,_,rfl,rfl,rfl⟩
theorem LP {xs:List (α × β)} {k:α} {v:β}:(eW xs k v).map (·.1)=if k ∈ xs.map (·.1) then xs.map (·.1) else xs.map (·.1)++[k]:=by
 induction xs with
 | nil=>simp [eW]
 | cons p r ih =>
  obtain ⟨a,b⟩:=p
  simp only [eW]
  by_cases h:a=k
  ·simp [h]
  ·simp only [h,if_false,List.map_cons,ih,List.mem_cons]
   have:¬ k=a:=fun h'=>h h'.symm
   simp only [this,false_or]
   split <;> simp
theorem jg {id kt vt:Nat} {t:TypeId} {x k y:Operand} {ty:TypeId} {pos:String} {af:Array Edge} {gd:Option (Nat × Bool)} {S:Value→Prop} {xs:List (α × β)} {key:α} {val:β} {op:Op} (GY:op=.mapUpdate t x k y ∨ op=.insert t x k y) (ht:BM P t=some (kt,vt)) (K:Ms P kt S) (hf:y9 f S) (hg:∀ y,(g y).pure=true) (hx:ev x=.mp id) (cj:m id=some (.map kt vt (je f g xs))) (hk:ev k=f key) (hy:ev y=g val) :
  bR P pr ⟨.none,op,ty,pos,af,gd⟩ ev m .fg (m.put id (.map kt vt (je f g (eW xs key val)))) :=
 bR.skip rfl fun c a bS hm=>by
  have OV:op.operands=#[x,k,y]:=by rcases GY with rfl | rfl <;> rfl
  have h1:=bS x (by simp [OV])
  have h2:=bS k (by simp [OV])
  have h3:=bS y (by simp [OV])
  rw [hx] at h1; rw [hk] at h2; rw [hy] at h3
  obtain ⟨b,j3,ck,hB,oU,hh,hlen,qH,hnd,hpv⟩:=El hm cj h1 hf
  obtain ⟨hS,HK⟩:=zX hlen qH
  obtain ⟨k0,e1,e2,_⟩:=hf.1 key
  have HV:=pg e1 h2
  have hb:b<c.w.heap.size:=(Array.getElem?_eq_some_iff.1 hh).1
  -- a new table of entries
  have fin : ∀ KJ Mz, (∀ w' : World, w' = { c.w with heap := c.w.heap.setIfInBounds b (.map KJ Mz) } → (Instr.mapUpdate t (.map (some b)) k0 (a.eval y)).run P c.w = .ok () w') →
    (∀ c':Cx,c.Le c'→(∀ i,js (c.B i) (c'.B i))→aE c' ((je f g (eW xs key val)).map (·.1)) (KJ.toList.map (·.key))∧aE c' ((je f g (eW xs key val)).map (·.2)) (KJ.toList.map (·.val)))→Cc KJ Mz →
    ∃ c',(execOp a.eval ⟨.none,op,ty,pos,af,gd⟩).run P c.w=.ok .skip c'.w∧cG c' (m.put id (.map kt vt (je f g (eW xs key val))))∧Step pr c c':=by
   intro KJ Mz dt cv Lm
   obtain ⟨c',hw,iG,h4,h5⟩:=hm.y4 (pr:=pr) id (.map kt vt (je f g (eW xs key val))) (.mp b) { c.w with heap:=c.w.heap.setIfInBounds b (.map KJ Mz) } rfl rfl rfl (Nat.le_refl _) (by simp)
    (fun q hq eE=>by simp only; rw [Array.getElem?_setIfInBounds_ne]; intro he; subst he; exact eE _ hB rfl)
    (fun q hq=>.inl ⟨_,hB,hq⟩) (by rw [hB]; exact js.refl _) (fun _ dr h0=>by rw [hB] at h0; cases h0; exact .refl _)
    (fun c' hw hle hble=>by
     simp only [bJ]
     obtain ⟨r1,r2⟩:=cv c' hle hble
     refine ⟨b,KJ,Mz,rfl,by rw [hw]; simp [hb],r1,r2,?_,?_,?_,Lm⟩
     ·refine c6.2 fun q hq=>?_
      simp only [je,List.map_map,List.mem_map] at hq
      obtain ⟨p,_,rfl⟩:=hq
      obtain ⟨_,_,_,h⟩:=hf.1 p.1; exact h
     ·refine c6.2 fun q hq=>?_
      simp only [je,List.map_map,List.mem_map] at hq
      obtain ⟨p,_,rfl⟩:=hq
      exact hg p.2
     ·have:(je f g (eW xs key val)).map (·.1)=((eW xs key val).map (·.1)).map f:=by simp [je]
      rw [this,LP]
      rw [List.nodup_iff_pairwise_ne,List.pairwise_map,← List.nodup_iff_pairwise_ne.trans ⟨fun h=>h.imp fun {p q} h' he=>h' (hf.2 p q he),fun h=>h.imp fun {p q} h' he=>h' (congrArg f he)⟩]
      split
      ·exact hnd
      ·rename_i Zr
       rw [List.nodup_append]
       refine ⟨hnd,by simp,fun p hp q hq=>?_⟩
       simp at hq; subst hq; exact fun he=>Zr (he ▸ hp))
   refine ⟨c',?_,h4,h5⟩
   rw [hw]
   rcases GY with rfl | rfl <;> simp [execOp,oU,HV,dt _ rfl,Result.andThen]
  have Lm:Cc j3 ck:=by
   have he:=hm.gH id
   rw [cj] at he
   simp only [bJ] at he
   obtain ⟨b2,KJ,Mz,g1,g2,g3,g4,g5,g6,g7,g8⟩:=he
   rw [hB] at g1; cases g1
   rw [hh] at g2; cases g2
   exact g8
  have LK:∀ l:List (α × β),(je f g l).map (·.1)=l.map fun p=>f p.1:=fun l=>by simp [je]
  have Rj:∀ l:List (α × β),(je f g l).map (·.2)=l.map fun p=>g p.2:=fun l=>by simp [je]
  rcases K.find c.w k0 e2 j3.toList hS with ⟨q1,q2⟩ | ⟨j,en,q1,q2,q3⟩
  ·have OY:eW xs key val=xs++[(key,val)]:=Ga fun p hp he=>by
    obtain ⟨j,hj⟩:=List.mem_iff_getElem?.1 hp
    obtain ⟨en,u,h4,h5,_⟩:=qH j p.1 p.2 hj
    rw [he,e1] at h5
    exact q2 en (List.mem_of_getElem? h4) (Option.some.inj h5).symm
   refine fin (j3.push ⟨k0,a.eval y,ck⟩) (ck+1) (fun w' KR=>?_) (fun c' hle hble=>?_) ⟨?_,?_⟩
   rotate_left 2
   ·rw [Array.toList_push,List.map_append,List.nodup_append]
    refine ⟨Lm.1,by simp,fun p hp q hq=>?_⟩
    simp only [List.map_cons,List.map_nil,List.mem_singleton] at hq
    subst hq
    obtain ⟨x,hx,rfl⟩:=List.mem_map.1 hp
    exact Nat.ne_of_lt (Lm.2 x hx)
   ·intro x hx
    rw [Array.toList_push,List.mem_append] at hx
    rcases hx with hx | hx
    ·exact Nat.lt_succ_of_lt (Lm.2 x hx)
    ·simp only [List.mem_singleton] at hx; subst hx; exact Nat.lt_succ_self _
   ·subst KR
    simp [Instr.mapUpdate,run_underlying (mU ht),MapKept.run_getObj_map hh,K.check c.w _ _ e2,q1,MapKept.run_setObj_map _ hh,Result.andThen]
   ·rw [OY,LK,Rj]
    simp only [List.map_append,List.map_cons,List.map_nil,Array.toList_push]
    have he:=hm.gH id
    rw [cj] at he
    simp only [bJ] at he
    obtain ⟨b2,KJ,Mz,g1,g2,g3,g4,g5,g6,g7⟩:=he
    rw [hB] at g1; cases g1
    rw [hh] at g2; cases g2
    rw [LK] at g3 g5; rw [Rj] at g4 g6
    refine ⟨aE.append (aE.mono hle _ _ (fun q hq=>by rw [az _ g5] at hq; cases hq) g3) ?_,aE.append (aE.mono hle _ _ (fun q hq=>by rw [az _ g6] at hq; cases hq) g4) ?_⟩
    ·simp only [aE]
     refine ⟨_,_,rfl,ar.mono hle _ _ (fun q _=>hble q) (by rw [← HV]; exact h2),rfl⟩
    ·simp only [aE]
     exact ⟨_,_,rfl,ar.mono hle _ _ (fun q _=>hble q) h3,rfl⟩
  ·obtain ⟨x0,y0,h4,h5,h6⟩:=HK j en q2
   have Pq:x0=key:=hf.2 x0 key (tG h5 (by rw [q3]; exact e1))
   subst Pq
   have OY:eW xs x0 val=xs.set j (x0,val):=I9 hnd h4
   have ny:j<xs.length:=(List.getElem?_eq_some_iff.1 h4).1
   have HU:j3[j]?=some en:=by simpa using q2
   have Zc:∀ (l:List MapEntry),(l.modify j fun e'=>{ e' with key:=k0,val:=a.eval y }).map (·.born)=l.map (·.born):=fun l=>by
    apply List.ext_getElem?
    intro i
    simp only [List.getElem?_map,List.getElem?_modify]
    cases l[i]? with
    | none=>simp
    | some z=>by_cases tW:j=i <;> simp [tW]
   refine fin (j3.modify j fun e'=>{ e' with key:=k0,val:=a.eval y }) ck (fun w' KR=>?_) (fun c' hle hble=>?_) ⟨by rw [Array.toList_modify,Zc]; exact Lm.1,fun x hx=>?_⟩
   rotate_left 2
   ·rw [Array.toList_modify] at hx
    have:x.born ∈ j3.toList.map (·.born):=by rw [← Zc]; exact List.mem_map.2 ⟨x,hx,rfl⟩
    obtain ⟨z,hz,he⟩:=List.mem_map.1 this
    rw [← he]; exact Lm.2 z hz
   ·subst KR
    simp [Instr.mapUpdate,run_underlying (mU ht),MapKept.run_getObj_map hh,K.check c.w _ _ e2,q1,HU,q3,K.stays c.w _ e2,MapKept.run_setObj_map _ hh,Result.andThen]
   ·rw [OY,LK,Rj]
    have MN:(j3.modify j fun e'=>{ e' with key:=k0,val:=a.eval y }).toList.length=j3.toList.length:=by simp
    constructor
    ·refine aE.of (by simp; simpa using hlen.symm) fun i lx v SG hv=>?_
     simp only [List.getElem?_map,List.getElem?_set,Array.toList_modify,List.getElem?_modify,Option.map_eq_some_iff] at SG
     obtain ⟨p,hp,rfl⟩:=SG
     obtain ⟨FA,VH,rfl⟩:∃ FA,j3.toList[i]?=some FA∧(if j=i then { FA with key:=k0,val:=a.eval y } else FA:MapEntry).key=v:=by
      simp only [List.getElem?_map,Array.toList_modify,List.getElem?_modify] at hv
      cases hq:j3.toList[i]? with
      | none=>rw [hq] at hv; simp at hv
      | some FA=>rw [hq] at hv; simp at hv; exact ⟨FA,rfl,hv⟩
     by_cases tW:j=i
     ·subst tW
      rw [if_pos rfl,if_pos ny] at hp; cases hp
      simp only [if_true]
      exact ar.mono hle _ _ (fun q _=>hble q) (by rw [← HV]; exact h2)
     ·rw [if_neg tW] at hp
      simp only [tW,if_false]
      obtain ⟨Z9,u,r1,r2,r3,r4,r5⟩:=qH i p.1 p.2 hp
      rw [VH] at r1; cases r1
      have he:=hm.gH id
      rw [cj] at he
      simp only [bJ] at he
      obtain ⟨b2,KJ,Mz,g1,g2,g3,g4,g5,g6,g7⟩:=he
      rw [hB] at g1; cases g1
      rw [hh] at g2; cases g2
      rw [LK] at g3
      obtain ⟨v2,s1,s2⟩:=g3.get (i:=i) (x:=f p.1) (by simp [hp])
      simp only [List.getElem?_map,VH,Option.map_some,Option.some.injEq] at s1
      subst s1
      exact ar.mono hle _ _ (fun q _=>hble q) s2
    ·refine aE.of (by simp; simpa using hlen.symm) fun i lx v SG hv=>?_
     simp only [List.getElem?_map,List.getElem?_set,Array.toList_modify,List.getElem?_modify,Option.map_eq_some_iff] at SG
     obtain ⟨p,hp,rfl⟩:=SG
     obtain ⟨FA,VH,rfl⟩:∃ FA,j3.toList[i]?=some FA∧(if j=i then { FA with key:=k0,val:=a.eval y } else FA:MapEntry).val=v:=by
      simp only [List.getElem?_map,Array.toList_modify,List.getElem?_modify] at hv
      cases hq:j3.toList[i]? with
      | none=>rw [hq] at hv; simp at hv
      | some FA=>rw [hq] at hv; simp at hv; exact ⟨FA,rfl,hv⟩
     by_cases tW:j=i
     ·subst tW
      rw [if_pos rfl,if_pos ny] at hp; cases hp
      simp only [if_true]
      exact ar.mono hle _ _ (fun q _=>hble q) h3
     ·rw [if_neg tW] at hp
      simp only [tW,if_false]
      obtain ⟨Z9,u,r1,r2,r3,rfl,r5⟩:=qH i p.1 p.2 hp
      rw [VH] at r1; cases r1
      exact ar.mono hle _ _ (fun q _=>hble q) r5
theorem uA {i id kt vt:Nat} {t:TypeId} {ty:TypeId} {pos:String} {af:Array Edge} {gd:Option (Nat × Bool)} (cj:m id=.none):bR P pr ⟨some i,.makeMap t .none,ty,pos,af,gd⟩ ev m (.mp id) (m.put id (.map kt vt [])) :=
 bR.value fun c a bS hm=>by
  have hB:=hm.fresh cj
  obtain ⟨c',hw,hb,h2,h3⟩:=hm.y4 (pr:=pr) id (.map kt vt []) (.mp c.w.heap.size) (c.w.alloc (.map #[] 0)) rfl rfl rfl (Nat.le_refl _) (by simp)
   (fun b hb _=>o3 c.w _ b hb) (fun b hb=>by simp [BE.has] at hb; subst hb; exact .inr (Nat.le_refl _)) (by rw [hB]; trivial) (fun _ dr h0=>by rw [hB] at h0; cases h0)
   (fun c' hw hle hble=>by
    simp only [bJ]
    exact ⟨c.w.heap.size,#[],0,rfl,by rw [hw]; show (c.w.heap.push _)[c.w.heap.size]?=_; simp,by simp [aE],by simp [aE],rfl,rfl,by simp,⟨by simp,by simp⟩⟩)
  refine ⟨.map (some c.w.heap.size),c',?_,?_,h2,h3⟩
  ·rw [hw]; rfl
  ·simp only [ar]; exact ⟨_,hb,rfl⟩
end
theorem rM {kd:IntKind} {a:Int}:∀ (es:List MapEntry) (i:Nat),(∀ e ∈ es,∃ n,e.key=.int kd n)→(Instr.findNow (.int kd) (.int kd a) es i=some .none∧∀ e ∈ es,e.key ≠ .int kd a) ∨ ∃ j e,Instr.findNow (.int kd) (.int kd a) es i=some (some (i+j,e.val))∧es[j]?=some e∧e.key=.int kd a
 | [],i,_=>.inl ⟨rfl,by simp⟩
 | e :: es,i,h=>by
  obtain ⟨n,hn⟩:=h e (by simp)
  by_cases he:a=n
  ·subst he
   exact .inr ⟨0,e,by simp [Instr.findNow,hn,Instr.sameNow],rfl,hn⟩
  ·have hs:Instr.sameNow (.int kd) (.int kd a) e.key=some false:=by simp [hn,Instr.sameNow,he]
   rcases rM (a:=a) es (i+1) (fun e' Cw=>h e' (by simp [Cw])) with ⟨h1,h2⟩ | ⟨j,e',h1,h2,h3⟩
   ·refine .inl ⟨by simp [Instr.findNow,hs,h1],fun e' Cw=>?_⟩
    rcases List.mem_cons.1 Cw with rfl | Cw
    ·rw [hn]; intro h'; cases h'; exact he rfl
    ·exact h2 e' Cw
   ·exact .inr ⟨j+1,e',by simp only [Instr.findNow,hs,h1,Option.some.injEq,Prod.mk.injEq,and_true]; omega,by simpa using h2,h3⟩
theorem Fu {P:Program} {k:TypeId} {kd:IntKind} (hk:P.underlying k=some (.int kd)) (w:World) (em:Bool) (a:Int) (n:Nat):(Instr.checkKey em (n+1) k (.int kd a)).run P w=.ok () w:=by
 simp only [Instr.checkKey]; simp [run_underlying hk]
theorem Ya {P:Program} {k:TypeId} {kd:IntKind} (hk:P.underlying k=some (.int kd)):Ms P k (fun v=>∃ n,v=.int kd n) where
 check:=fun w em v ⟨n,hn⟩=>by subst hn; exact Fu hk w em n 9999
 find:=fun w x ⟨a,ha⟩ es MG=>by
  subst ha
  rcases rM (a:=a) es 0 MG with ⟨h1,h2⟩ | ⟨j,e,h1,h2,h3⟩
  ·exact .inl ⟨by simp [Instr.findKey,run_underlying hk,h1],h2⟩
  ·exact .inr ⟨j,e,by simp [Instr.findKey,run_underlying hk,h1],h2,h3⟩
 stays:=fun w v ⟨n,hn⟩=>by subst hn; simp [Instr.keyThatStays,Instr.sameBits]
theorem kfI {kd:IntKind}:y9 (LV.int kd) (fun v=>∃ n,v=.int kd n):=⟨fun x=>⟨.int kd x,rfl,⟨x,rfl⟩,rfl⟩,fun x y h=>by cases h; rfl⟩
theorem D7 {P:Program} {k:TypeId} {α:Type} [DecidableEq α] {enc:α→Value} (heq:∀ x y w,(Op.equal k (enc x) (enc y)).run P w=.ok (decide (x=y)) w) (w:World) (x:α):∀ (es:List MapEntry) (i:Nat),(∀ e ∈ es,∃ y,e.key=enc y)→((Instr.findAsking k (enc x) es i).run P w=.ok .none w∧∀ e ∈ es,e.key ≠ enc x) ∨ ∃ j e,(Instr.findAsking k (enc x) es i).run P w=.ok (some (i+j,e.val)) w∧es[j]?=some e∧e.key=enc x
 | [],i,_=>.inl ⟨by simp [Instr.findAsking],by simp⟩
 | e :: es,i,h=>by
  obtain ⟨y,hy⟩:=h e (by simp)
  by_cases he:x=y
  ·subst he
   exact .inr ⟨0,e,by simp [Instr.findAsking,hy,heq],rfl,hy⟩
  ·have eE:¬ e.key=enc x:=fun h'=>by
    have h1:=heq x y w
    rw [← hy,h',heq x x w] at h1
    simp [he] at h1
   rcases D7 heq w x es (i+1) (fun e' Cw=>h e' (by simp [Cw])) with ⟨h1,h2⟩ | ⟨j,e',h1,h2,h3⟩
   ·refine .inl ⟨by simp [Instr.findAsking,hy,heq,he,h1],fun e' Cw=>?_⟩
    rcases List.mem_cons.1 Cw with rfl | Cw
    ·exact eE
    ·exact h2 e' Cw
   ·exact .inr ⟨j+1,e',by simp [Instr.findAsking,hy,heq,he,h1]; omega,by simpa using h2,h3⟩
theorem Yb {P:Program} {k:TypeId} {ds:TypeDesc} {α:Type} [DecidableEq α] {enc:α→Value} (hk:P.underlying k=some ds) (sR:∀ x y,Instr.sameNow ds (enc x) (enc y)=.none) (BT:∀ w em x,(Instr.checkKey em 10000 k (enc x)).run P w=.ok () w) (heq:∀ x y w,(Op.equal k (enc x) (enc y)).run P w=.ok (decide (x=y)) w) (vy:∀ x,Instr.sameBits 10000 (enc x) (enc x)=true):Ms P k (fun v=>∃ x,v=enc x) where
 check:=fun w em v ⟨x,hx⟩=>by subst hx; exact BT w em x
 find:=fun w v ⟨x,hx⟩ es MG=>by
  subst hx
  cases es with
  | nil=>exact .inl ⟨by simp [Instr.findKey,run_underlying hk,Instr.findNow],by simp⟩
  | cons e es =>
   obtain ⟨y,hy⟩:=MG e (by simp)
   have hn:Instr.findNow ds (enc x) (e :: es) 0=.none:=by simp [Instr.findNow,hy,sR]
   have dt:(Instr.findKey k (enc x) (e :: es)).run P w=(Instr.findAsking k (enc x) (e :: es) 0).run P w:=by simp [Instr.findKey,run_underlying hk,hn]
   rcases D7 heq w x (e :: es) 0 MG with ⟨h1,h2⟩ | ⟨j,e',h1,h2,h3⟩
   ·exact .inl ⟨by rw [dt,h1],h2⟩
   ·exact .inr ⟨j,e',by rw [dt,h1]; simp,h2,h3⟩
 stays:=fun w v ⟨x,hx⟩=>by subst hx; simp [Instr.keyThatStays,vy]
theorem Wh {P:Program} {t:TypeId} {xs ys:List LV} {us vs:List Value} {b:Bool} (h:pV P t xs ys b) (hx:eJ xs=some us) (hy:eJ ys=some vs) (w:World):(Op.equal t (.agg us.toArray) (.agg vs.toArray)).run P w=.ok b w:=by
 obtain ⟨_,Vt,fR,h1,h2,h3⟩:=h
 rw [hx] at h1; rw [hy] at h2; cases h1; cases h2
 exact h3 w
end Go.L
namespace Go.L
section
variable {P:Program}
theorem jn (w:World) (dT sT ty elem:TypeId) (k g o zl K4:Nat) (a:Addr) (jW qq:Nat) (cur:Array Value) (t:TypeId) (cs:List Value)
  (hu:P.underlying dT=some (.slice elem)) (hs:∀ w,(sizeOf elem).run P w=.ok k w)
  (hg:w.heap[g]?=some (.cells cur t (0,0))) (hn:cs.length=Nat.min jW zl * k)
  (hsrc:∀ j v,cs[j]?=some v→w.cell? (a.add j)=some v) (hfit:o+cs.length≤cur.size) (h1:∀ v ∈ cs,v.oneCell'=true) :
  (Builtin.copy_ #[dT,sT] ty #[.slice (some ⟨g,o,none⟩) zl K4,.slice (some a) jW qq]).run P w =
   .ok (goInt (Nat.min jW zl)) (w.setRow g (cur.toList.take o++cs++cur.toList.drop (o+cs.length)).toArray):=by
 have hl:=run_firstCells_some (P:=P) w k (Nat.min jW zl) a jW qq cs hn hsrc
 have vy:=run_storeCells_at P g o t cs 0 cur w hg (by simpa using hfit) h1
 simp only [Nat.add_zero] at vy
 simp [Builtin.copy_,run_underlying hu,Builtin.lenOf,hs,hl,vy]
theorem nz (w:World) (t tn ty e:TypeId) (i:TypeInfo) (z:Value) (kk kn:IntKind) (ht:P.underlying t=some (.slice e)) (XA:P.underlying tn=some (.int kn)) (hi:P.info? e=some i) (hz:i.zero=some z)
  (b:Addr) (jW qq:Nat) (LZ:List Value) (GX:LZ.length=jW * i.size) (holds:∀ j v,LZ[j]?=some v→w.cell? (b.add j)=some v)
  (n:Nat) (h0:0<n) (hs:0<i.size) (MJ:qq<jW+n) (Wn:((jW+n:Nat):Int)≤9223372036854775807) (h48:n * i.bytes≤281474976710656) (hfit:Builtin.nextslicecap (jW+n) qq * i.bytes≤281474976710656) :
  (Builtin.append_ #[t,tn] ty #[.slice (some b) jW qq,.int kk n]).run P w =
   .ok (.slice (some ⟨w.heap.size,0,none⟩) (jW+n) (grownCap w (jW+n) qq e)) (w.drew.alloc (.cells (LZ.toArray++Builtin.zeroCells z.cells n++Builtin.zeroCells z.cells (grownCap w (jW+n) qq e - (jW+n))) e)):=by
 have hn:¬ (jW+n≤qq):=by omega
 have hw:IntKind.i64.wrap (n:Int)=n:=by rw [IntKind.wrap_i64]; omega
 have Wo:¬ (9223372036854775807<((jW:Int)+(n:Int))):=by omega
 have Wl:¬ (281474976710656<Builtin.nextslicecap (jW+n) qq * i.bytes):=by omega
 have Wm:¬ (281474976710656<(n:Int) * (i.bytes:Int)):=by
  rw [← Int.natCast_mul]
  omega
 have OU:¬ ((n:Int)<0):=by omega
 have KQ:n ≠ 0:=by omega
 have hns:¬ (n * i.size=0):=Nat.mul_ne_zero KQ (by omega)
 have hfo:=run_firstCells_some (P:=P) w.drew i.size jW b jW qq LZ GX (by simpa using holds)
 simp [Builtin.append_,run_underlying ht,run_underlying XA,sizeOf,typeInfo,zeroValue,hi,hz,asInt,asIntOf,hw,hn,KQ,OU,hns,Wo,Wl,Wm,Question.forced,hfo,newRow,grownCap]
theorem ku {ops:Array Oper} {o:Oper} {a:Act} {w:World} {K:Act→World→Prop} {Q:Exit→Act→World→Prop} {E:Prop}
  (hg:o.guard=none) (d x:Operand) (dT sT:TypeId) (GY:o.op=Op.call { callee:=Callee.builtin Builtin.copy,args:=#[d,x],argTypes:=#[dT,sT] })
  (v u:Value) (hd:a.eval d=v) (hx:a.eval x=u) {v':Value} {w':World} (hr:(Builtin.copy_ #[dT,sT] o.type #[v,u]).run P w=.ok v' w') (hK:K (a.put o.dst v') w') :
  if Region.wanted o (yielded ops a.tmps)=true then Oper.wp P o a w K Q else E:=by
 have hw:Region.wanted o (yielded ops a.tmps)=true:=by simp [Region.wanted,hg]
 rw [if_pos hw]
 unfold Oper.wp
 simp [execOp,GY,resolve,invoke,builtin,hd,hx,hr,Result.andThen]
 exact hK
structure kH (w w':World) (e k:Nat) (u u':Value) (n':Nat) (y6:List Value):Prop where
 own:w'.ownsRow 0 e k u' n' y6
 grown:w.grownBy w' u.ownBlock
 nF:∀ b,u'.ownBlock=some b→u.ownBlock=some b ∨ w.heap.size≤b
 drawn:w.drawn≤w'.drawn
theorem lC {t t' ty ty':TypeId} {vs:Array Value}:Builtin.append_ #[t,t'] ty vs=Builtin.append_ #[t,t'] ty' vs:=rfl
end
end Go.L
namespace Go.L
section
variable {P:Program} {N:Nat} {pr:Nat→Prop} {ops:Array Oper} {e:Env} {m m':Mem} {ev:Operand→LV} {o:Oper} {lv:LV} {l:List Oper} {KE:Env→Mem→Prop}
def HB (id:Nat) (m:Mem):Prop:=∀ j le,j ≠ id→m j=some le→le.iU id=true
theorem HB.of {id:Nat} {ml:List (Nat × LE)} (h:tM id ml=true):HB id (Mem.of ml):=nK h
theorem cG.YK {c:Cx} (h:cG c m) (id:Nat) (le:LE) (be:BE) (w':World)
  (GZ:w'.os=c.w.os) (qe:w'.tape=c.w.tape) (nP:w'.output=c.w.output) (zB:c.w.drawn≤w'.drawn) (gm:c.w.heap.size≤w'.heap.size)
  (iH:∀ b,b<c.w.heap.size→(∀ dr,c.B id=some dr→¬ dr.has b)→w'.heap[b]?=c.w.heap[b]?)
  (hblk:∀ b,be.has b→(∃ dr,c.B id=some dr∧dr.has b) ∨ c.w.heap.size≤b)
  (mi:¬ pr id) (kY:HB id m) (gM:∀ c':Cx,c'.w=w'→c.Le c'→bJ c' (some le) (some be)) :
  ∃ c':Cx,c'.w=w'∧c'.B id=some be∧cG c' (m.put id le)∧Grow pr c c'∧∀ i,i ≠ id→js (c.B i) (c'.B i):=by
 let c':Cx:=⟨w',fun i=>if i=id then some be else c.B i,c.O⟩
 have bN:∀ b,c'.own b→c.own b ∨ c.w.heap.size≤b:=by
  rintro b ⟨i,dK,h1,h2⟩
  by_cases hi:i=id
  ·simp only [c',hi,if_true] at h1
   cases h1
   rcases hblk b h2 with ⟨dr,h3,h4⟩ | hs
   ·exact .inl ⟨id,dr,h3,h4⟩
   ·exact .inr hs
  ·simp only [c',hi,if_false] at h1
   exact .inl ⟨i,dK,h1,h2⟩
 have eK:Grow pr c c':=by
  refine ⟨rfl,GZ,qe,nP,zB,gm,fun b hb ho=>iH b hb (fun dr h0 h1=>ho ⟨id,dr,h0,h1⟩),bN,fun i dK hp hb=>?_⟩
  by_cases hi:i=id
  ·subst hi; exact absurd hp mi
  ·exact ⟨dK,by simp only [c',hi,if_false]; exact hb,.refl dK⟩
 have hble:∀ i,i ≠ id→js (c.B i) (c'.B i):=by
  intro i hi
  simp only [c',hi,if_false]; exact js.refl _
 refine ⟨c',rfl,by simp [c'],⟨fun i=>?_,?_,?_,?_⟩,eK,hble⟩
 ·by_cases hi:i=id
  ·subst hi; simp only [c',Mem.put,if_true]; exact gM c' rfl eK.le
  ·simp only [Mem.put,hi,if_false]
   have hBi:c'.B i=c.B i:=by simp [c',hi]
   rw [hBi]
   have hh:∀ dK b,c.B i=some dK→dK.has b→c'.w.heap[b]?=c.w.heap[b]?:=fun dK b hb tO =>
    iH b ((h.gH i).lt hb tO) fun dr h0 h1=>hi (h.inj i id dK dr b hb h0 tO h1)
   have he:=h.gH i
   cases yX:m i with
   | none=>rw [yX] at he; simpa only [bJ] using he
   | some nW =>
    rw [yX] at he
    cases nW with
    | box cs =>
     simp only [bJ] at he ⊢
     obtain ⟨b,vs,ee,h1,h2,h3,h4⟩:=he
     exact ⟨b,vs,ee,h1,(hh _ b h1 rfl).trans h2,aE.mono eK.le cs vs (fun j hj=>by
      by_cases Eg:j=id
      ·subst Eg; have h9:=kY i _ hi yX; simp only [LE.iU] at h9; rw [h9] at hj; cases hj
      ·exact hble j Eg) h3,h4⟩
    | arr ee k xs =>
     simp only [bJ] at he ⊢
     obtain ⟨u,vs,h1,h0,h2,h3,h4,h5⟩:=he
     exact ⟨u,vs,h1,h0,cV h2 (fun b hb=>hh _ b h1 (.inl hb)),aE.mono eK.le xs vs (fun j hj=>by rw [az xs h5] at hj; cases hj) h3,h4,h5⟩
    | nest ee k os xs =>
     simp only [bJ] at he ⊢
     obtain ⟨u,vs,bs,h1,h0,h2,h3,h4⟩:=he
     exact ⟨u,vs,bs,h1,h0,cV h2 (fun b hb=>hh _ b h1 (.inl hb)),h3.mono eK.le (fun b hb=>hh _ b h1 (.inr hb)),h4⟩
    | de ee k os xs i1 o1 id2 n2 =>
     simp only [bJ] at he ⊢
     obtain ⟨u,vs,bs,h1,h0,h2,h3,⟨ws,v,q1,q2,q3⟩,h4⟩:=he
     exact ⟨u,vs,bs,h1,h0,cV h2 (fun b hb=>hh _ b h1 (.inl hb)),h3.mono eK.le (fun b hb=>hh _ b h1 (.inr hb)),⟨ws,v,q1,(qW (hh _ ws h1 (.inl q1)) _).trans q2,ar.mono eK.le (.arr id2 n2) v (fun j hj=>by
      by_cases Eg:j=id
      ·subst Eg; have h9:=kY i _ hi yX; simp only [LE.iU] at h9; simp only [LV.bo] at hj; rw [h9] at hj; cases hj
      ·exact hble j Eg) q3⟩,h4⟩
    | dead=>simpa only [bJ] using he
    | map kt vt es =>
     simp only [bJ] at he ⊢
     obtain ⟨b,j3,ck,h1,h2,h3,h4,h5,h6,h7⟩:=he
     exact ⟨b,j3,ck,h1,(hh _ b h1 rfl).trans h2,aE.mono eK.le _ _ (fun j hj=>by rw [az _ h5] at hj; cases hj) h3,aE.mono eK.le _ _ (fun j hj=>by rw [az _ h6] at hj; cases hj) h4,h5,h6,h7⟩
 ·intro i i' b1 b2 b h1 h2 h3 h4
  by_cases hi:i=id <;> by_cases fD:i'=id
  ·rw [hi,fD]
  ·simp only [c',hi,if_true] at h1
   simp only [c',fD,if_false] at h2
   cases h1
   rcases hblk b h3 with ⟨dr,h5,h6⟩ | hs
   ·rw [hi]; exact h.inj id i' dr b2 b h5 h2 h6 h4
   ·have:=(h.gH i').lt h2 h4; omega
  ·simp only [c',hi,if_false] at h1
   simp only [c',fD,if_true] at h2
   cases h2
   rcases hblk b h4 with ⟨dr,h5,h6⟩ | hs
   ·rw [fD]; exact h.inj i id b1 dr b h1 h5 h3 h6
   ·have:=(h.gH i).lt h1 h3; omega
  ·simp only [c',hi,if_false] at h1
   simp only [c',fD,if_false] at h2
   exact h.inj i i' b1 b2 b h1 h2 h3 h4
 ·intro b ho hO
  rcases bN b ho with ho | hs
  ·exact h.jT b ho hO
  ·have:=h.vu b hO; omega
 ·intro b hO; exact Nat.lt_of_lt_of_le (h.vu b hO) gm
def Env.drop (e:Env) (id:Nat):Env:=fun i=>if (e i).bo id=true then e i else .fg
def tj (P:Program) (pr:Nat→Prop) (id:Nat) (o:Oper) (ev:Operand→LV) (m:Mem) (lv:LV) (m':Mem):Prop :=
 ∀ (c:Cx) (a:Act) (Q:Exit→Act→World→Prop),(∀ x,ar c (ev x) (a.eval x))→cG c m →
  o.wp P a c.w (fun a' w'=>∃ v c',a'=a.put o.dst v∧c'.w=w'∧ar c' lv v∧cG c' m'∧Grow pr c c'∧∀ i,i ≠ id→js (c.B i) (c'.B i)) Q
theorem Kj {i id:Nat} {op:Op} {ty:TypeId} {pos:String} {af:Array Edge} (h:tj P pr id ⟨some i,op,ty,pos,af,.none⟩ (cP e) m lv m') (hr:cJ P N pr ops l KE ((e.drop id).put i lv) m'):cJ P N pr ops (⟨some i,op,ty,pos,af,.none⟩ :: l) KE e m:=by
 intro hd hl
 obtain ⟨e2,m2,hK,jM⟩:=hr hd (fun q hq=>hl q (by simp [hq]))
 refine ⟨e2,m2,hK,fun c a cv=>?_⟩
 simp only [wpList]
 rw [if_pos (by simp [Region.wanted])]
 left
 refine Oper.wp_mono ?_ (h c a _ cv.ev cv.mem)
 rintro a' w' ⟨v,c',rfl,rfl,hv,j6,hg,hble⟩
 have hlt:i<N:=hd ⟨some i,op,ty,pos,af,.none⟩ (hl _ (by simp)) i rfl
 have uf:mZ N c' ((e.drop id).put i lv) m' (a.put (some i) v):=by
  refine ⟨fun j=>?_,j6,by simp [Act.put,cv.size],cv.defers⟩
  simp only [Env.put,Act.put]
  by_cases hj:j=i
  ·subst hj
   have:j<a.tmps.size:=by rw [cv.size]; exact hlt
   simpa [this] using hv
  ·simp only [hj,if_false]
   have:ar c' (e.drop id j) (a.tmps.getD j undef):=by
    simp only [Env.drop]
    split
    ·rename_i hn
     exact ar.mono hg.le _ _ (fun q hq=>hble q (fun LA=>by subst LA; rw [hn] at hq; cases hq)) (cv.env j)
    ·simp only [ar]
   simpa [Array.getElem?_setIfInBounds_ne (Ne.symm hj)] using this
 refine gz _ _ _ _ _ ?_ (jM c' _ uf)
 rintro x RS Rk ⟨hx,c2,qf,hr2,hg2⟩
 exact ⟨hx,c2,qf,hr2,hg.trans hg2⟩
theorem qY {k:Nat}:∀ {vs:List Value} (h:∀ v ∈ vs,v.cells.size=k) (i:Nat),(flat vs).take (i * k)=flat (vs.take i)
 | [],_,i=>by simp [flat]
 | v :: vs,h,0=>by simp [flat]
 | v :: vs,h,i+1=>by
  have hv:=h v (by simp)
  rw [gC,List.take_succ_cons,gC,List.take_append,Nat.succ_mul]
  have e1:(i * k+k) - v.cells.toList.length=i * k:=by simp [hv]
  rw [e1,qY (fun u hu=>h u (by simp [hu])) i,List.take_of_length_le (by simp [hv])]
theorem wy {k:Nat}:∀ {vs:List Value} (h:∀ v ∈ vs,v.cells.size=k) (i:Nat),(flat vs).drop (i * k)=flat (vs.drop i)
 | [],_,i=>by simp [flat]
 | v :: vs,h,0=>by simp [flat]
 | v :: vs,h,i+1=>by
  have hv:=h v (by simp)
  rw [gC,List.drop_succ_cons,List.drop_append,Nat.succ_mul]
  have e1:(i * k+k) - v.cells.toList.length=i * k:=by simp [hv]
  rw [e1,wy (fun u hu=>h u (by simp [hu])) i,List.drop_of_length_le (by simp [hv])]
  rfl
theorem tK {vs:List Value} (h:∀ v ∈ vs,∀ y ∈ v.cells,y.oneCell'=true):∀ y ∈ flat vs,y.oneCell'=true:=by
 intro y hy
 simp only [flat,List.mem_flatMap] at hy
 obtain ⟨v,hv,hy⟩:=hy
 exact h v hv y (by simpa using hy)
def RQ (P:Program) (f e k:Nat):Prop:=∀ (u:Value) (n i:Nat) (xs:List Value) (v:Value) (vs:List Value) (w:World),w.ownsRow 0 e k u n xs→(∀ y ∈ xs,y.oneCell'=true)→i≤n→n≤549755813887→w.ownsRow 0 e k v 1 vs→(∀ y ∈ vs,y.oneCell'=true)→(∀ b,v.ownBlock=some b→u.ownBlock ≠ some b) →
 Calls P f #[u,.int .i64 i,v] w fun en w'=>∃ u',en=.returned u'∧kH w w' e k u u' (n+1) (xs.take (i * k)++vs++xs.drop (i * k))
def te (P:Program) (f e k:Nat):Prop:=∀ (a:Option Addr) (n cap:Nat) (news:List Value) (w:World),news.length=n * k→(a=none→n=0)→(∀ ad,a=some ad→∀ j u,news[j]?=some u→w.cell? (ad.add j)=some u)→(∀ u ∈ news,u.oneCell'=true)→n≤549755813888 →
 Calls P f #[.slice a n cap] w fun en w'=>∃ u',en=.returned u'∧kH w w' e k (.slice none 0 0) u' n news
def LI {α:Type} (xs:List α) (i:Int) (z:α):Option (List α):=if 0≤i∧i≤xs.length∧xs.length≤549755813887 then some (xs.take i.toNat++[z]++xs.drop i.toNat) else .none
theorem Oj {f : Nat} {xs : Array Operand} {ts : Array TypeId} {d : Option Nat} {ty : TypeId} {pos : String} {af : Array Edge} {gd : Option (Nat × Bool)} (hf : ∃ fn, P.funcs[f]? = some fn ∧ (fn.name == "runtime.NumGoroutine") = false ∧ fn.body.isNone = false) (a : Act) (w : World) :
  (execOp a.eval ⟨d,.call ⟨.value (.func f),xs,ts⟩,ty,pos,af,gd⟩).run P w=.ok (.enter f (xs.map a.eval)) w:=by
 obtain ⟨fn,hf,ua,nL⟩:=hf
 have px : ¬ fn.name = "runtime.NumGoroutine" := by simpa using ua
 have po:¬ fn.body=.none:=fun hn=>by rw [hn] at nL; cases nL
 simp [execOp,resolve,Deferred.ofValue,Act.eval,invoke,callFunc,hf,px,po]
theorem Jh {d id kk len:Nat} {t el:TypeId} {ty:TypeId} {pos:String} {af:Array Edge} {gd:Option (Nat × Bool)} {α:Type} {g:α→LV} {ys:List α} {ps:List (Nat × Operand)} (he:telem P t=some el) (kh:fQ P el=true) (hk:tsize P el=kk) (Pb:Nat.ble (len * kk) 16777216=true) (Sx:ps.map (·.1)=List.range len) (RC:(ps.map fun p=>ev p.2)=ys.map g) (gP:oR kk g) (cj:m id=.none) :
  cw P pr ⟨some d,.buildSlice t len ps.toArray,ty,pos,af,gd⟩ ev m (.arr id ys.length) (m.put id (.arr el kk (ys.map g))):=by
 subst hk
 have RA:=Nat.le_of_ble_eq_true Pb
 have hu:=fX he
 obtain ⟨i,zv,hi,y2,sV,vU,fe,Lo,rQ⟩:=pJ kh
 obtain ⟨parts,Eh⟩:∃ parts:Array (Nat × Operand),parts=ps.toArray:=⟨_,rfl⟩
 have MP:parts.toList=ps:=by rw [Eh]
 have HT:parts.toList.map (·.1)=List.range len:=by rw [MP]; exact Sx
 have HO:rU (tsize P el) (parts.toList.map fun p=>ev p.2):=by rw [MP,RC]; exact gP.Y2 ys
 obtain ⟨o,Zs⟩:∃ o:Oper,o=⟨some d,.buildSlice t len ps.toArray,ty,pos,af,gd⟩:=⟨_,rfl⟩
 have ho:o.op=.buildSlice t len parts:=by rw [Zs,Eh]
 rw [← Zs]
 refine cw.value fun c a bS hm=>?_
 have nS:parts.toList.length=len:=by have:=congrArg List.length HT; simpa using this
 let vs:=parts.toList.map fun p=>a.eval p.2
 have hl:aE c (parts.toList.map fun p=>ev p.2) vs:=aE.of (by simp [vs]) fun j x v hx hv=>by
  simp only [vs,List.getElem?_map,Option.map_eq_some_iff] at hx hv
  obtain ⟨p,hp,rfl⟩:=hx
  obtain ⟨p',CC,rfl⟩:=hv
  rw [hp] at CC; cases CC; exact bS _
 have hcell:∀ v ∈ vs,v.cells.size=i.size∧∀ y ∈ v.cells,y.oneCell'=true:=by
  intro v hv
  simp only [vs,List.mem_map] at hv
  obtain ⟨p,hp,rfl⟩:=hv
  obtain ⟨_,e1,e2⟩:=HO (ev p.2) (List.mem_map.2 ⟨p,hp,rfl⟩)
  obtain ⟨e3,e4⟩:=(bS p.2).cellsOf e2
  refine ⟨?_,e4⟩
  have:=e3.length
  rw [e1,rQ] at this
  simpa using this.symm
 have Ic:LV.bt (parts.toList.map fun p=>ev p.2)=true:=c6.2 fun x hx=>(HO x hx).1
 have CD:(parts.map fun (p:Nat × Operand)=>(p.1,a.eval p.2)).toList=(vs.zipIdx 0).map fun x=>(x.2,x.1):=by
  apply List.ext_getElem?
  intro j
  have hj:=congrArg (fun l=>l[j]?) HT
  simp only [List.getElem?_map,List.getElem?_range] at hj
  simp only [Array.toList_map,List.getElem?_map,List.getElem?_zipIdx,vs,Nat.zero_add]
  cases hp:parts.toList[j]? with
  | none=>simp
  | some p =>
   rw [hp] at hj
   have ny:j<len:=by
    rw [← nS]; exact (List.getElem?_eq_some_iff.1 hp).1
   rw [List.getElem?_range ny] at hj
   simp at hj
   simp [hj]
 obtain ⟨cells,zD,zE⟩:∃ cells,Instr.fill (fun i'=>some (i' * i.size,i.size)) ((Array.range (len * i.size)).map (zv.cells[· % zv.cells.size]!)) (parts.map fun (p:Nat × Operand)=>(p.1,a.eval p.2)).toList=some cells∧cells.toList=flat vs:=by
  have nU:vs.length=len:=by simp [vs,nS]
  obtain ⟨r,hr,Zw,SO⟩:=Great.fill_dense fe vs 0 ((Array.range (len * i.size)).map (zv.cells[· % zv.cells.size]!)) (fun v hv=>(hcell v hv).1) (by simp [nU])
  refine ⟨r,by rw [CD]; exact hr,?_⟩
  apply List.ext_getElem?
  intro j
  rw [flat_get fe (fun v hv=>(hcell v hv).1),Array.getElem?_toList,SO j]
  simp only [Nat.zero_mul,Nat.zero_le,true_and,Nat.zero_add,Nat.sub_zero,nU]
  by_cases hj:j<len * i.size
  ·rw [if_pos hj]
  ·rw [if_neg hj]
   have h1:¬ j / i.size<len:=fun hh=>hj ((Nat.div_lt_iff_lt_mul fe).1 hh)
   rw [List.getElem?_eq_none (by omega:vs.length≤j / i.size)]
   simp; omega
 have kg:cells=(flat vs).toArray:=by rw [← zE]
 subst kg
 have dt:(execOp a.eval o).run P c.w=.ok (.value (.slice (some ⟨c.w.heap.size,0,.none⟩) len len)) (c.w.alloc (.cells (flat vs).toArray el)):=by
  by_cases MM:len=0
  ·subst MM
   have W8:parts=#[]:=by apply Array.ext'; simpa using nS
   subst W8
   simp [execOp,ho,Instr.buildSlice,run_underlying hu,sizeOf,typeInfo,hi,Instr.fill,newRow,vs,flat,Array.range_zero']
  ·have Lz:¬ len * i.size=0:=by
    intro h0
    rcases Nat.mul_eq_zero.1 h0 with h0 | h0 <;> omega
   have hb:=run_buildSlice (P:=P) c.w t el len (parts.map fun (p:Nat × Operand)=>(p.1,a.eval p.2)) (flat vs).toArray i zv hu hi y2 (by rw [rQ] at RA; omega) Lz zD
   simp [execOp,ho,hb]
 have hlen:ys.length=len:=by rw [← nS,MP]; have:=congrArg List.length RC; simpa using this.symm
 have hB:=hm.fresh cj
 have oz:aE c (ys.map g) vs:=by rw [← RC,← MP]; exact hl
 have Ef:(flat vs).length=len * i.size:=by
  rw [ed (fun v hv=>(hcell v hv).1)]; congr 1; rw [← nS]; simp [vs]
 have bN:(c.w.alloc (.cells (flat vs).toArray el)).ownsRow 0 el i.size (.slice (some ⟨c.w.heap.size,0,.none⟩) len len) len (flat vs) :=
  ⟨Ef,.inr ⟨c.w.heap.size,len,(flat vs).toArray,rfl,Nat.zero_le _,heap_alloc_new c.w _,Nat.le_refl _,by
   have:len≤len * tsize P el:=Nat.le_mul_of_pos_right _ (by rw [rQ]; exact fe)
   simp only [maxLen]; omega,by simp [Ef],by rw [← Ef]; simp⟩⟩
 obtain ⟨c',hw,hb,h2,h3⟩:=hm.y4 (pr:=pr) id (.arr el (tsize P el) (ys.map g)) (.arr (.slice (some ⟨c.w.heap.size,0,.none⟩) len len) (tsize P el) len []) (c.w.alloc (.cells (flat vs).toArray el)) rfl rfl rfl (Nat.le_refl _) (by simp)
  (fun b hb _=>o3 c.w _ b hb) (fun b hb=>by simp [BE.has,Value.ownBlock] at hb; exact .inr (by omega)) (by rw [hB]; trivial) (fun _ dr h0=>by rw [hB] at h0; cases h0)
  (fun c' hw hle hble=>by
   simp only [bJ]
   refine ⟨.slice (some ⟨c.w.heap.size,0,.none⟩) len len,vs,by simp [hlen],by rw [rQ]; exact fe,?_,aE.mono hle _ _ (fun j _=>hble j) oz,fun u hu=>by rw [rQ]; exact hcell u hu,by rw [← RC,← MP]; exact Ic⟩
   rw [hw,rQ]; simpa [hlen] using bN)
 refine ⟨_,c',by rw [hw]; exact dt,?_,h2,h3⟩
 simp only [ar]
 exact ⟨rfl,_,_,_,_,hb,by omega,fun _=>rfl⟩
theorem lG {f e0 k:Nat} (W:te P f e0 k) (hk:Nat.ble 1 k=true) {α:Type} {g:α→LV} {xs r:List α} (id:Nat) (h:app [] xs=some r):aF P f [.lst k (xs.map g)] (Mem.of []) (.arr id r.length) (Mem.of [(id,.arr e0 k (r.map g))]):=by
 unfold app at h
 split at h
 ·rename_i hb
  obtain rfl:xs=r:=by simpa using h
  intro c vs hm ha
  simp only [aE] at ha
  obtain ⟨v,fR,rfl,hv,rfl⟩:=ha
  simp only [ar] at hv
  obtain ⟨a,cap,rfl,hcap,hnil,hp,hx⟩:=hv
  have oC:∃ us,(flat us).length=xs.length * k∧(a=none→xs.length=0)∧(∀ ad,a=some ad→∀ j u,(flat us)[j]?=some u→c.w.cell? (ad.add j)=some u)∧aE c (xs.map g) us∧∀ u ∈ us,u.cells.size=k∧∀ y ∈ u.cells,y.oneCell'=true:=by
   rcases hx with hx | ⟨b,off,us,rfl,hbl,hX,hl,hc,hra⟩
   ·have Pq:xs=[]:=by simpa using hx
    subst Pq
    exact ⟨[],by simp [flat],fun _=>rfl,by simp [flat],by simp [aE],by simp⟩
   ·refine ⟨us,?_,(fun h=>by cases h),fun ad had j u hu=>?_,hl,hc⟩
    ·rw [ed (fun v hv=>(hc v hv).1)]; congr 1; have:=hl.length; simpa using this.symm
    ·cases had; rw [Addr.add_lit]; exact hra j u hu
  obtain ⟨us,h1,h2,h3,hl,hc⟩:=oC
  have hlen:(xs.map g).length=xs.length:=by simp
  have:=W a xs.length cap (flat us) c.w h1 h2 h3 (tK fun v hv=>(hc v hv).2) (by simpa using hb)
  rw [hlen]
  refine this.mono ?_
  rintro en w' ⟨u',rfl,hr⟩
  have hB:=hm.fresh (id:=id) rfl
  obtain ⟨c',hw,iG,h4,h5⟩:=hm.y4 (pr:=fun id=>Mem.of [] id ≠ .none) id (.arr e0 k (xs.map g)) (.arr u' k xs.length []) w' hr.grown.os hr.grown.tape hr.grown.output hr.drawn hr.grown.size
   (fun b hb _=>hr.grown.block b hb (by simp [Value.ownBlock])) (fun b hb=>.inr (hb.elim (fun hb=>(hr.nF b hb).elim (fun h=>by simp [Value.ownBlock] at h) (fun h=>h)) (fun hh=>by cases hh))) (by rw [hB]; trivial) (fun _ dr h0=>by rw [hB] at h0; cases h0)
   (fun c' hw hle hble=>by
    simp only [bJ]
    exact ⟨u',us,by simp,Nat.le_of_ble_eq_true hk,by rw [hw]; simpa using hr.own,aE.mono hle _ _ (fun j _=>hble j) hl,hc,hp⟩)
  refine ⟨u',c',rfl,hw,h4,?_,h5.grow⟩
  simp only [ar]
  refine ⟨?_,_,_,_,_,iG,Nat.le_refl _,fun _=>rfl⟩
  rcases hr.own.2 with ⟨rfl,_⟩ | ⟨g,cap,cur,rfl,_⟩ <;> rfl
 ·cases h
def pK (k:IntKind) (u w:Int):Int:=u.fdiv (2 ^ min w.toNat k.bits)
theorem QK {d:Option Nat} {x y:Operand} {t t' ty:TypeId} {pos:String} {af:Array Edge} {gd:Option (Nat × Bool)} {k yk:IntKind} {u w:Int} (hx:ev x=.int k u) (hy:ev y=.int yk w) (hw:0≤w):bR P pr ⟨d,.binOp .shr t x y t',ty,pos,af,gd⟩ ev m (.int k (pK k u w)) m :=
 bR.value fun c a bS hm=>by
  have h1:=bS x (by simp [Op.operands])
  have h2:=bS y (by simp [Op.operands])
  rw [hx] at h1; rw [hy] at h2
  simp only [ar] at h1 h2
  refine ⟨.int k (pK k u w),c,?_,by simp [ar],hm,Step.refl pr c⟩
  have hn:¬ w<0:=by omega
  simp [execOp,h1,h2,binOp,Op.shift,hn,pK,eqGuard]
theorem Ju {c:List LV} (hc:LV.bt c=true):∀ {l:List LV},LV.bt l=true→LV.bt (l++c)=true:=fun h=>jV h hc
theorem Hn {cs:Array Value} (h:∀ y ∈ cs.toList,(∃ k n,y=.int k n) ∨ ∃ b,y=.bool b) (n:Nat):Instr.sameBits (n+1) (.agg cs) (.agg cs)=true:=by
 simp only [Instr.sameBits,beq_self_eq_true,Bool.true_and,List.all_eq_true]
 intro p hp
 have Zt:p.1=p.2∧p.1 ∈ cs.toList:=by
  obtain ⟨i,hi,rfl⟩:=List.mem_iff_getElem.1 hp
  simp [List.getElem_zip]
 obtain ⟨a,b⟩:=p
 simp only at Zt ⊢
 obtain ⟨he,hm⟩:=Zt
 subst he
 rcases h _ hm with ⟨k,m,h⟩ | ⟨b,h⟩ <;> subst h <;> cases n <;> simp [Instr.sameBits]
mutual
theorem Gv:∀ (x:LV),x.pure=true→x.refs=[]
 | .fg,_ | .int _ _,_ | .bool _,_ | .nil,_ | .slen _,_ | .full _ _,_ | .str _,_ | .it _,_ | .nilf,_ | .nilp,_ | .lst _ _,_=>by simp [LV.refs]
 | .sptr cs,h=>by simp only [LV.pure] at h; simp only [LV.refs]; exact gv cs h
 | .arr _ _,h | .ptr _ _,h | .eptr _ _ _ _,h | .mp _,h=>by simp [LV.pure] at h
 | .agg cs,h=>by simp only [LV.pure] at h; simp only [LV.refs]; exact gv cs h
 | .tup cs,h=>by simp only [LV.pure] at h; simp only [LV.refs]; exact gv cs h
 | .fn _ cs,h=>by simp only [LV.pure] at h; simp only [LV.refs]; exact gv cs h
 | .bfn _ cs,h=>by simp only [LV.pure] at h; simp only [LV.refs]; exact gv cs h
theorem gv:∀ (xs:List LV),LV.bt xs=true→LV.a8 xs=[]
 | [],_=>by simp [LV.a8]
 | x :: xs,h=>by
  simp only [LV.bt,Bool.and_eq_true] at h
  simp only [LV.a8,Gv x h.1,gv xs h.2,List.append_nil]
end
theorem et {xs:List LV} (h:LV.bt xs=true):LV.a8 xs=[]:=gv xs h
end
end Go.L
namespace Go.L
section
variable {P:Program} {N:Nat} {pr:Nat→Prop} {ops:Array Oper} {e:Env} {m m':Mem} {ev:Operand→LV} {o:Oper} {lv:LV} {l:List Oper} {KE:Env→Mem→Prop}
end
end Go.L
namespace Go.L
mutual
/-- We the value not Vd of memory Vj Yg ZO -/
def LV.lR:LV→Bool
 | .lst _ _=>false
 | .full _ _=>false
 | .sptr _=>false
 | .agg cs=>LV.ig cs
 | .tup cs=>LV.ig cs
 | .fn _ cs=>LV.ig cs
 | .bfn _ cs=>LV.ig cs
 | _=>true
def LV.ig:List LV→Bool
 | []=>true
 | x :: xs=>x.lR && LV.ig xs
end
theorem uq:∀ {xs:List LV},LV.ig xs=true ↔ ∀ x ∈ xs,x.lR=true
 | []=>by simp [LV.ig]
 | x :: xs=>by simp [LV.ig,uq (xs:=xs)]
mutual
theorem ar.jN {c c':Cx}:∀ (x:LV) (v:Value),x.lR=true→(∀ id,x.bo id=false→c'.B id=c.B id)→ar c x v→ar c' x v
 | .fg,v,_,_,h=>by simp only [ar]
 | .int _ _,v,_,_,h=>by simpa only [ar] using h
 | .bool _,v,_,_,h=>by simpa only [ar] using h
 | .nil,v,_,_,h=>by simpa only [ar] using h
 | .slen _,v,_,_,h=>by simpa only [ar] using h
 | .str _,v,_,_,h=>by simpa only [ar] using h
 | .it _,v,_,_,h=>by simpa only [ar] using h
 | .full _ _,v,hn,_,h=>by simp [LV.lR] at hn
 | .nilf,v,_,_,h=>by simpa only [ar] using h
 | .nilp,v,_,_,h=>by simpa only [ar] using h
 | .lst _ _,v,hn,_,h=>by simp [LV.lR] at hn
 | .sptr _,v,hn,_,h=>by simp [LV.lR] at hn
 | .arr id n,v,_,hB,h=>by simp only [ar] at h ⊢; rw [hB id (by simp [LV.bo])]; exact h
 | .ptr id o,v,_,hB,h=>by simp only [ar] at h ⊢; rw [hB id (by simp [LV.bo])]; exact h
 | .eptr id n i o,v,_,hB,h=>by simp only [ar] at h ⊢; rw [hB id (by simp [LV.bo])]; exact h
 | .mp id,v,_,hB,h=>by simp only [ar] at h ⊢; rw [hB id (by simp [LV.bo])]; exact h
 | .agg cs,v,hn,hB,h=>by
  simp only [ar] at h ⊢
  obtain ⟨vs,h1,h2⟩:=h
  exact ⟨vs,h1,aE.jN cs vs (by simpa [LV.lR] using hn) (fun id cj=>hB id (by simpa [LV.bo] using cj)) h2⟩
 | .tup cs,v,hn,hB,h=>by
  simp only [ar] at h ⊢
  obtain ⟨vs,h1,h2⟩:=h
  exact ⟨vs,h1,aE.jN cs vs (by simpa [LV.lR] using hn) (fun id cj=>hB id (by simpa [LV.bo] using cj)) h2⟩
 | .fn f cs,v,hn,hB,h=>by
  simp only [ar] at h ⊢
  obtain ⟨vs,h1,h2⟩:=h
  exact ⟨vs,h1,aE.jN cs vs (by simpa [LV.lR] using hn) (fun id cj=>hB id (by simpa [LV.bo] using cj)) h2⟩
 | .bfn f cs,v,hn,hB,h=>by
  simp only [ar] at h ⊢
  obtain ⟨vs,h1,h2⟩:=h
  exact ⟨vs,h1,aE.jN cs vs (by simpa [LV.lR] using hn) (fun id cj=>hB id (by simpa [LV.bo] using cj)) h2⟩
theorem aE.jN {c c':Cx}:∀ (xs:List LV) (vs:List Value),LV.ig xs=true→(∀ id,LV.cD id xs=false→c'.B id=c.B id)→aE c xs vs→aE c' xs vs
 | [],vs,_,_,h=>by simpa only [aE] using h
 | x :: xs,vs,hn,hB,h=>by
  simp only [aE] at h ⊢
  obtain ⟨v,fR,rfl,h1,h2⟩:=h
  simp only [LV.ig,Bool.and_eq_true] at hn
  exact ⟨v,fR,rfl,ar.jN x v hn.1 (fun id cj=>hB id (by simp [LV.cD,cj])) h1,aE.jN xs fR hn.2 (fun id cj=>hB id (by simp [LV.cD,cj])) h2⟩
end
def LE.plain (id:Nat):LE→Prop
 | .box cs=>LV.ig cs=true∧LV.cD id cs=true
 | .arr _ _ xs=>LV.ig xs=true
 | .map _ _ es=>LV.ig (es.map (·.1))=true∧LV.ig (es.map (·.2))=true
 | .nest _ _ _ _=>False
 | .de _ _ _ _ _ _ _ _=>False
 | .dead=>True
theorem bJ.jN {c c':Cx} {id:Nat} (hw:c'.w=c.w) (hB:∀ i,i ≠ id→c'.B i=c.B i) {x:LE} (hx:x.plain id) {y:Option BE} (h:bJ c (some x) y):bJ c' (some x) y:=by
 cases x with
 | box cs =>
  simp only [bJ] at h ⊢
  obtain ⟨b,vs,e,h1,h2,h3,h4⟩:=h
  exact ⟨b,vs,e,h1,by rw [hw]; exact h2,aE.jN cs vs hx.1 (fun i hi=>hB i (fun he=>by subst he; rw [hx.2] at hi; cases hi)) h3,h4⟩
 | arr e k xs =>
  simp only [bJ] at h ⊢
  obtain ⟨u,vs,h1,h0,h2,h3,h4,h5⟩:=h
  exact ⟨u,vs,h1,h0,by rw [hw]; exact h2,aE.jN xs vs hx (fun i hi=>by rw [az xs h5] at hi; cases hi) h3,h4,h5⟩
 | nest e k os xs=>exact hx.elim
 | de _ _ _ _ _ _ _ _=>exact hx.elim
 | dead=>simpa only [bJ] using h
 | map kt vt es =>
  simp only [bJ] at h ⊢
  obtain ⟨b,j3,ck,h1,h2,h3,h4,h5,h6,h7⟩:=h
  exact ⟨b,j3,ck,h1,by rw [hw]; exact h2,aE.jN _ _ hx.1 (fun i hi=>by rw [az _ h5] at hi; cases hi) h3,aE.jN _ _ hx.2 (fun i hi=>by rw [az _ h6] at hi; cases hi) h4,h5,h6,h7⟩
inductive pW (id k:Nat) (xs:List LV):List LV→List LV→Prop
 | nil:pW id k xs [] []
 | row {n:Nat} {l l':List LV} (hn:n=xs.length) (h:pW id k xs l l'):pW id k xs (.arr id n :: l) (.lst k xs :: l')
 | gT {x:LV} {l l':List LV} (hx:x.bo id=true) (h:pW id k xs l l'):pW id k xs (x :: l) (x :: l')
theorem pW.rep {id k:Nat} {xs:List LV} {c c':Cx} (hV:∀ x v,x.bo id=true→ar c x v→ar c' x v) (hR:∀ v,ar c (.arr id xs.length) v→ar c' (.lst k xs) v):∀ {l l':List LV} (h:pW id k xs l l') {vs:List Value},aE c l vs→aE c' l' vs
 | _,_,.nil,vs,hr=>by simpa only [aE] using hr
 | _,_,.row hn h,vs,hr=>by
  subst hn
  simp only [aE] at hr ⊢
  obtain ⟨v,fR,rfl,h1,h2⟩:=hr
  exact ⟨v,fR,rfl,hR v h1,h.rep hV hR h2⟩
 | _,_,.gT hx h,vs,hr=>by
  simp only [aE] at hr ⊢
  obtain ⟨v,fR,rfl,h1,h2⟩:=hr
  exact ⟨v,fR,rfl,hV _ v hx h1,h.rep hV hR h2⟩
def tp (id:Nat) (ml:List (Nat × LE)):Prop:=∀ i le,Mem.of ml i=some le→le.plain id
theorem TZ {id:Nat}:tp id []:=fun i le h=>by simp [Mem.of] at h
theorem plC {id i:Nat} {le:LE} {ml:List (Nat × LE)} (h:le.plain id) (hr:tp id ml):tp id ((i,le) :: ml):=fun j nW hj=>by
 simp only [Mem.of] at hj
 split at hj
 ·cases hj; exact h
 ·exact hr j nW hj
theorem plA {α:Type} {f:α→LV} {id e k:Nat} {xs:List α} (h:∀ z,(f z).lR=true):(LE.arr e k (xs.map f)).plain id:=by
 show LV.ig (xs.map f)=true
 rw [uq]; intro x hx
 obtain ⟨z,_,rfl⟩:=List.mem_map.1 hx
 exact h z
theorem aF.LM {P:Program} {f:Nat} {args eH:List LV} {ml cS:List (Nat × LE)} {r:LV} (id e k:Nat) {xs:List LV} (h:aF P f eH (Mem.of ml) r (Mem.of cS)) (ha:pW id k xs args eH)
  (h1:Mem.of ml id=.none) (h2:Mem.of cS id=.none) (nM:tM id ml=true) (hr:r.lR=true) (Xr:r.bo id=true) (vQ:tp id cS) :
  aF P f args (Mem.of ((id,.arr e k xs) :: ml)) r (Mem.of ((id,.arr e k xs) :: cS)):=by
 intro c vs hm hargs
 have cj:Mem.of ((id,LE.arr e k xs) :: ml) id=some (.arr e k xs):=by simp [Mem.of]
 obtain ⟨u,us,hB,hk,bN,hl,hc,hp⟩:=lF hm cj
 have kY:∀ i le,i ≠ id→Mem.of ((id,LE.arr e k xs) :: ml) i=some le→le.iU id=true:=fun i cs hi yX=>by
  simp only [Mem.of,hi,if_false] at yX
  exact nK nM i cs hi yX
 obtain ⟨c1,hw,hO,k5,hV,nR,hX,Lf⟩:=hm.del id kY
 have OM:(Mem.of ((id,LE.arr e k xs) :: ml)).del id=Mem.of ml:=by
  funext i
  unfold Mem.del
  by_cases hi:i=id
  ·subst hi; simp [h1]
  ·simp [hi,Mem.of]
 rw [OM] at k5
 have HX:c.Le c1:=⟨by rw [hw]; exact Nat.le_refl _,fun b _ hx=>⟨by rw [hw],fun oC=>hx (oC.imp (fun h=>by rw [hO] at h; exact h) (nR b))⟩⟩
 have hR:∀ v,ar c (.arr id xs.length) v→ar c1 (.lst k xs) v:=by
  intro v hv
  obtain ⟨fR,FJ,KP,nQ,oz,yV,CC⟩:=gY hm hv cj rfl
  simp only [ar]
  have OR:=aE.mono HX xs fR (fun j hj=>by rw [az xs CC] at hj; cases hj) oz
  rcases nQ.2 with ⟨rfl,h0⟩ | ⟨g,cap,cur,rfl,_,hg,mh,_⟩
  ·exact ⟨.none,0,by rw [h0],by omega,fun _=>rfl,CC,.inl (List.eq_nil_of_length_eq_zero h0)⟩
  ·refine ⟨some ⟨g,0,.none⟩,cap,rfl,mh,by simp,CC,.inr ⟨g,0,fR,rfl,by rw [hw]; exact (Array.getElem?_eq_some_iff.1 hg).1,hX g _ FJ (.inl rfl),OR,yV,?_⟩⟩
   rw [hw]; exact gr nQ rfl
 have nh:=h c1 vs k5 (ha.rep hV hR hargs)
 rw [hw] at nh
 refine nh.mono ?_
 rintro en w' ⟨v,c2,rfl,rfl,lp,hv2,hg⟩
 have zw:c2.B id=.none:=lp.fresh h2
 -- the block of the row
 have hblk:∀ b,u.ownBlock=some b→b<c.w.heap.size∧c2.w.heap[b]?=c.w.heap[b]?∧¬ c2.own b∧¬ c2.O b:=by
  intro b hb
  have hlt:=(hm.gH id).lt hB (show (BE.arr u k xs.length []).has b from .inl hb)
  have SI:¬ c1.X b:=hX b _ hB (.inl hb)
  have sR:¬ c1.own b:=fun ho=>SI (.inr ho)
  refine ⟨hlt,?_,?_,?_⟩
  ·have:=hg.gT b (by rw [hw]; exact hlt) sR; rw [hw] at this; exact this
  ·intro ho
   rcases hg.own b ho with h' | h'
   ·exact sR h'
   ·rw [hw] at h'; omega
  ·rw [hg.O]; exact fun ho=>SI (.inl ho)
 let c3:Cx:=⟨c2.w,fun i=>if i=id then c.B id else c2.B i,c2.O⟩
 have ye:∀ i,i ≠ id→c3.B i=c2.B i:=fun i hi=>by simp [c3,hi]
 have tN:c3.B id=c.B id:=by simp [c3]
 have uc:∀ b,c3.own b→c2.own b ∨ u.ownBlock=some b:=by
  rintro b ⟨i,be,g1,g2⟩
  by_cases hi:i=id
  ·subst hi; rw [tN,hB] at g1; cases g1; exact .inr (g2.elim (fun h=>h) (fun h=>by cases h))
  ·rw [ye i hi] at g1; exact .inl ⟨i,be,g1,g2⟩
 have GS:c3.O=c.O:=by show c2.O=c.O; rw [hg.O,hO]
 have HY:c.Le c3:=by
  refine ⟨by have:=hg.size; rw [hw] at this; exact this,fun b hb hx=>⟨?_,?_⟩⟩
  ·have:=hg.gT b (by rw [hw]; exact hb) (fun ho=>hx (.inr (nR b ho))); rw [hw] at this; exact this
  ·rintro (ho | ho)
   ·rw [GS] at ho; exact hx (.inl ho)
   ·rcases uc b ho with h' | h'
    ·rcases hg.own b h' with zu | zu
     ·exact hx (.inr (nR b zu))
     ·rw [hw] at zu; omega
    ·exact hx (.inr ⟨id,_,hB,.inl h'⟩)
 refine ⟨v,c3,rfl,rfl,⟨fun i=>?_,?_,?_,?_⟩,?_,?_⟩
 ·by_cases hi:i=id
  ·subst hi
   rw [tN,hB]
   simp only [Mem.of,if_true,bJ]
   exact ⟨u,us,rfl,hk,cV bN (fun b hb=>(hblk b hb).2.1),aE.mono HY xs us (fun j hj=>by rw [az xs hp] at hj; cases hj) hl,hc,hp⟩
  ·rw [ye i hi]
   simp only [Mem.of,hi,if_false]
   have he:=lp.gH i
   cases yX:Mem.of cS i with
   | none=>rw [yX] at he; simpa only [bJ] using he
   | some le=>rw [yX] at he; exact bJ.jN (c:=c2) (c':=c3) rfl ye (vQ i le yX) he
 ·intro i j be dK b g1 g2 g3 g4
  by_cases hi:i=id
  ·by_cases hj:j=id
   ·rw [hi,hj]
   ·subst hi
    rw [tN,hB] at g1; cases g1
    rw [ye j hj] at g2
    exact absurd ⟨j,dK,g2,g4⟩ (hblk b (g3.elim (fun h=>h) (fun h=>by cases h))).2.2.1
  ·by_cases hj:j=id
   ·subst hj
    rw [tN,hB] at g2; cases g2
    rw [ye i hi] at g1
    exact absurd ⟨i,be,g1,g3⟩ (hblk b (g4.elim (fun h=>h) (fun h=>by cases h))).2.2.1
   ·rw [ye i hi] at g1; rw [ye j hj] at g2
    exact lp.inj i j be dK b g1 g2 g3 g4
 ·intro b ho
  rcases uc b ho with h' | h'
  ·exact lp.jT b h'
  ·exact (hblk b h').2.2.2
 ·intro b ho; exact lp.vu b ho
 ·exact ar.jN r v hr (fun i hi=>ye i (fun he=>by subst he; rw [Xr] at hi; cases hi)) hv2
 ·refine ⟨GS,?_,?_,?_,?_,?_,?_,?_,?_⟩
  ·have:=hg.os; rw [hw] at this; exact this
  ·have:=hg.tape; rw [hw] at this; exact this
  ·have:=hg.output; rw [hw] at this; exact this
  ·have:=hg.drawn; rw [hw] at this; exact this
  ·have:=hg.size; rw [hw] at this; exact this
  ·intro b hb ho
   have:=hg.gT b (by rw [hw]; exact hb) (fun yY=>ho (nR b yY)); rw [hw] at this; exact this
  ·intro b ho
   rcases uc b ho with h' | h'
   ·rcases hg.own b h' with zu | zu
    ·exact .inl (nR b zu)
    ·rw [hw] at zu; exact .inr zu
   ·exact .inl ⟨id,_,hB,.inl h'⟩
  ·intro i be Ib Se
   by_cases hi:i=id
   ·subst hi; exact ⟨be,by rw [tN]; exact Se,.refl be⟩
   ·rw [ye i hi]
    have Ox:c1.B i=some be:=by rw [Lf i hi]; exact Se
    exact hg.CZ i be (by simpa [Mem.of,hi] using Ib) Ox
end Go.L
namespace Go.L
section
variable {P:Program} {N:Nat} {pr:Nat→Prop} {ops:Array Oper} {e:Env} {m m':Mem} {ev:Operand→LV} {o:Oper} {lv:LV} {l:List Oper} {KE:Env→Mem→Prop}
theorem dG.at {c:Cx} {os:List (Nat × Nat × Nat)}:∀ {xs:List LV} {vs:List Value} {bs:List Nat},dG c os xs vs bs→∀ {i:Nat} {x:LV},xs[i]?=some x →
  ∃ v bp b bq,vs[i]?=some v∧bs=bp++(b++bq)∧KZ c os x v b∧∀ {c':Cx} {x':LV} {v':Value} {b':List Nat},c.Le c'→(∀ q ∈ bp++bq,c'.w.heap[q]?=c.w.heap[q]?)→KZ c' os x' v' b'→dG c' os (xs.set i x') (vs.set i v') (bp++(b'++bq))
 | [],_,_,h,i,x,hx=>by simp at hx
 | y :: ys,vs,bs,h,i,x,hx=>by
  simp only [dG] at h
  obtain ⟨v,fR,b1,b2,rfl,rfl,h1,h2⟩:=h
  cases i with
  | zero =>
   simp at hx; subst hx
   refine ⟨v,[],b1,b2,by simp,by simp,h1,fun {c' x' v' b'} hle hh he=>?_⟩
   simp only [List.set_cons_zero,dG,List.nil_append]
   exact ⟨v',fR,b',b2,rfl,rfl,he,h2.mono hle (fun q hq=>hh q (by simp [hq]))⟩
  | succ i =>
   simp at hx
   obtain ⟨u,bp,b,bq,g1,rfl,g3,g4⟩:=h2.at hx
   refine ⟨u,b1++bp,b,bq,by simpa using g1,by simp,g3,fun {c' x' v' b'} hle hh he=>?_⟩
   simp only [List.set_cons_succ,dG]
   refine ⟨v,fR.set i v',b1,bp++(b'++bq),rfl,by simp,?_,g4 hle (fun q hq=>hh q (by simp at hq ⊢; rcases hq with h | h <;> simp [h])) he⟩
   obtain ⟨cs,ws,rfl,hv,hc⟩:=h1
   exact ⟨cs,ws,rfl,hv,hc.mono hle (fun q hq=>hh q (by simp [hq]))⟩
theorem zn {k i:Nat} {vs:List Value} (h:∀ v ∈ vs,v.cells.size=k) (hi:i<vs.length) {v':Value} (hv:v'.cells.size=k):flat (vs.set i v')=(flat vs).take (i * k)++v'.cells.toList++(flat vs).drop (i * k+k):=by
 have e1:vs.set i v'=vs.take i++v' :: vs.drop (i+1):=by rw [List.set_eq_take_append_cons_drop,if_pos hi]
 obtain ⟨f1,f2⟩:=ja h (i:=i) (u:=vs[i]) (by simp [hi])
 have hu:vs[i].cells.toList.length=k:=by simpa using h _ (List.getElem_mem hi)
 rw [e1,fC,gC,f1,← f2]
 rw [List.take_left' rfl]
 have:(flat (vs.take i)).length+k=(flat (vs.take i)).length+vs[i].cells.toList.length:=by omega
 have hd:∀ (A B C:List Value),(A++(B++C)).drop (A.length+B.length)=C:=fun A B C=>by
  rw [← List.append_assoc,← List.length_append,List.drop_left' rfl]
 rw [this,hd]
 simp
theorem cG.uo {c:Cx} (hm:cG c m) {id e0 k:Nat} {os:List (Nat × Nat × Nat)} {xs:List LV} (cj:m id=some (.nest e0 k os xs)) {i:Nat} {x:LV} (hx:xs[i]?=some x) :
  ∃ g cap cur v bs ins,c.B id=some (.arr (.slice (some ⟨g,0,.none⟩) xs.length cap) k xs.length ins)∧c.w.heap[g]?=some (.cells cur e0 (0,0))∧cur.size=cap * k∧xs.length≤cap∧0<k ∧
   v.cells.size=k∧(∀ y ∈ v.cells,y.oneCell'=true)∧(cur.toList.drop (i * k)).take k=v.cells.toList∧KZ c os x v bs∧bs.Nodup∧g ∉ bs∧(∀ b ∈ bs,b ∈ ins) ∧
   ∀ (w':World) (x':LV) (v':Value) (DY:List Nat),w'.os=c.w.os→w'.tape=c.w.tape→w'.output=c.w.output→c.w.drawn≤w'.drawn→c.w.heap.size≤w'.heap.size →
    (∀ b,b<c.w.heap.size→b ≠ g→b ∉ bs→w'.heap[b]?=c.w.heap[b]?) →
    w'.heap[g]?=some (.cells (cur.toList.take (i * k)++v'.cells.toList++cur.toList.drop (i * k+k)).toArray e0 (0,0))→v'.cells.size=k→(∀ y ∈ v'.cells,y.oneCell'=true) →
    (∀ b ∈ DY,b ∈ bs ∨ c.w.heap.size≤b)→DY.Nodup→(∀ c':Cx,c'.w=w'→c.Le c'→KZ c' os x' v' DY) →
    ∃ c':Cx,c'.w=w'∧cG c' (m.put id (.nest e0 k os (xs.set i x')))∧Step pr c c':=by
 have he:=hm.gH id
 rw [cj] at he
 simp only [bJ] at he
 obtain ⟨u,vs,ins,hB,hk,bN,hn,hc,hnd,sR⟩:=he
 have hi:i<xs.length:=(List.getElem?_eq_some_iff.1 hx).1
 obtain ⟨v,bp,bs,bq,hv,rfl,qH,jd⟩:=hn.at hx
 have Pn:=List.mem_of_getElem? hv
 have nU:=hn.length
 rcases bN.2 with ⟨_,h0⟩ | ⟨g,cap,cur,rfl,yh,hg,mh,hcm,hcs,wE⟩
 ·omega
 ·have qI : g ∉ bp ++ (bs ++ bq) := sR g rfl
  have Ze:xs.length * k≤cap * k:=Nat.mul_le_mul_right k mh
  have Ls:i * k+k≤xs.length * k:=by
   have:=Nat.mul_le_mul_right k (show i+1≤xs.length by omega)
   rw [Nat.add_mul,Nat.one_mul] at this; exact this
  have hcl:cur.toList.length=cur.size:=by simp
  have Ef:(flat vs).length=xs.length * k:=bN.1
  have HN:(cur.toList.drop (i * k)).take k=v.cells.toList:=by
   obtain ⟨f1,f2⟩:=ja (fun v hv=>(hc v hv).1) hv
   have CM:v.cells.toList.length=k:=by simpa using (hc v Pn).1
   have:(cur.toList.drop (i * k)).take k=((flat vs).drop (i * k)).take k:=by
    rw [← wE,List.drop_take,List.take_take]
    congr 1
    omega
   rw [this,f1,← f2,List.drop_left' rfl,← CM,List.take_left' rfl]
  have nO:=List.nodup_append.1 hnd
  have Lv:=List.nodup_append.1 nO.2.1
  refine ⟨g,cap,cur,v,bs,_,hB,hg,hcs,mh,hk,(hc v Pn).1,(hc v Pn).2,HN,qH,Lv.1,fun h=>qI (by simp [h]),fun b hb=>by simp [hb],?_⟩
  intro w' x' v' DY a1 a2 a3 a4 a5 iH vO uh Pd Ln WB ON
  have hlt:∀ b ∈ bp++(bs++bq),b<c.w.heap.size:=hn.lt
  obtain ⟨c',hw,iG,h2,h3⟩:=hm.y4 (pr:=pr) id (.nest e0 k os (xs.set i x')) (.arr (.slice (some ⟨g,0,.none⟩) xs.length cap) k xs.length (bp++(DY++bq))) w' a1 a2 a3 a4 a5
   (fun b hb eE=>by
    have:=eE _ hB
    refine iH b hb (fun Ec=>this (.inl (by rw [Ec]; rfl))) (fun tO=>this (.inr (by simp [tO]))))
   (fun b hb=>by
    rcases hb with hb | hb
    ·exact .inl ⟨_,hB,.inl hb⟩
    ·simp only [List.mem_append] at hb
     rcases hb with hb | hb | hb
     ·exact .inl ⟨_,hB,.inr (by simp [hb])⟩
     ·rcases Ln b hb with h | h
      ·exact .inl ⟨_,hB,.inr (by simp [h])⟩
      ·exact .inr h
     ·exact .inl ⟨_,hB,.inr (by simp [hb])⟩)
   (by rw [hB]; exact ⟨_,_,_,rfl,Nat.le_refl _,fun _=>rfl⟩) (fun _ dr h0=>by rw [hB] at h0; cases h0; exact ⟨_,_,_,rfl,Nat.le_refl _,fun _=>rfl⟩)
   (fun c' hw hle hble=>by
    simp only [bJ,List.length_set]
    refine ⟨.slice (some ⟨g,0,.none⟩) xs.length cap,vs.set i v',bp++(DY++bq),rfl,hk,⟨?_,.inr ⟨g,cap,_,rfl,yh,by rw [hw]; exact vO,mh,hcm,?_,?_⟩⟩,jd hle (fun q hq=>?_) (ON c' hw hle),?_,?_,?_⟩
    ·rw [ed (k:=k) (fun y hy=>?_)]
     ·simp [nU]
     ·rcases List.mem_or_eq_of_mem_set hy with h | h
      ·exact (hc y h).1
      ·rw [h]; exact uh
    ·have:v'.cells.toList.length=k:=by simpa using uh
     simp only [List.size_toArray,List.length_append,List.length_take,List.length_drop,hcl,this,hcs]
     omega
    ·rw [zn (fun y hy=>(hc y hy).1) (by omega) uh,← wE]
     have e2:v'.cells.toList.length=k:=by simpa using uh
     apply List.ext_getElem?
     intro j
     simp only [List.toList_toArray,List.getElem?_take,List.getElem?_append,List.length_append,List.length_take,List.getElem?_drop,e2,hcl]
     repeat' split
     all_goals first | rfl | omega | (congr 1; omega) | skip
    ·refine (hw ▸ iH q (hlt q (by simp at hq ⊢; rcases hq with h | h <;> simp [h])) (fun O0=>qI (by rw [← O0]; simp at hq ⊢; rcases hq with h | h <;> simp [h])) (fun Zv=>?_))
     rcases List.mem_append.1 hq with h | h
     ·exact nO.2.2 q h q (by simp [Zv]) rfl
     ·exact Lv.2.2 q Zv q h rfl
    ·intro y hy
     rcases List.mem_or_eq_of_mem_set hy with h | h
     ·exact hc y h
     ·rw [h]; exact ⟨uh,Pd⟩
    ·refine List.nodup_append.2 ⟨nO.1,List.nodup_append.2 ⟨WB,Lv.2.1,fun a ha b hb nf=>?_⟩,fun a ha b hb nf=>?_⟩
     ·subst nf
      rcases Ln a ha with h | h
      ·exact Lv.2.2 a h a hb rfl
      ·have:=hlt a (by simp [hb]); omega
     ·subst nf
      rcases List.mem_append.1 hb with h | h
      ·rcases Ln a h with h' | h'
       ·exact nO.2.2 a ha a (by simp [h']) rfl
       ·have:=hlt a (by simp [ha]); omega
      ·exact nO.2.2 a ha a (by simp [h]) rfl
    ·intro b hb
     have Ec:g=b:=by simpa [Value.ownBlock] using hb
     subst Ec
     intro yV
     simp only [List.mem_append] at yV
     rcases yV with h | h | h
     ·exact qI (by simp [h])
     ·rcases Ln g h with h' | h'
      ·exact qI (by simp [h'])
      ·have:=(Array.getElem?_eq_some_iff.1 hg).1; omega
     ·exact qI (by simp [h]))
  exact ⟨c',hw,h2,h3⟩
def zN (os:List (Nat × Nat × Nat)):Nat→List LV→List LV
 | _,[]=>[]
 | o,x :: xs=>(match os.lookup o with | some (_,k)=>.lst k [] | .none=>x) :: zN os (o+1) xs
def TP (os:List (Nat × Nat × Nat)):Nat→List LV→Bool
 | _,[]=>true
 | o,x :: xs=>(match os.lookup o with | some (_,k)=>(match x with | .nil=>Nat.ble 1 k | _=>false) | .none=>x.pure) && TP os (o+1) xs
theorem gB.M6 {c:Cx} {os:List (Nat × Nat × Nat)}:∀ {o:Nat} {cs:List LV} {ws:List Value},aE c cs ws→TP os o cs=true→gB c os o (zN os o cs) ws []
 | _,[],ws,h,_=>by simp only [aE] at h; simp only [zN,gB]; exact ⟨h,trivial⟩
 | o,x :: xs,ws,h,hn=>by
  simp only [aE] at h
  obtain ⟨w,Fc,rfl,h1,h2⟩:=h
  simp only [TP,Bool.and_eq_true] at hn
  simp only [zN,gB]
  refine ⟨w,Fc,[],[],rfl,rfl,?_,gB.M6 h2 hn.2⟩
  unfold fB
  cases hl:os.lookup o with
  | none=>rw [hl] at hn; exact ⟨h1,hn.1,rfl⟩
  | some p =>
   obtain ⟨e,k⟩:=p
   rw [hl] at hn
   have hx:x=.nil∧0<k:=by
    have:=hn.1
    cases x <;> simp at this
    exact ⟨rfl,this⟩
   obtain ⟨rfl,hk⟩:=hx
   simp only [ar] at h1
   subst h1
   exact .inr ⟨[],[],rfl,hk,World.ownsRow_nil c.w 0 e k,by simp [aE],by simp,rfl,by simp [Value.ownBlock]⟩
theorem Ja {c:Cx} {m:Mem} (hm:cG c m) {id n e0 k:Nat} {os:List (Nat × Nat × Nat)} {xs:List LV} {v:Value} (hv:ar c (.arr id n) v) (cj:m id=some (.nest e0 k os xs)) (hn:n=xs.length) :
  ∃ vs ins,c.B id=some (.arr v k xs.length ins)∧0<k∧c.w.ownsRow 0 e0 k v xs.length (flat vs)∧dG c os xs vs ins∧(∀ v ∈ vs,v.cells.size=k∧∀ y ∈ v.cells,y.oneCell'=true):=by
 have he:=hm.gH id
 rw [cj] at he
 simp only [bJ] at he
 obtain ⟨u,vs,ins,hB,hk,bN,hl,hc,_⟩:=he
 simp only [ar] at hv
 obtain ⟨_,u',k',len,lL,kA,zF,hv⟩:=hv
 rw [hB] at kA
 cases kA
 have:=hv hn
 subst this
 exact ⟨vs,ins,hB,hk,bN,hl,hc⟩
theorem QD {d:Option Nat} {x y:Operand} {t ty:TypeId} {pos:String} {af:Array Edge} {g:Option (Nat × Bool)} {el kk id n:Nat} {os:List (Nat × Nat × Nat)} {xs:List LV} {k:IntKind} {u:Int} (he:telem P t=some el) (hk:tok P el=true) (hs:tsize P el=kk) (hx:ev x=.arr id n) (hm:m id=some (.nest el kk os xs)) (hn:n=xs.length) (hy:ev y=.int k u) (h0:0≤u) (h1:u.toNat<xs.length) :
  bR P pr ⟨d,.indexAddr t x y,ty,pos,af,g⟩ ev m (.eptr id n u.toNat 0) m:=by
 have hu:=fX he
 refine bR.value fun c a bS hM=>?_
 have Iv:=bS y (by simp [Op.operands])
 rw [hy] at Iv
 simp only [ar] at Iv
 have hv:=bS x (by simp [Op.operands])
 rw [hx] at hv
 obtain ⟨vs,ins,hB,HV,bN,hl,hc⟩:=Ja hM hv hm hn
 subst hn
 rcases bN.2 with ⟨_,h00⟩ | ⟨g,cap,cur,Pp,_⟩
 ·omega
 ·refine ⟨.pointer (some ⟨g,u.toNat * kk,.none⟩),c,?_,?_,hM,Step.refl pr c⟩
  ·unfold tok at hk
   cases yi:P.info? el with
   | none=>simp [yi] at hk
   | some ie =>
    have HW:kk=ie.size:=by rw [← hs]; simp [tsize,yi]
    have H0:u<(xs.length:Int):=by omega
    simp [execOp,Pp,Iv,Instr.indexAt,asIntOf,run_underlying hu,h0,H0,sizeOf,typeInfo,yi,Addr.add_mid,HW]
  ·simp only [ar]
   exact ⟨rfl,_,kk,xs.length,_,hB,by omega,fun _=>⟨g,by rw [Pp]; rfl,by simp⟩⟩
theorem dG.Kd {c:Cx} {os:List (Nat × Nat × Nat)} {x:LV} {v:Value} (h:KZ c os x v []):∀ n,dG c os (List.replicate n x) (List.replicate n v) []
 | 0=>by simp [dG]
 | n+1=>by
  simp only [List.replicate_succ,dG]
  exact ⟨v,List.replicate n v,[],[],rfl,rfl,h,dG.Kd h n⟩
theorem QH {x y:Operand} {t ty:TypeId} {pos:String} {af:Array Edge} {g:Option (Nat × Bool)} {d e0 k id:Nat} {os:List (Nat × Nat × Nat)} {zc:List LV} {n:Int} (kB:telem P t=some e0) (hz:tzero P e0=some (.agg zc)) (kh:fQ P e0=true) (hs:tsize P e0=k) (hx:ev x=.int .i64 n) (hy:ev y=.int .i64 n) (h0:0≤n) (hb:n≤549755813888) (cj:m id=.none) (gP:TP os 0 zc=true) :
  bR P pr ⟨some d,.makeSlice t x y,ty,pos,af,g⟩ ev m (.arr id n.toNat) (m.put id (.nest e0 k os (List.replicate n.toNat (.agg (zN os 0 zc))))):=by
 have hu:=fX kB
 obtain ⟨i,zv,hi,y2,sV,vU,fe,Lo,rQ⟩:=pJ kh
 subst hs
 refine bR.value fun c a bS hm=>?_
 have oU:=bS x (by simp [Op.operands])
 have lX:=bS y (by simp [Op.operands])
 rw [hx] at oU
 rw [hy] at lX
 simp only [ar] at oU lX
 have Tl:Gd zv=.agg zc:=by
  simp only [tzero,hi,y2] at hz
  split at hz
  ·simpa using hz
  ·cases hz
 have tP:(i.bytes:Int) * n≤281474976710656:=by
  have h1:(i.bytes:Int) * n≤256 * n:=Int.mul_le_mul_of_nonneg_right (by omega) h0
  omega
 have dt:=run_make (P:=P) c.w t e0 i zv hu hi y2 .i64 .i64 n n h0 (Int.le_refl _) tP (by omega)
 have hB:=hm.fresh cj
 have kg:(madeCells zv.cells (n.toNat * i.size)).toList=flat (List.replicate n.toNat zv):=by
  apply List.ext_getElem?
  intro j
  rw [flat_get fe (fun v hv=>by rw [List.eq_of_mem_replicate hv]; exact sV)]
  simp only [Array.getElem?_toList,madeCells,Array.getElem?_map,Array.getElem?_range,List.getElem?_replicate,sV]
  by_cases hj:j<n.toNat * i.size
  ·have h1:j / i.size<n.toNat:=(Nat.div_lt_iff_lt_mul fe).2 hj
   have h2:j % i.size<zv.cells.size:=by rw [sV]; exact Nat.mod_lt _ fe
   rw [if_pos hj,if_pos h1]
   simp [h2]
  ·have h1:¬ j / i.size<n.toNat:=fun hh=>hj ((Nat.div_lt_iff_lt_mul fe).1 hh)
   rw [if_neg hj,if_neg h1]
   rfl
 have gm:(madeCells zv.cells (n.toNat * i.size)).size=n.toNat * i.size:=size_madeCells _ _
 have qH:∀ c':Cx,KZ c' os (.agg (zN os 0 zc)) zv []:=fun c'=>by
  have hr:=lT c' zv
  rw [Tl] at hr
  simp only [ar] at hr
  obtain ⟨ws,he,hl⟩:=hr
  exact ⟨_,ws,rfl,he,gB.M6 hl gP⟩
 obtain ⟨c',hw,iG,h2,h3⟩:=hm.y4 (pr:=pr) id (.nest e0 (tsize P e0) os (List.replicate n.toNat (.agg (zN os 0 zc)))) (.arr (.slice (some ⟨c.w.heap.size,0,.none⟩) n.toNat n.toNat) (tsize P e0) n.toNat [])
  (c.w.alloc (.cells (madeCells zv.cells (n.toNat * i.size)) e0)) rfl rfl rfl (Nat.le_refl _) (by simp)
  (fun b iG _=>o3 c.w _ b iG) (fun b iG=>by simp [BE.has,Value.ownBlock] at iG; exact .inr (by omega)) (by rw [hB]; trivial) (fun _ dr h0=>by rw [hB] at h0; cases h0)
  (fun c' hw hle hble=>by
   simp only [bJ,rQ,List.length_replicate]
   refine ⟨_,List.replicate n.toNat zv,[],rfl,fe,⟨by rw [ed (k:=i.size) (fun v hv=>by rw [List.eq_of_mem_replicate hv]; exact sV)]; simp,.inr ⟨c.w.heap.size,n.toNat,_,rfl,Nat.zero_le _,by rw [hw]; exact heap_alloc_new c.w _,Nat.le_refl _,by simp only [maxLen]; omega,gm,?_⟩⟩,dG.Kd (qH c') _,?_,by simp,by simp⟩
   ·rw [List.take_of_length_le (by rw [Array.length_toList,gm]; exact Nat.le_refl _),kg]
   ·intro v hv
    rw [List.eq_of_mem_replicate hv]
    exact ⟨sV,vU⟩)
 refine ⟨.slice (some ⟨c.w.heap.size,0,.none⟩) n.toNat n.toNat,c',by rw [hw]; simp [execOp,oU,lX,dt],?_,h2,h3⟩
 simp only [ar]
 exact ⟨rfl,_,_,_,_,iG,Nat.le_refl _,fun _=>rfl⟩
end
theorem tk.Ea {c c':Cx} (hle:c.Le c') (hw:c'.w=c.w) {e k:Nat} {x:LV} {v:Value} {bs:List Nat} (hX:∀ b ∈ bs,¬ c'.X b) (h:tk c e k x v bs):ar c' x v:=by
 rcases h with ⟨rfl,_⟩ | ⟨ys,us,rfl,hk,bN,hl,hc,hp,rfl⟩
 ·simp only [ar]
 ·simp only [ar]
  have oz:=aE.mono hle ys us (fun j hj=>by rw [az ys hp] at hj; cases hj) hl
  rcases bN.2 with ⟨rfl,h0⟩ | ⟨g,cap,cur,rfl,_,hg,mh,_⟩
  ·exact ⟨.none,0,by rw [h0],by omega,fun _=>rfl,hp,.inl (List.eq_nil_of_length_eq_zero h0)⟩
  ·refine ⟨some ⟨g,0,.none⟩,cap,rfl,mh,by simp,hp,.inr ⟨g,0,us,rfl,by rw [hw]; exact (Array.getElem?_eq_some_iff.1 hg).1,hX g (by simp [Value.ownBlock]),oz,hc,?_⟩⟩
   rw [hw]; exact gr bN rfl
theorem gB.Ea {c c':Cx} (hle:c.Le c') (hw:c'.w=c.w) {os:List (Nat × Nat × Nat)}:∀ {o:Nat} {xs:List LV} {ws:List Value} {bs:List Nat},(∀ b ∈ bs,¬ c'.X b)→gB c os o xs ws bs→aE c' xs ws
 | _,[],_,_,_,h=>by simp only [gB] at h; simp only [aE]; exact h.1
 | o,x :: xs,ws,bs,hX,h=>by
  simp only [gB] at h
  obtain ⟨w,Fc,b1,b2,rfl,rfl,h1,h2⟩:=h
  simp only [aE]
  refine ⟨w,Fc,rfl,?_,gB.Ea hle hw (fun b hb=>hX b (by simp [hb])) h2⟩
  unfold fB at h1
  split at h1
  ·exact tk.Ea hle hw (fun b hb=>hX b (by simp [hb])) h1
  ·exact ar.mono hle x w (fun id cj=>by rw [gU x h1.2.1] at cj; cases cj) h1.1
theorem dG.Ea {c c':Cx} (hle:c.Le c') (hw:c'.w=c.w) {os:List (Nat × Nat × Nat)}:∀ {xs:List LV} {vs:List Value} {bs:List Nat},(∀ b ∈ bs,¬ c'.X b)→dG c os xs vs bs→aE c' xs vs
 | [],_,_,_,h=>by simp only [dG] at h; simp only [aE]; exact h.1
 | x :: xs,vs,bs,hX,h=>by
  simp only [dG] at h
  obtain ⟨v,fR,b1,b2,rfl,rfl,⟨cs,ws,rfl,rfl,h1⟩,h2⟩:=h
  simp only [aE]
  refine ⟨_,fR,rfl,?_,dG.Ea hle hw (fun b hb=>hX b (by simp [hb])) h2⟩
  simp only [ar]
  exact ⟨ws,rfl,h1.Ea hle hw (fun b hb=>hX b (by simp [hb]))⟩
theorem mX {P:Program} {pr:Nat→Prop} {ro:List Nat} {ops:Array Oper} {l:List Oper} {ey:List Nat} {KE:Env→Mem→Prop} {e:Env} {m m':Mem} {lv:LV} {i:Nat} {op:Op} {ty:TypeId} {pos:String} {af:Array Edge} (h:bR P pr ⟨some i,op,ty,pos,af,.none⟩ (cP e) m lv m') (hr:cQ P pr ro ops (List.zip l ey) KE (e.put i lv) m'):cQ P pr ro ops (List.zip (⟨some i,op,ty,pos,af,.none⟩ :: l) (3 :: ey)) KE e m:=⟨lv,m',h,hr⟩
theorem ZJ {P:Program} {pr:Nat→Prop} {ro:List Nat} {ops:Array Oper} {l:List Oper} {ey:List Nat} {KE:Env→Mem→Prop} {e:Env} {m m':Mem} {lv:LV} {op:Op} {ty:TypeId} {pos:String} {af:Array Edge} (h:bR P pr ⟨.none,op,ty,pos,af,.none⟩ (cP e) m lv m') (hr:cQ P pr ro ops (List.zip l ey) KE e m'):cQ P pr ro ops (List.zip (⟨.none,op,ty,pos,af,.none⟩ :: l) (3 :: ey)) KE e m:=⟨lv,m',h,hr⟩
end Go.L
namespace Go.L
section
variable {P:Program} {N:Nat} {pr:Nat→Prop} {ops:Array Oper} {ev:Operand→LV} {o:Oper} {lv:LV} {m m':Mem}
theorem cG.Mm {c:Cx} (h:cG c m) (id id2:Nat) (eE:id ≠ id2) (le ZG:LE) (be DX:BE) (w':World)
  (GZ:w'.os=c.w.os) (qe:w'.tape=c.w.tape) (nP:w'.output=c.w.output) (zB:c.w.drawn≤w'.drawn) (gm:c.w.heap.size≤w'.heap.size)
  (iH:∀ b,b<c.w.heap.size→(∀ dr,c.B id=some dr→¬ dr.has b)→(∀ dr,c.B id2=some dr→¬ dr.has b)→w'.heap[b]?=c.w.heap[b]?)
  (hblk:∀ b,be.has b ∨ DX.has b→(∃ dr,c.B id=some dr∧dr.has b) ∨ (∃ dr,c.B id2=some dr∧dr.has b) ∨ c.w.heap.size≤b) (tV:∀ b,be.has b→DX.has b→False)
  (hle:js (c.B id) (some be)) (WU:js (c.B id2) (some DX)) (mi:pr id→∀ dr,c.B id=some dr→dr.jE be) (ud:pr id2→∀ dr,c.B id2=some dr→dr.jE DX)
  (gM:∀ c':Cx,c'.w=w'→c.Le c'→(∀ i,js (c.B i) (c'.B i))→c'.B id2=some DX→bJ c' (some le) (some be)) (zC:∀ c':Cx,c'.w=w'→c.Le c'→(∀ i,js (c.B i) (c'.B i))→bJ c' (some ZG) (some DX)) :
  ∃ c':Cx,c'.w=w'∧c'.B id=some be∧c'.B id2=some DX∧cG c' ((m.put id le).put id2 ZG)∧Step pr c c':=by
 let c':Cx:=⟨w',fun i=>if i=id2 then some DX else if i=id then some be else c.B i,c.O⟩
 have e1:c'.B id=some be:=by simp [c',eE]
 have e2:c'.B id2=some DX:=by simp [c']
 have e3:∀ i,i ≠ id→i ≠ id2→c'.B i=c.B i:=fun i h1 h2=>by simp [c',h1,h2]
 have key:∀ i b1 b,c'.B i=some b1→b1.has b→(∃ j dr,c.B j=some dr∧dr.has b∧(j=i ∨ (i=id ∨ i=id2)∧(j=id ∨ j=id2))) ∨ c.w.heap.size≤b:=by
  intro i b1 b g1 g2
  by_cases hi:i=id
  ·subst hi; rw [e1] at g1; cases g1
   rcases hblk b (.inl g2) with ⟨dr,q1,q2⟩ | ⟨dr,q1,q2⟩ | q
   ·exact .inl ⟨i,dr,q1,q2,.inl rfl⟩
   ·exact .inl ⟨id2,dr,q1,q2,.inr ⟨.inl rfl,.inr rfl⟩⟩
   ·exact .inr q
  ·by_cases oy:i=id2
   ·subst oy; rw [e2] at g1; cases g1
    rcases hblk b (.inr g2) with ⟨dr,q1,q2⟩ | ⟨dr,q1,q2⟩ | q
    ·exact .inl ⟨id,dr,q1,q2,.inr ⟨.inr rfl,.inl rfl⟩⟩
    ·exact .inl ⟨i,dr,q1,q2,.inl rfl⟩
    ·exact .inr q
   ·rw [e3 i hi oy] at g1; exact .inl ⟨i,b1,g1,g2,.inl rfl⟩
 have bN:∀ b,c'.own b→c.own b ∨ c.w.heap.size≤b:=by
  rintro b ⟨i,dK,h1,h2⟩
  rcases key i dK b h1 h2 with ⟨j,dr,q1,q2,_⟩ | q
  ·exact .inl ⟨j,dr,q1,q2⟩
  ·exact .inr q
 have eK:Grow pr c c':=by
  refine ⟨rfl,GZ,qe,nP,zB,gm,fun b hb ho=>iH b hb (fun dr h0 h1=>ho ⟨id,dr,h0,h1⟩) (fun dr h0 h1=>ho ⟨id2,dr,h0,h1⟩),bN,fun i dK hp hb=>?_⟩
  by_cases hi:i=id
  ·subst hi; exact ⟨be,e1,mi hp dK hb⟩
  ·by_cases oy:i=id2
   ·subst oy; exact ⟨DX,e2,ud hp dK hb⟩
   ·exact ⟨dK,by rw [e3 i hi oy]; exact hb,.refl dK⟩
 have hble:∀ i,js (c.B i) (c'.B i):=by
  intro i
  by_cases hi:i=id
  ·subst hi; rw [e1]; exact hle
  ·by_cases oy:i=id2
   ·subst oy; rw [e2]; exact WU
   ·rw [e3 i hi oy]; exact js.refl _
 refine ⟨c',rfl,e1,e2,⟨fun i=>?_,?_,?_,?_⟩,eK,hble⟩
 ·by_cases oy:i=id2
  ·subst oy; rw [e2]; simp only [Mem.put,if_true]; exact zC c' rfl eK.le hble
  ·by_cases hi:i=id
   ·subst hi; rw [e1]; simp only [Mem.put,oy,if_false,if_true]; exact gM c' rfl eK.le hble e2
   ·rw [e3 i hi oy]
    simp only [Mem.put,hi,oy,if_false]
    refine (h.gH i).mono eK.le hble fun dK b hb tO=>?_
    refine iH b ((h.gH i).lt hb tO) (fun dr h0 h1=>?_) (fun dr h0 h1=>?_)
    ·exact hi (h.inj i id dK dr b hb h0 tO h1)
    ·exact oy (h.inj i id2 dK dr b hb h0 tO h1)
 ·intro i i' b1 b2 b h1 h2 h3 h4
  rcases key i b1 b h1 h3 with ⟨j,dr,q1,q2,q3⟩ | q
  ·rcases key i' b2 b h2 h4 with ⟨j',RW,Yp,Yq,B1⟩ | q'
   ·have hj := h.inj j j' dr RW b q1 Yp q2 Yq
    subst hj
    by_cases hi:i=id
    ·by_cases fD:i'=id
     ·rw [hi,fD]
     ·by_cases oy:i'=id2
      ·rw [hi,e1] at h1; rw [oy,e2] at h2; cases h1; cases h2; exact (tV b h3 h4).elim
      ·rcases B1 with B1 | ⟨q,_⟩
       ·subst B1
        rcases q3 with q3 | ⟨_,q3⟩
        ·exact q3.symm
        ·rcases q3 with q3 | q3
         ·exact absurd q3 fD
         ·exact absurd q3 oy
       ·rcases q with q | q
        ·exact absurd q fD
        ·exact absurd q oy
    ·by_cases oy:i=id2
     ·by_cases fD:i'=id
      ·rw [oy,e2] at h1; rw [fD,e1] at h2; cases h1; cases h2; exact (tV b h4 h3).elim
      ·by_cases FO:i'=id2
       ·rw [oy,FO]
       ·rcases B1 with B1 | ⟨q,_⟩
        ·subst B1
         rcases q3 with q3 | ⟨_,q3⟩
         ·exact q3.symm
         ·rcases q3 with q3 | q3
          ·exact absurd q3 fD
          ·exact absurd q3 FO
        ·rcases q with q | q
         ·exact absurd q fD
         ·exact absurd q FO
     ·rcases q3 with q3 | ⟨q,_⟩
      ·subst q3
       rcases B1 with B1 | ⟨_,B1⟩
       ·exact B1
       ·rcases B1 with B1 | B1
        ·exact absurd B1 hi
        ·exact absurd B1 oy
      ·rcases q with q | q
       ·exact absurd q hi
       ·exact absurd q oy
   ·have:=(h.gH j).lt q1 q2; omega
  ·rcases key i' b2 b h2 h4 with ⟨j',RW,Yp,Yq,B1⟩ | q'
   ·have:=(h.gH j').lt Yp Yq; omega
   ·by_cases hi:i=id
    ·by_cases fD:i'=id
     ·rw [hi,fD]
     ·by_cases oy:i'=id2
      ·rw [hi,e1] at h1; rw [oy,e2] at h2; cases h1; cases h2; exact (tV b h3 h4).elim
      ·rw [e3 i' fD oy] at h2; have:=(h.gH i').lt h2 h4; omega
    ·by_cases oy:i=id2
     ·by_cases fD:i'=id
      ·rw [oy,e2] at h1; rw [fD,e1] at h2; cases h1; cases h2; exact (tV b h4 h3).elim
      ·by_cases FO:i'=id2
       ·rw [oy,FO]
       ·rw [e3 i' fD FO] at h2; have:=(h.gH i').lt h2 h4; omega
     ·rw [e3 i hi oy] at h1; have:=(h.gH i).lt h1 h3; omega
 ·intro b ho hO
  rcases bN b ho with ho | hs
  ·exact h.jT b ho hO
  ·have:=h.vu b hO; omega
 ·intro b hO; exact Nat.lt_of_lt_of_le (h.vu b hO) gm
theorem gB.at {c:Cx} {os:List (Nat × Nat × Nat)}:∀ {q:Nat} {xs:List LV} {ws:List Value} {bs:List Nat},gB c os q xs ws bs→∀ {j:Nat} {x:LV},xs[j]?=some x →
  ∃ w bp b bq,ws[j]?=some w∧bs=bp++(b++bq)∧fB c os (q+j) x w b∧∀ {c':Cx} {x':LV} {w':Value} {b':List Nat},c.Le c'→(∀ r ∈ bp++bq,c'.w.heap[r]?=c.w.heap[r]?)→fB c' os (q+j) x' w' b'→gB c' os q (xs.set j x') (ws.set j w') (bp++(b'++bq))
 | _,[],_,_,h,j,x,hx=>by simp at hx
 | q,y :: ys,ws,bs,h,j,x,hx=>by
  simp only [gB] at h
  obtain ⟨w,Fc,b1,b2,rfl,rfl,h1,h2⟩:=h
  cases j with
  | zero =>
   simp at hx; subst hx
   refine ⟨w,[],b1,b2,by simp,by simp,h1,fun {c' x' w' b'} hle hh he=>?_⟩
   simp only [List.set_cons_zero,gB,List.nil_append]
   exact ⟨w',Fc,b',b2,rfl,rfl,he,h2.mono hle (fun r hr=>hh r (by simp [hr]))⟩
  | succ j =>
   simp at hx
   obtain ⟨u,bp,b,bq,g1,rfl,g3,g4⟩:=gB.at h2 hx
   have hq:q+1+j=q+(j+1):=by omega
   rw [hq] at g3
   refine ⟨u,b1++bp,b,bq,by simpa using g1,by simp,g3,fun {c' x' w' b'} hle hh he=>?_⟩
   simp only [List.set_cons_succ,gB]
   refine ⟨w,Fc.set j w',b1,bp++(b'++bq),rfl,by simp,h1.mono hle (fun r hr=>hh r (by simp [hr])),g4 hle (fun r hr=>hh r (by simp at hr ⊢; rcases hr with h | h <;> simp [h])) (by rw [hq]; exact he)⟩
theorem oF {w:World} {g i k o0 e0:Nat} {cur:Array Value} {ws:List Value} {x:Value} (hg:w.heap[g]?=some (.cells cur e0 (0,0))) (wA:(cur.toList.drop (i * k)).take k=ws) (hw:ws[o0]?=some x):w.cell? ⟨g,i * k+o0,.none⟩=some x:=by
 rw [← wA,List.getElem?_take] at hw
 split at hw
 ·rw [List.getElem?_drop] at hw
  simp [World.cell?,hg]
  simpa using hw
 ·cases hw
theorem se {cur ws:List Value} {ik k o0:Nat} {w':Value} (wA:(cur.drop ik).take k=ws) (hk:ik+k≤cur.length) (ho:o0<k):cur.take (ik+o0)++[w']++cur.drop (ik+o0+1)=cur.take ik++ws.set o0 w'++cur.drop (ik+k):=by
 have BV:ws.length=k:=by rw [← wA]; simp; omega
 have e1:cur.take (ik+o0)++[w']++cur.drop (ik+o0+1)=cur.set (ik+o0) w':=by
  rw [List.set_eq_take_append_cons_drop,if_pos (by omega)]; simp
 have e2:cur=cur.take ik++(ws++cur.drop (ik+k)):=by
  rw [← wA]
  have:cur.drop (ik+k)=(cur.drop ik).drop k:=by rw [List.drop_drop]
  rw [this,List.take_append_drop,List.take_append_drop]
 have hl:(cur.take ik).length=ik:=by simp; omega
 rw [e1]
 conv=>lhs; rw [e2]
 rw [List.set_append_right _ _ (by omega),hl,show ik+o0 - ik=o0 by omega,List.set_append_left _ _ (by omega)]
 simp
theorem iE {c:Cx} {id n i o0 g cap k len:Nat} {ins:List Nat} {v:Value} (hv:ar c (.eptr id n i o0) v) (hB:c.B id=some (.arr (.slice (some ⟨g,0,.none⟩) len cap) k len ins)) (hn:n=len):v=.pointer (some ⟨g,i * k+o0,.none⟩):=by
 simp only [ar] at hv
 obtain ⟨_,u',k',lO,lL,kA,zF,hv⟩:=hv
 rw [hB] at kA
 cases kA
 obtain ⟨b,hb,he⟩:=hv hn
 have:g=b:=by simpa [Value.ownBlock] using hb
 rw [this]; exact he
section
variable {d:Option Nat} {d1:Nat} {x y:Operand} {t ty:TypeId} {pos:String} {af:Array Edge} {gd:Option (Nat × Bool)} {e0 k id n i o0:Nat} {os:List (Nat × Nat × Nat)} {xs cs:List LV} {z:LV}
theorem fV (hx:ev x=.eptr id n i o0) (hm:m id=some (.nest e0 k os xs)) (hn:n=xs.length) (hz:xs[i]?=some z):bR P pr ⟨d,.nilCheck x,ty,pos,af,gd⟩ ev m (.eptr id n i o0) m:=by
 refine bR.value fun c a bS hM=>?_
 have hv:=bS x (by simp [Op.operands])
 rw [hx] at hv
 obtain ⟨g,cap,cur,v,bs,ins,hB,_⟩:=hM.uo (pr:=pr) hm hz
 have he:=iE hv hB hn
 exact ⟨a.eval x,c,by simp [execOp,he],hv,hM,Step.refl pr c⟩
theorem fU {f off ft kk:Nat} (hf:tfield P t f=some (off,ft)) (hk:tok P ft=true) (hs:tsize P ft=kk+1) (hx:ev x=.eptr id n i o0) (hm:m id=some (.nest e0 k os xs)) (hn:n=xs.length) (hz:xs[i]?=some z):bR P pr ⟨d,.fieldAddr t x f,ty,pos,af,gd⟩ ev m (.eptr id n i (o0+off)) m:=by
  obtain ⟨fs,fd,hu,Ee,rfl,rfl⟩:∃ fs fd,P.underlying t=some (.struct fs)∧fs[f]?=some fd∧fd.offset=off∧fd.type=ft:=by
    unfold tfield at hf
    split at hf
    · rename_i fs hu
      cases WH:fs[f]? with
      | none=>simp [WH] at hf
      | some fd=>simp [WH] at hf; exact ⟨fs,fd,hu,WH,hf.1,hf.2⟩
    · cases hf
  refine bR.value fun c a bS hM=>?_
  have hv:=bS x (by simp [Op.operands])
  rw [hx] at hv
  obtain ⟨g,cap,cur,v,bs,ins,hB,_⟩:=hM.uo (pr:=pr) hm hz
  have he:=iE hv hB hn
  have hi:∃ i,P.info? fd.type=some i∧i.size ≠ 0:=by
    unfold tok at hk
    cases hi:P.info? fd.type with
    | none=>simp [hi] at hk
    | some i => exact ⟨i, rfl, by have : tsize P fd.type = i.size := by simp [tsize, hi]
                                  omega⟩
  obtain ⟨ii,hi,hi0⟩:=hi
  refine ⟨.pointer (some ⟨g,i * k+(o0+fd.offset),.none⟩),c,?_,?_,hM,Step.refl pr c⟩
  · simp [execOp,he,Instr.fieldAt,run_underlying hu,Ee,Instr.sureAddr,fieldPlace,sizeOf,typeInfo,hi,hi0,Addr.add_mid,Nat.add_assoc]
  · simp only [ar]
    exact ⟨rfl,_,k,xs.length,_,hB,by omega,fun _=>⟨g,rfl,rfl⟩⟩
theorem wV {c:Cx} (hM:cG c m) (hm:m id=some (.nest e0 k os xs)) (hn:n=xs.length) (hz:xs[i]?=some (.agg cs)) (hc:cs[o0]?=some z) {v:Value} (hv:ar c (.eptr id n i o0) v) (ht:tok P t=true) (ha:tagg P t=false) :
  ∃ w b,fB c os o0 z w b∧(Instr.loadAt t v).run P c.w=.ok w c.w:=by
 obtain ⟨g,cap,cur,v0,bs,ins,hB,hg,hcs,mh,hk,CM,iR,wA,qH,_⟩:=hM.uo (pr:=fun _=>False) hm hz
 have he:=iE hv hB hn
 obtain ⟨dL,ws,h1,rfl,hC⟩:=qH
 cases h1
 obtain ⟨w,bp,b,bq,g1,_,g3,_⟩:=hC.at hc
 have tU:(cur.toList.drop (i * k)).take k=ws:=by simpa [Value.cells] using wA
 have hcell:=oF hg tU g1
 rw [Nat.zero_add] at g3
 refine ⟨w,b,g3,?_⟩
 rw [he]
 exact (gw (cs:=[.fg]) (vs:=[w]) (c:=c) ht (by simp [aE,ar]) (fun j v hj=>by
  cases j with
  | zero=>simp at hj; subst hj; simpa using hcell
  | succ j=>simp at hj)).2 ha w [] rfl
theorem yy (hx:ev x=.eptr id n i o0) (hm:m id=some (.nest e0 k os xs)) (hn:n=xs.length) (hz:xs[i]?=some (.agg cs)) (hc:cs[o0]?=some z) (hl:os.lookup o0=.none) (ht:tok P t=true) (ha:tagg P t=false):bR P pr ⟨d,.load t x,ty,pos,af,gd⟩ ev m z m:=by
 refine bR.value fun c a bS hM=>?_
 have hv:=bS x (by simp [Op.operands])
 rw [hx] at hv
 obtain ⟨w,b,h1,h2⟩:=wV hM hm hn hz hc hv ht ha
 unfold fB at h1
 rw [hl] at h1
 exact ⟨w,c,by simp [execOp,h2],h1.1,hM,Step.refl pr c⟩
theorem QE {e' k':Nat} {ys:List LV} (hx:ev x=.eptr id n i o0) (hm:m id=some (.nest e0 k os xs)) (hn:n=xs.length) (hz:xs[i]?=some (.agg cs)) (hc:cs[o0]?=some (.lst k' ys)) (hl:os.lookup o0=some (e',k')) (ht:tok P t=true) (ha:tagg P t=false):bR P pr ⟨d,.load t x,ty,pos,af,gd⟩ ev m (.slen ys.length) m:=by
 refine bR.value fun c a bS hM=>?_
 have hv:=bS x (by simp [Op.operands])
 rw [hx] at hv
 obtain ⟨w,b,h1,h2⟩:=wV hM hm hn hz hc hv ht ha
 unfold fB at h1
 rw [hl] at h1
 refine ⟨w,c,by simp [execOp,h2],?_,hM,Step.refl pr c⟩
 rcases h1 with ⟨h,_⟩ | ⟨ZZ,us,h,_,bN,_⟩
 ·cases h
 ·cases h
  obtain ⟨ad,cp,he⟩:=ef bN
  simp only [ar]; exact ⟨ad,cp,he⟩
theorem yz {el nn:Nat} (he:telem P t=some el) (hx:ev x=.slen nn):bR P pr ⟨d,.call ⟨.builtin .len,#[x],#[t]⟩,ty,pos,af,gd⟩ ev m (.int .i64 nn) m:=by
 have hu:=fX he
 refine bR.value fun c a bS hM=>?_
 have hv:=bS x (by simp [Op.operands,Call.operands])
 rw [hx] at hv
 simp only [ar] at hv
 obtain ⟨ad,cp,hv⟩:=hv
 exact ⟨.int .i64 nn,c,by simp [execOp,resolve,invoke,builtin,Builtin.len_,hv,run_underlying hu,goInt],by simp [ar],hM,Step.refl pr c⟩
theorem QJ {z':LV} (hx:ev x=.eptr id n i o0) (hm:m id=some (.nest e0 k os xs)) (hn:n=xs.length) (hz:xs[i]?=some (.agg cs)) (hc:cs[o0]?=some z) (hl:os.lookup o0=.none) (hy:ev y=z') (vw:z'.scalar=true) (hp:z'.pure=true) (ht:tok P t=true) (hs:tsize P t=1) :
  bR P pr ⟨.none,.store t x y,ty,pos,af,gd⟩ ev m .fg (m.put id (.nest e0 k os (xs.set i (.agg (cs.set o0 z'))))):=by
 refine bR.skip rfl fun c a bS hM=>?_
 have hv:=bS x (by simp [Op.operands])
 rw [hx] at hv
 have lX:=bS y (by simp [Op.operands])
 rw [hy] at lX
 obtain ⟨g,cap,cur,v0,bs,ins,hB,hg,hcs,mh,hk,CM,iR,wA,qH,hnd,WL,aaE,oS⟩:=hM.uo (pr:=pr) hm hz
 have he:=iE hv hB hn
 obtain ⟨dL,ws,h1,rfl,hC⟩:=qH
 cases h1
 have BV:ws.length=k:=by simpa [Value.cells] using CM
 have tU:(cur.toList.drop (i * k)).take k=ws:=by simpa [Value.cells] using wA
 obtain ⟨w,bp,b,bq,g1,rfl,g3,g4⟩:=hC.at hc
 have gP:o0<k:=by rw [← BV]; exact (List.getElem?_eq_some_iff.1 g1).1
 have hi:i<xs.length:=(List.getElem?_eq_some_iff.1 hz).1
 have Ls:i * k+k≤cur.size:=by
  have h1:=Nat.mul_le_mul_right k (show i+1≤cap by omega)
  rw [Nat.add_mul,Nat.one_mul] at h1; omega
 have rR:=eZ vw lX
 have y1:=dF rR
 have dt:=gV (P:=P) (t:=t) (v:=a.eval y) (off:=i * k+o0) ht (by rw [hs,y1]; rfl) hg (by rw [y1]; simp; omega) (by rw [y1]; simpa using rR)
 rw [y1] at dt
 have jd:=se (w':=a.eval y) tU (by simpa using Ls) gP
 have kh:(cur.toList.take (i * k+o0)++[a.eval y]++cur.toList.drop (i * k+o0+1))=cur.toList.take (i * k)++(Value.agg (ws.set o0 (a.eval y)).toArray).cells.toList++cur.toList.drop (i * k+k):=by rw [jd]; simp [Value.cells]
 have WA:b=[]:=by unfold fB at g3; rw [Nat.zero_add,hl] at g3; exact g3.2.2
 subst WA
 obtain ⟨c',hw,h2,h3⟩:=oS (c.w.setRow g (cur.toList.take (i * k+o0)++[a.eval y]++cur.toList.drop (i * k+o0+1)).toArray) (.agg (cs.set o0 z')) (.agg (ws.set o0 (a.eval y)).toArray) (bp++([]++bq)) rfl rfl rfl (Nat.le_refl _) (by simp)
  (fun b hb eE _=>setRow_other _ _ _ _ eE) (by rw [kh]; exact setRow_heap c.w g _ _ e0 _ hg) (by simp [Value.cells,BV]) (fun q hq=>by
   simp only [Value.cells] at hq iR
   have pS:q ∈ ws.set o0 (a.eval y):=by simpa using hq
   rcases List.mem_or_eq_of_mem_set pS with h | h
   ·exact iR q (by simpa using h)
   ·rw [h]; exact rR) (fun b hb=>.inl hb) hnd (fun c' hw hle=>⟨_,_,rfl,rfl,g4 hle (fun r hr=>by rw [hw]; exact setRow_other _ _ _ _ (fun SN=>WL (by rw [← SN]; simp at hr ⊢; exact hr)))
   (by unfold fB; rw [Nat.zero_add,hl]; exact ⟨ar.mono hle z' _ (fun q hq=>by rw [gU z' hp] at hq; cases hq) lX,hp,rfl⟩)⟩)
 refine ⟨c',?_,h2,h3⟩
 rw [hw]
 simp [execOp,he,dt]
end
end
end Go.L
namespace Go.L
theorem nX {c:Cx} {e0 k:Nat} {os:List (Nat × Nat × Nat)} {xs:List LV} {y:Option BE} (he:bJ c (some (.nest e0 k os xs)) y) {i:Nat} {x:LV} (hx:xs[i]?=some x) :
  ∃ g cap cur v bp bs bq,y=some (.arr (.slice (some ⟨g,0,.none⟩) xs.length cap) k xs.length (bp++(bs++bq)))∧c.w.heap[g]?=some (.cells cur e0 (0,0))∧cur.size=cap * k∧xs.length≤cap∧0<k ∧
   v.cells.size=k∧(∀ y ∈ v.cells,y.oneCell'=true)∧(cur.toList.drop (i * k)).take k=v.cells.toList∧KZ c os x v bs∧(bp++(bs++bq)).Nodup∧g ∉ bp++(bs++bq) ∧
   ∀ (c':Cx) (x':LV) (v':Value) (DY:List Nat),c.Le c'→c'.w.heap[g]?=some (.cells (cur.toList.take (i * k)++v'.cells.toList++cur.toList.drop (i * k+k)).toArray e0 (0,0))→(∀ q ∈ bp++bq,c'.w.heap[q]?=c.w.heap[q]?) →
    v'.cells.size=k→(∀ y ∈ v'.cells,y.oneCell'=true)→KZ c' os x' v' DY→(bp++(DY++bq)).Nodup→g ∉ DY→bJ c' (some (.nest e0 k os (xs.set i x'))) (some (.arr (.slice (some ⟨g,0,.none⟩) xs.length cap) k xs.length (bp++(DY++bq)))):=by
 simp only [bJ] at he
 obtain ⟨u,vs,ins,rfl,hk,bN,hn,hc,hnd,sR⟩:=he
 have hi:i<xs.length:=(List.getElem?_eq_some_iff.1 hx).1
 obtain ⟨v,bp,bs,bq,hv,rfl,qH,jd⟩:=hn.at hx
 have Pn:=List.mem_of_getElem? hv
 have nU:=hn.length
 rcases bN.2 with ⟨_,h0⟩ | ⟨g,cap,cur,rfl,yh,hg,mh,hcm,hcs,wE⟩
 ·omega
 ·have qI:g ∉ bp++(bs++bq):=sR g rfl
  have Ze:xs.length * k≤cap * k:=Nat.mul_le_mul_right k mh
  have Ls:i * k+k≤xs.length * k:=by
   have:=Nat.mul_le_mul_right k (show i+1≤xs.length by omega)
   rw [Nat.add_mul,Nat.one_mul] at this; exact this
  have hcl:cur.toList.length=cur.size:=by simp
  have HN:(cur.toList.drop (i * k)).take k=v.cells.toList:=by
   obtain ⟨f1,f2⟩:=ja (fun v hv=>(hc v hv).1) hv
   have CM:v.cells.toList.length=k:=by simpa using (hc v Pn).1
   have:(cur.toList.drop (i * k)).take k=((flat vs).drop (i * k)).take k:=by
    rw [← wE,List.drop_take,List.take_take]
    congr 1
    omega
   rw [this,f1,← f2,List.drop_left' rfl,← CM,List.take_left' rfl]
  refine ⟨g,cap,cur,v,bp,bs,bq,rfl,hg,hcs,mh,hk,(hc v Pn).1,(hc v Pn).2,HN,qH,hnd,qI,?_⟩
  intro c' x' v' DY hle vO iH uh Pd ON nO WL
  simp only [bJ,List.length_set]
  refine ⟨.slice (some ⟨g,0,.none⟩) xs.length cap,vs.set i v',bp++(DY++bq),rfl,hk,⟨?_,.inr ⟨g,cap,_,rfl,yh,vO,mh,hcm,?_,?_⟩⟩,jd hle iH ON,?_,nO,?_⟩
  ·rw [ed (k:=k) (fun y hy=>?_)]
   ·simp [nU]
   ·rcases List.mem_or_eq_of_mem_set hy with h | h
    ·exact (hc y h).1
    ·rw [h]; exact uh
  ·have:v'.cells.toList.length=k:=by simpa using uh
   simp only [List.size_toArray,List.length_append,List.length_take,List.length_drop,hcl,this,hcs]
   omega
  ·rw [zn (fun y hy=>(hc y hy).1) (by omega) uh,← wE]
   have e2:v'.cells.toList.length=k:=by simpa using uh
   apply List.ext_getElem?
   intro j
   simp only [List.toList_toArray,List.getElem?_take,List.getElem?_append,List.length_append,List.length_take,List.getElem?_drop,e2,hcl]
   repeat' split
   all_goals first | rfl | omega | (congr 1; omega) | skip
  ·intro y hy
   rcases List.mem_or_eq_of_mem_set hy with h | h
   ·exact hc y h
   ·rw [h]; exact ⟨uh,Pd⟩
  ·intro b hb
   have Ec:g=b:=by simpa [Value.ownBlock] using hb
   subst Ec
   intro yV
   simp only [List.mem_append] at yV qI
   rcases yV with h | h | h
   ·exact qI (.inl h)
   ·exact WL h
   ·exact qI (.inr (.inr h))
section
variable {P:Program} {N:Nat} {pr:Nat→Prop} {ev:Operand→LV} {m:Mem} {d:Option Nat} {x y:Operand} {t ty:TypeId} {pos:String} {af:Array Edge} {gd:Option (Nat × Bool)} {e0 k id n i o0 id2 e' k':Nat} {os:List (Nat × Nat × Nat)} {xs cs ys:List LV}
theorem Jp (hx:ev x=.eptr id n i o0) (hm:m id=some (.nest e0 k os xs)) (hn:n=xs.length) (hz:xs[i]?=some (.agg cs)) (hc:cs[o0]?=some (.lst k' ys)) (hl:os.lookup o0=some (e',k')) (cj:m id2=.none) (ht:tok P t=true) (ha:tagg P t=false) :
  bR P pr ⟨d,.load t x,ty,pos,af,gd⟩ ev m (.arr id2 ys.length) ((m.put id (.nest e0 k os (xs.set i (.agg (cs.set o0 .fg))))).put id2 (.arr e' k' ys)):=by
 have eE:id ≠ id2:=fun h=>by rw [h,cj] at hm; cases hm
 refine bR.value fun c a bS hM=>?_
 have hv:=bS x (by simp [Op.operands])
 rw [hx] at hv
 have gM:=hM.gH id
 rw [hm] at gM
 obtain ⟨g,cap,cur,v,bp,bs,bq,hB,hg,hcs,mh,hk,CM,iR,wA,qH,hnd,qI,oS⟩:=nX gM hz
 have he:=iE hv hB hn
 obtain ⟨dL,ws,h1,rfl,hC⟩:=qH
 cases h1
 have tU:(cur.toList.drop (i * k)).take k=ws:=by simpa [Value.cells] using wA
 obtain ⟨w,cp,cb,cq,g1,rfl,g3,g4⟩:=hC.at hc
 have hcell:=oF hg tU g1
 rw [Nat.zero_add] at g3 g4
 unfold fB at g3
 rw [hl] at g3
 obtain ⟨us,KP,bN,yq,Pc,Ig,rfl⟩:∃ us,0<k'∧c.w.ownsRow 0 e' k' w ys.length (flat us)∧aE c ys us∧(∀ u ∈ us,u.cells.size=k'∧∀ y ∈ u.cells,y.oneCell'=true)∧LV.bt ys=true∧cb=w.ownBlock.toList:=by
  rcases g3 with ⟨h,_⟩ | ⟨ZZ,us,h,q0,q1,q2,q3,q4,q5⟩
  ·cases h
  ·cases h; exact ⟨us,q0,q1,q2,q3,q4,q5⟩
 have dt:(Instr.loadAt t (a.eval x)).run P c.w=.ok w c.w:=by
  rw [he]
  exact (gw (cs:=[.fg]) (vs:=[w]) (c:=c) ht (by simp [aE,ar]) (fun j v hj=>by
   cases j with
   | zero=>simp at hj; subst hj; simpa using hcell
   | succ j=>simp at hj)).2 ha w [] rfl
 have zw:=hM.fresh cj
 have jH:∀ b,b ∈ bp++((cp++([]++cq))++bq)→b ∈ bp++((cp++(w.ownBlock.toList++cq))++bq):=fun b hb=>by
  simp only [List.mem_append,List.nil_append] at hb ⊢
  rcases hb with h | (h | h) | h <;> simp [h]
 have nO:(bp++((cp++([]++cq))++bq)).Nodup:=by
  refine List.Nodup.sublist ?_ hnd
  refine List.Sublist.append (List.Sublist.refl _) (List.Sublist.append (List.Sublist.append (List.Sublist.refl _) ?_) (List.Sublist.refl _))
  exact List.Sublist.append (List.nil_sublist _) (List.Sublist.refl _)
 have qd:ws.set o0 w=ws:=by
  obtain ⟨hlt,hw⟩:=List.getElem?_eq_some_iff.1 g1
  rw [← hw]; exact List.set_getElem_self hlt
 obtain ⟨c',hw,Wf,R1,h2,h3⟩:=hM.Mm (pr:=pr) id id2 eE (.nest e0 k os (xs.set i (.agg (cs.set o0 .fg)))) (.arr e' k' ys) (.arr (.slice (some ⟨g,0,.none⟩) xs.length cap) k xs.length (bp++((cp++([]++cq))++bq))) (.arr w k' ys.length []) c.w rfl rfl rfl (Nat.le_refl _) (Nat.le_refl _)
  (fun b _ _ _=>rfl)
  (fun b hb=>by
   rcases hb with hb | hb
   ·rcases hb with hb | hb
    ·exact .inl ⟨_,hB,.inl hb⟩
    ·exact .inl ⟨_,hB,.inr (jH b hb)⟩
   ·rcases hb with hb | hb
    ·exact .inl ⟨_,hB,.inr (by simp [hb])⟩
    ·cases hb)
  (fun b hb hb2=>by
   have hbw:w.ownBlock=some b:=by
    rcases hb2 with h | h
    ·exact h
    ·cases h
   rcases hb with hb | hb
   ·have:g=b:=by simpa [Value.ownBlock] using hb
    subst this
    exact qI (by simp [hbw])
   ·have n1:=List.nodup_append.1 hnd
    have n2:=List.nodup_append.1 n1.2.1
    have n3:=List.nodup_append.1 n2.1
    have n4:=List.nodup_append.1 n3.2.1
    have hin:b ∈ w.ownBlock.toList:=by simp [hbw]
    simp only [List.mem_append,List.nil_append] at hb
    rcases hb with h | (h | h) | h
    ·exact n1.2.2 b h b (by simp [hbw]) rfl
    ·exact n3.2.2 b h b (by simp [hbw]) rfl
    ·exact n4.2.2 b hin b h rfl
    ·exact n2.2.2 b (by simp [hbw]) b h rfl)
  (by rw [hB]; exact ⟨_,_,_,rfl,Nat.le_refl _,fun _=>rfl⟩) (by rw [zw]; trivial) (fun _ dr h0=>by rw [hB] at h0; cases h0; exact ⟨_,_,_,rfl,Nat.le_refl _,fun _=>rfl⟩) (fun _ dr h0=>by rw [zw] at h0; cases h0)
  (fun c' hw hle hble _=>by
   refine oS c' _ (.agg ws.toArray) _ hle ?_ (fun q _=>by rw [hw]) CM iR ⟨_,ws,rfl,rfl,?_⟩ nO (fun h=>qI (by
    simp only [List.mem_append,List.nil_append] at h ⊢
    rcases h with h | h <;> simp [h]))
   ·rw [hw,hg]
    congr 2
    apply Array.toList_inj.1
    simp only [List.toList_toArray]
    rw [← wA,← List.drop_drop,List.append_assoc,List.take_append_drop,List.take_append_drop]
   ·have:=g4 (c':=c') (x':=.fg) (w':=w) (b':=[]) hle (fun r _=>by rw [hw]) (by unfold fB; rw [hl]; exact .inl ⟨rfl,rfl⟩)
    rw [qd] at this
    exact this)
  (fun c' hw hle hble=>by
   simp only [bJ]
   exact ⟨w,us,rfl,KP,by rw [hw]; exact bN,aE.mono hle ys us (fun j hj=>by rw [az ys Ig] at hj; cases hj) yq,Pc,Ig⟩)
 refine ⟨w,c',by rw [hw]; simp [execOp,dt],?_,h2,h3⟩
 simp only [ar]
 refine ⟨?_,_,_,_,_,R1,Nat.le_refl _,fun _=>rfl⟩
 obtain ⟨ad,R0,Iw⟩:=ef bN
 rw [Iw]; rfl
theorem LY {n2:Nat} (hx:ev x=.eptr id n i o0) (hm:m id=some (.nest e0 k os xs)) (hn:n=xs.length) (hz:xs[i]?=some (.agg cs)) (hc:cs[o0]?=some .fg) (hl:os.lookup o0=some (e',k')) (hy:ev y=.arr id2 n2) (lp:m id2=some (.arr e' k' ys)) (Lt:n2=ys.length) (ud:¬ pr id2) (ht:tok P t=true) (hs:tsize P t=1) :
  bR P pr ⟨.none,.store t x y,ty,pos,af,gd⟩ ev m .fg ((m.put id (.nest e0 k os (xs.set i (.agg (cs.set o0 (.lst k' ys)))))).put id2 .dead):=by
 have eE:id ≠ id2:=fun h=>by rw [h,lp] at hm; cases hm
 refine bR.skip rfl fun c a bS hM=>?_
 have hv:=bS x (by simp [Op.operands])
 rw [hx] at hv
 have lX:=bS y (by simp [Op.operands])
 rw [hy] at lX
 obtain ⟨us,zw,KP,bN,yq,Pc,Ig⟩:=gY hM lX lp Lt
 have gM:=hM.gH id
 rw [hm] at gM
 obtain ⟨g,cap,cur,v,bp,bs,bq,hB,hg,hcs,mh,hk,CM,iR,wA,qH,hnd,qI,oS⟩:=nX gM hz
 have he:=iE hv hB hn
 obtain ⟨dL,ws,h1,rfl,hC⟩:=qH
 cases h1
 have BV:ws.length=k:=by simpa [Value.cells] using CM
 have tU:(cur.toList.drop (i * k)).take k=ws:=by simpa [Value.cells] using wA
 obtain ⟨w0,cp,cb,cq,g1,rfl,g3,g4⟩:=hC.at hc
 rw [Nat.zero_add] at g3 g4
 have Sl:cb=[]:=by
  unfold fB at g3
  rw [hl] at g3
  rcases g3 with ⟨_,h⟩ | ⟨_,_,h,_⟩
  ·exact h
  ·cases h
 subst Sl
 have gP:o0<k:=by rw [← BV]; exact (List.getElem?_eq_some_iff.1 g1).1
 have hi:i<xs.length:=(List.getElem?_eq_some_iff.1 hz).1
 have Ls:i * k+k≤cur.size:=by
  have h1:=Nat.mul_le_mul_right k (show i+1≤cap by omega)
  rw [Nat.add_mul,Nat.one_mul] at h1; omega
 have rR:(a.eval y).oneCell'=true:=by
  obtain ⟨ad,R0,Iw⟩:=ef bN
  rw [Iw]; rfl
 have y1:=dF rR
 have dt:=gV (P:=P) (t:=t) (v:=a.eval y) (off:=i * k+o0) ht (by rw [hs,y1]; rfl) hg (by rw [y1]; simp; omega) (by rw [y1]; simpa using rR)
 rw [y1] at dt
 have jd:=se (w':=a.eval y) tU (by simpa using Ls) gP
 have kh:(cur.toList.take (i * k+o0)++[a.eval y]++cur.toList.drop (i * k+o0+1))=cur.toList.take (i * k)++(Value.agg (ws.set o0 (a.eval y)).toArray).cells.toList++cur.toList.drop (i * k+k):=by rw [jd]; simp [Value.cells]
 -- the block of the slice is not one of the U8
 have pw:∀ b,(a.eval y).ownBlock=some b→b ≠ g∧b ∉ bp++((cp++([]++cq))++bq):=fun b hb=>by
  constructor
  ·intro Ec
   exact eE (hM.inj id id2 _ _ b hB zw (.inl (by rw [Ec]; rfl)) (.inl hb))
  ·intro hin
   exact eE (hM.inj id id2 _ _ b hB zw (.inr hin) (.inl hb))
 have nO:(bp++((cp++((a.eval y).ownBlock.toList++cq))++bq)).Nodup:=by
  cases hb:(a.eval y).ownBlock with
  | none=>simpa [hb] using hnd
  | some b =>
   have hf:=(pw b hb).2
   have hp:(bp++((cp++((some b).toList++cq))++bq)).Perm (b :: (bp++((cp++([]++cq))++bq))):=by
    simp only [Option.toList_some,List.singleton_append,List.nil_append]
    refine (List.Perm.append_left bp ?_).trans (List.perm_middle)
    rw [List.append_assoc,List.append_assoc,List.cons_append]
    exact List.perm_middle
   exact hp.nodup_iff.2 (List.nodup_cons.2 ⟨hf,hnd⟩)
 obtain ⟨c',hw,Wf,R1,h2,h3⟩:=hM.Mm (pr:=pr) id id2 eE (.nest e0 k os (xs.set i (.agg (cs.set o0 (.lst k' ys))))) .dead (.arr (.slice (some ⟨g,0,.none⟩) xs.length cap) k xs.length (bp++((cp++((a.eval y).ownBlock.toList++cq))++bq))) (.arr (.slice .none 0 0) k' (ys.length+1) []) (c.w.setRow g (cur.toList.take (i * k+o0)++[a.eval y]++cur.toList.drop (i * k+o0+1)).toArray) rfl rfl rfl (Nat.le_refl _) (by simp)
  (fun b _ h1 _=>setRow_other _ _ _ _ (fun Ec=>h1 _ hB (.inl (by rw [Ec]; rfl))))
  (fun b hb=>by
   rcases hb with hb | hb
   ·rcases hb with hb | hb
    ·exact .inl ⟨_,hB,.inl hb⟩
    ·simp only [List.mem_append,Option.mem_toList] at hb
     rcases hb with h | (h | h | h) | h
     ·exact .inl ⟨_,hB,.inr (by simp [h])⟩
     ·exact .inl ⟨_,hB,.inr (by simp [h])⟩
     ·exact .inr (.inl ⟨_,zw,.inl h⟩)
     ·exact .inl ⟨_,hB,.inr (by simp [h])⟩
     ·exact .inl ⟨_,hB,.inr (by simp [h])⟩
   ·rcases hb with hb | hb
    ·simp [Value.ownBlock] at hb
    ·cases hb)
  (fun b _ hb2=>by
   rcases hb2 with hb | hb
   ·simp [Value.ownBlock] at hb
   ·cases hb)
  (by rw [hB]; exact ⟨_,_,_,rfl,Nat.le_refl _,fun _=>rfl⟩) (by rw [zw]; exact ⟨_,_,_,rfl,by omega,fun h=>by omega⟩) (fun _ dr h0=>by rw [hB] at h0; cases h0; exact ⟨_,_,_,rfl,Nat.le_refl _,fun _=>rfl⟩) (fun h=>absurd h ud)
  (fun c' hw hle hble _=>by
   have vP:∀ b,b ≠ g→c'.w.heap[b]?=c.w.heap[b]?:=fun b hb=>by rw [hw]; exact setRow_other _ _ _ _ hb
   refine oS c' _ (.agg (ws.set o0 (a.eval y)).toArray) _ hle (by rw [hw,kh]; exact setRow_heap c.w g _ _ e0 _ hg) (fun q hq=>vP q (fun O0=>qI (by rw [← O0]; simp at hq ⊢; rcases hq with h | h <;> simp [h]))) (by simp [Value.cells,BV]) (fun q hq=>by
    simp only [Value.cells] at hq iR
    have pS:q ∈ ws.set o0 (a.eval y):=by simpa using hq
    rcases List.mem_or_eq_of_mem_set pS with h | h
    ·exact iR q (by simpa using h)
    ·rw [h]; exact rR) ⟨_,_,rfl,rfl,?_⟩ nO (fun h=>?_)
   ·refine g4 (c':=c') (x':=.lst k' ys) (w':=a.eval y) (b':=(a.eval y).ownBlock.toList) hle (fun r hr=>vP r (fun SN=>qI (by rw [← SN]; simp at hr ⊢; rcases hr with h | h <;> simp [h]))) ?_
    unfold fB
    rw [hl]
    exact .inr ⟨ys,us,rfl,KP,cV bN (fun b hb=>vP b (pw b hb).1),aE.mono hle ys us (fun j hj=>by rw [az ys Ig] at hj; cases hj) yq,Pc,Ig,rfl⟩
   ·simp only [List.mem_append,Option.mem_toList] at h
    rcases h with h | h | h
    ·exact qI (by simp [h])
    ·exact (pw g h).1 rfl
    ·exact qI (by simp [h]))
  (fun c' hw hle hble=>by simp only [bJ]; exact ⟨_,_,_,rfl,rfl⟩)
 refine ⟨c',?_,h2,h3⟩
 rw [hw]
 simp [execOp,he,dt]
end
end Go.L
namespace Go.L
section
variable {P:Program} {N:Nat} {pr:Nat→Prop} {ev:Operand→LV} {m m':Mem} {d:Option Nat} {x y:Operand} {t ty:TypeId} {pos:String} {af:Array Edge} {gd:Option (Nat × Bool)} {lv:LV}
end
end Go.L
namespace Go.L
section
variable {P:Program} {N:Nat} {pr:Nat→Prop} {ev:Operand→LV} {m m':Mem} {d:Option Nat} {x y:Operand} {t ty:TypeId} {pos:String} {af:Array Edge} {gd:Option (Nat × Bool)} {lv:LV} {α β:Type} {f:α→LV} {g:β→LV} {e0 k id n:Nat} {os:List (Nat × Nat × Nat)} {xs:List α} {u:Int} {z0:α} {cs:List LV} {o0:Nat} {z:LV}
theorem p8 (h:idx xs u=some z0):some (LE.nest e0 k os (xs.map f))=some (LE.nest e0 k os ((xs.map f).set u.toNat (f z0))):=by
 obtain ⟨_,h2⟩:=dp h
 obtain ⟨h3,h4⟩:=List.getElem?_eq_some_iff.1 h2
 have:(xs.map f).set u.toNat (f z0)=xs.map f:=by
  rw [← List.map_set,← h4,List.set_getElem_self]
 rw [this]
theorem cz (h:idx xs u=some z0) {w:LV}:((xs.map f).set u.toNat w)[u.toNat]?=some w:=by
 obtain ⟨_,h2⟩:=dp h
 have h3:=(List.getElem?_eq_some_iff.1 h2).1
 rw [List.getElem?_set_self (by simpa using h3)]
theorem Ml {z':α} {ys:List α} (hz:f z'=.agg cs) (hy:ys=xs.set u.toNat z'):some (LE.nest e0 k os ((xs.map f).set u.toNat (.agg cs)))=some (LE.nest e0 k os (ys.map f)):=by
 rw [hy,List.map_set,hz]
theorem QI {z':LV} {ls:List LV} {i:Nat} (hx:ev x=.eptr id n i o0) (hm:m id=some (.nest e0 k os (ls.set i (.agg cs)))) (hn:n=ls.length) (hz:(ls.set i (.agg cs))[i]?=some (.agg cs)) (hc:cs[o0]?=some z) (hl:os.lookup o0=.none) (hy:ev y=z') (vw:z'.scalar=true) (hp:z'.pure=true) (ht:tok P t=true) (hs:tsize P t=1) {dL:List LV} (hcs:cs.set o0 z'=dL) :
  bR P pr ⟨.none,.store t x y,ty,pos,af,gd⟩ ev m .fg (m.put id (.nest e0 k os (ls.set i (.agg dL)))):=by
 subst hcs
 have:=QJ (pr:=pr) (ty:=ty) (pos:=pos) (af:=af) (gd:=gd) hx hm (by simpa using hn) hz hc hl hy vw hp ht hs
 rwa [List.set_set] at this
theorem CW {e' k':Nat} {ys:List β} {ls:List LV} {i:Nat} (hx:ev x=.eptr id n i o0) (hm:m id=some (.nest e0 k os ls)) (hn:n=ls.length) (hz:ls[i]?=some (.agg cs)) (hc:cs[o0]?=some (.lst k' (ys.map g))) (hl:os.lookup o0=some (e',k')) (ht:tok P t=true) (ha:tagg P t=false):bR P pr ⟨d,.load t x,ty,pos,af,gd⟩ ev m (.slen ys.length) m:=by
 have:=QE (pr:=pr) (d:=d) (ty:=ty) (pos:=pos) (af:=af) (gd:=gd) hx hm hn hz hc hl ht ha
 rwa [List.length_map] at this
theorem uD {e' k' id2:Nat} {ys:List β} {ls:List LV} {i:Nat} (hx:ev x=.eptr id n i o0) (hm:m id=some (.nest e0 k os (ls.set i (.agg cs)))) (hn:n=ls.length) (hz:(ls.set i (.agg cs))[i]?=some (.agg cs)) (hc:cs[o0]?=some (.lst k' (ys.map g))) (hl:os.lookup o0=some (e',k')) (cj:m id2=.none) (ht:tok P t=true) (ha:tagg P t=false) {dL:List LV} (hcs:cs.set o0 .fg=dL) :
  bR P pr ⟨d,.load t x,ty,pos,af,gd⟩ ev m (.arr id2 ys.length) ((m.put id (.nest e0 k os (ls.set i (.agg dL)))).put id2 (.arr e' k' (ys.map g))):=by
 subst hcs
 have:=Jp (pr:=pr) (d:=d) (ty:=ty) (pos:=pos) (af:=af) (gd:=gd) hx hm (by simpa using hn) hz hc hl cj ht ha
 rwa [List.length_map,List.set_set] at this
theorem yA {e' k' id2 n2:Nat} {ys:List β} {ls:List LV} {i:Nat} (hx:ev x=.eptr id n i o0) (hm:m id=some (.nest e0 k os (ls.set i (.agg cs)))) (hn:n=ls.length) (hz:(ls.set i (.agg cs))[i]?=some (.agg cs)) (hc:cs[o0]?=some .fg) (hl:os.lookup o0=some (e',k')) (hy:ev y=.arr id2 n2) (lp:m id2=some (.arr e' k' (ys.map g))) (Lt:n2=ys.length) (ud:¬ pr id2) (ht:tok P t=true) (hs:tsize P t=1) {dL:List LV} (hcs:cs.set o0 (.lst k' (ys.map g))=dL) :
  bR P pr ⟨.none,.store t x y,ty,pos,af,gd⟩ ev m .fg ((m.put id (.nest e0 k os (ls.set i (.agg dL)))).put id2 .dead):=by
 subst hcs
 have:=LY (pr:=pr) (ty:=ty) (pos:=pos) (af:=af) (gd:=gd) hx hm (by simpa using hn) hz hc hl hy lp (by simpa using Lt) ud ht hs
 rwa [List.set_set] at this
theorem Ji {el kk:Nat} {kd:IntKind} (he:telem P t=some el) (hk:tok P el=true) (hs:tsize P el=kk) (hx:ev x=.arr id n) (hm:m id=some (.nest el kk os (xs.map f))) (hn:n=xs.length) (hy:ev y=.int kd u) (hz:idx xs u=some z0) :
  bR P pr ⟨d,.indexAddr t x y,ty,pos,af,gd⟩ ev m (.eptr id n u.toNat 0) m:=by
 obtain ⟨h0,h2⟩:=dp hz
 exact QD he hk hs hx hm (by simpa using hn) hy h0 (by simpa using (List.getElem?_eq_some_iff.1 h2).1)
theorem QF {d1:Nat} {zc:List LV} {z':α} {v:List α} (kB:telem P t=some e0) (hz:tzero P e0=some (.agg zc)) (kh:fQ P e0=true) (hs:tsize P e0=k) (hx:ev x=.int .i64 u) (hy:ev y=.int .i64 u) (hv:vB z' u=some v) (cj:m id=.none) (gP:TP os 0 zc=true) (hfz:f z'=.agg (zN os 0 zc)) :
  bR P pr ⟨some d1,.makeSlice t x y,ty,pos,af,gd⟩ ev m (.arr id v.length) (m.put id (.nest e0 k os (v.map f))):=by
 unfold vB at hv
 split at hv
 ·rename_i hb
  cases hv
  have:=QH (pr:=pr) (ty:=ty) (pos:=pos) (af:=af) (g:=gd) (d:=d1) kB hz kh hs hx hy hb.1 hb.2 cj gP
  rw [List.length_replicate,List.map_replicate,hfz]; exact this
 ·cases hv
theorem CX {kd X9:IntKind} {u w:Int} {ts:Array TypeId} (hx:ev x=.int kd u) (hy:ev y=.int X9 w):bR P pr ⟨d,.call ⟨.builtin .min,#[x,y],ts⟩,ty,pos,af,gd⟩ ev m (.int kd (min u w)) m:=by
 refine bR.value fun c a bS hM=>?_
 have hv:=bS x (by simp [Op.operands,Call.operands])
 have hw:=bS y (by simp [Op.operands,Call.operands])
 rw [hx] at hv
 rw [hy] at hw
 simp only [ar] at hv hw
 have W3:(if w<u then w else u)=min u w:=by omega
 exact ⟨.int kd (min u w),c,by simp [execOp,resolve,invoke,builtin,Builtin.min_,Builtin.min2,hv,hw,W3],by simp [ar],hM,Step.refl pr c⟩
theorem Jk {kd X9:IntKind} {u w:Int} {ts:Array TypeId} (hx:ev x=.int kd u) (hy:ev y=.int X9 w):bR P pr ⟨d,.call ⟨.builtin .max,#[x,y],ts⟩,ty,pos,af,gd⟩ ev m (.int kd (max u w)) m:=by
 refine bR.value fun c a bS hM=>?_
 have hv:=bS x (by simp [Op.operands,Call.operands])
 have hw:=bS y (by simp [Op.operands,Call.operands])
 rw [hx] at hv
 rw [hy] at hw
 simp only [ar] at hv hw
 have W3:(if w > u then w else u)=max u w:=by omega
 exact ⟨.int kd (max u w),c,by simp [execOp,resolve,invoke,builtin,Builtin.max_,Builtin.max2,hv,hw,W3],by simp [ar],hM,Step.refl pr c⟩
end
end Go.L
namespace Go.L
theorem cG.re {c:Cx} {m:Mem} (h:cG c m) {oq:Nat} {cs dL:List LV} (hm:m oq=some (.box cs)) {vs:List Value} {b:Nat} {e:TypeId} (hB:c.B oq=some (.box b cs.length)) (hh:c.w.heap[b]?=some (.cells vs.toArray e (0,0))) (hl:aE c dL vs) (h1:∀ v ∈ vs,v.oneCell'=true) (hn:dL.length=cs.length):cG c (m.put oq (.box dL)):=by
 refine ⟨fun i=>?_,h.inj,h.jT,h.vu⟩
 by_cases hi:i=oq
 ·subst hi
  simp only [Mem.put,if_true,bJ]
  exact ⟨b,vs,e,by rw [hn]; exact hB,hh,hl,h1⟩
 ·simp only [Mem.put,hi,if_false]
  exact h.gH i
theorem Bu {c:Cx}:∀ (cs:List LV) (vs:List Value),aE c cs vs→aE c (cs.map fun _=>LV.fg) vs
 | [],vs,h=>by simpa only [aE,List.map_nil] using h
 | x :: xs,vs,h=>by
  simp only [aE,List.map_cons] at h ⊢
  obtain ⟨v,fR,rfl,h1,h2⟩:=h
  exact ⟨v,fR,rfl,by simp [ar],Bu xs fR h2⟩
theorem uu {id:Nat}:∀ (cs:List LV),LV.cD id (cs.map fun _=>LV.fg)=true
 | []=>by simp [LV.cD]
 | x :: xs=>by simp [LV.cD,LV.bo,uu xs]
theorem p9 {id k:Nat} {xs:List LV}:∀ (cs:List LV),(LV.gj id k xs cs).length=cs.length
 | []=>by simp [LV.gj]
 | x :: cs=>by simp [LV.gj,p9 cs]
def On (id oq:Nat) (ml:List (Nat × LE)):Bool:=ml.all fun q=>q.1 == id || q.1 == oq || match q.2 with | .box cs=>LV.cD id cs | .arr _ _ _=>true | .map _ _ _=>true | .nest _ _ _ _=>true | .de _ _ _ _ _ _ id2 _=>id2 != id | .dead=>true
theorem Wk.ez {pr:Nat→Prop} {el:List (Nat × LV)} {ml:List (Nat × LE)} {α:Type} {f:α→LV} (id e k:Nat) (xs:List α) (oq:Nat) {cs dL:List LV} (cj:Mem.of ml id=some (.arr e k (xs.map f))) (hb:Mem.of ml oq=some (.box cs)) (eE:(oq == id)=false) (hcs:LV.gj id k (xs.map f) cs=dL) (nM:On id oq ml=true) (OO:(el.all fun p=>p.2.bo id)=true) (mi:¬ pr id) :
  Wk pr (Env.of el) (Mem.of ml) (Env.of el) (((Mem.of ml).del id).put oq (.box dL)):=by
 intro N c a cv
 have eE:oq ≠ id:=by simpa using eE
 obtain ⟨b,vs,e1,FJ,hh,hl,h1⟩:=j9 cv.mem hb
 have k5:=cv.mem.re (dL:=cs.map fun _=>LV.fg) hb FJ hh (Bu cs vs hl) h1 (by simp)
 obtain ⟨c',hw,hO,j6,hV,bN,hX,hB⟩:=k5.del id (by
  intro i ds hi hd
  by_cases Rv:i=oq
  ·subst Rv
   simp only [Mem.put,if_true,Option.some.injEq] at hd
   rw [← hd]; exact uu cs
  ·simp only [Mem.put,Rv,if_false] at hd
   have:=List.all_eq_true.1 nM _ (dS hd)
   cases ds with
   | box cs=>simpa [hi,Rv,LE.iU] using this
   | de _ _ _ _ _ _ _ _=>simpa [hi,Rv,LE.iU] using this
   | _=>rfl)
 have hle:c.Le c':=⟨by rw [hw]; exact Nat.le_refl _,fun b _ hx=>⟨by rw [hw],fun oC=>hx (oC.imp (fun h=>by rw [hO] at h; exact h) (bN b))⟩⟩
 have Wx:∀ v,ar c (.arr id (xs.map f).length) v→ar c' (.lst k (xs.map f)) v:=by
  intro v hv
  obtain ⟨us,hBu,hk,nQ,hl,hc,hp⟩:=gY cv.mem hv cj rfl
  simp only [ar]
  have oz:=aE.mono hle (xs.map f) us (fun j hj=>by rw [az _ hp] at hj; cases hj) hl
  rcases nQ.2 with ⟨rfl,h0⟩ | ⟨g,cap,cur,rfl,_,hg,mh,_⟩
  ·exact ⟨.none,0,by rw [h0],by omega,fun _=>rfl,hp,.inl (List.eq_nil_of_length_eq_zero h0)⟩
  ·refine ⟨some ⟨g,0,.none⟩,cap,rfl,mh,by simp,hp,.inr ⟨g,0,us,rfl,by rw [hw]; exact (Array.getElem?_eq_some_iff.1 hg).1,hX g _ hBu (.inl rfl),oz,hc,?_⟩⟩
   rw [hw]; exact gr nQ rfl
 have Cz:aE c' dL vs:=by rw [← hcs]; exact j5 hV Wx cs vs hl
 have hlen:dL.length=cs.length:=by rw [← hcs,p9]
 have lp:=j6.re (oq:=oq) (cs:=cs.map fun _=>LV.fg) (dL:=dL) (by simp [Mem.del,Mem.put,eE]) (by rw [hB oq eE]; simpa using FJ) (by rw [hw]; exact hh) Cz h1 (by simpa using hlen)
 have fw:(((Mem.of ml).put oq (.box (cs.map fun _=>LV.fg))).del id).put oq (.box dL)=((Mem.of ml).del id).put oq (.box dL):=by
  funext i
  simp only [Mem.put,Mem.del]
  by_cases Rv:i=oq <;> simp [Rv]
 rw [fw] at lp
 refine ⟨c',hw,⟨fun i=>hV _ _ ?_ (cv.env i),lp,cv.size,cv.defers⟩,?_⟩
 ·clear cv
  induction el with
  | nil=>simp [Env.of,LV.bo]
  | cons p el ih =>
   simp only [List.all_cons,Bool.and_eq_true] at OO
   simp only [Env.of]
   split
   ·exact OO.1
   ·exact ih OO.2
 ·refine ⟨hO,by rw [hw],by rw [hw],by rw [hw],by rw [hw]; exact Nat.le_refl _,by rw [hw]; exact Nat.le_refl _,fun b _ _=>by rw [hw],fun b ho=>.inl (bN b ho),fun i be Ib hb=>?_⟩
  exact ⟨be,by rw [hB i (fun h=>mi (h ▸ Ib))]; exact hb,.refl be⟩
theorem gR {id k:Nat} {ys:List LV}:LV.gj id k ys []=[]:=by simp [LV.gj]
theorem cC {id k:Nat} {ys:List LV} {x:LV} {cs dL:List LV} (h:x.bo id=true) (hr:LV.gj id k ys cs=dL):LV.gj id k ys (x :: cs)=x :: dL:=by
 simp only [LV.gj,ph x h,hr]
theorem gS {α:Type} {f:α→LV} {id k:Nat} {ys:List α} {cs dL:List LV} (hr:LV.gj id k (ys.map f) cs=dL):LV.gj id k (ys.map f) (.arr id ys.length :: cs)=.lst k (ys.map f) :: dL:=by
 simp [LV.gj,LV.fv,hr]
section
variable {α β γ:Type} {n:Nat} {v w:Option (α × List β)}
end
end Go.L
namespace Go.L
section
variable {P:Program} {N:Nat} {pr:Nat→Prop} {ev:Operand→LV} {m m':Mem} {d:Option Nat} {x y z:Operand} {t ty:TypeId} {pos:String} {af:Array Edge} {gd:Option (Nat × Bool)} {lv:LV} {α β:Type} {f:α→LV} {g:β→LV} {e0 k id n:Nat} {os:List (Nat × Nat × Nat)} {xs:List α} {u:Int} {z0:α} {cs:List LV} {o0:Nat}
theorem cw.mem {o:Oper} {m2:Mem} (h:cw P pr o ev m lv m') (hs:∀ c,cG c m'→cG c m2):cw P pr o ev m lv m2:=by
 intro c a Q bS hm
 refine Oper.wp_mono ?_ (h c a Q bS hm)
 rintro a' w' ⟨v,c',h1,h2,h3,h4,h5⟩
 exact ⟨v,c',h1,h2,h3,hs c' h4,h5⟩
end
theorem cG.Yw {c:Cx} {m:Mem} {id e k:Nat} {xs ys:List LV} (hs:fl xs ys) (hp:LV.bt ys=true) (h:cG c (m.put id (.arr e k xs))):cG c (m.put id (.arr e k ys)):=by
 refine ⟨fun i=>?_,h.inj,h.jT,h.vu⟩
 have he:=h.gH i
 by_cases hi:i=id
 ·subst hi
  simp only [Mem.put,if_true,bJ] at he ⊢
  obtain ⟨u,vs,h1,h2,h3,h4,h5,h6⟩:=he
  have hl:ys.length=xs.length:=by rw [h4.length,(hs.rep h4).length]
  exact ⟨u,vs,by rw [hl]; exact h1,h2,by rw [hl]; exact h3,hs.rep h4,h5,hp⟩
 ·simp only [Mem.put,hi,if_false] at he ⊢
  exact he
theorem fl.Kd {x y:LV} (h:Sub x y):∀ n,fl (List.replicate n x) (List.replicate n y)
 | 0=>trivial
 | n+1=>⟨h,fl.Kd h n⟩
end Go.L
namespace Go.L
def Cn:Option BE→Option BE
 | some (.arr u k len _)=>some (.arr (.slice .none 0 0) k (len+1) [])
 | y=>y
def Mem.gone (m:Mem) (id:Nat) (le:LE) (S:List Nat):Mem:=fun i=>if i=id then some le else if i ∈ S then some .dead else m i
theorem cG.Mn {pr:Nat→Prop} {c:Cx} {m:Mem} (h:cG c m) (id:Nat) (S:List Nat) (hS:id ∉ S) (Wr:∀ j ∈ S,∃ u k len ins,c.B j=some (.arr u k len ins)) (Ou:∀ j ∈ S,¬ pr j) (le:LE) (be:BE) (w':World)
  (GZ:w'.os=c.w.os) (qe:w'.tape=c.w.tape) (nP:w'.output=c.w.output) (zB:c.w.drawn≤w'.drawn) (gm:c.w.heap.size≤w'.heap.size)
  (iH:∀ b,b<c.w.heap.size→(∀ dr,c.B id=some dr→¬ dr.has b)→w'.heap[b]?=c.w.heap[b]?)
  (hblk:∀ b,be.has b→(∃ dr,c.B id=some dr∧dr.has b) ∨ (∃ j ∈ S,∃ dr,c.B j=some dr∧dr.has b) ∨ c.w.heap.size≤b)
  (hle:js (c.B id) (some be)) (mi:pr id→∀ dr,c.B id=some dr→dr.jE be)
  (gM:∀ c':Cx,c'.w=w'→c.Le c'→(∀ i,js (c.B i) (c'.B i))→c'.O=c.O→(∀ b,c'.own b→be.has b ∨ ∃ j dr,j ≠ id∧c.B j=some dr∧dr.has b)→bJ c' (some le) (some be)) :
  ∃ c':Cx,c'.w=w'∧c'.B id=some be∧cG c' (m.gone id le S)∧Step pr c c':=by
 let c':Cx:=⟨w',fun i=>if i=id then some be else if i ∈ S then Cn (c.B i) else c.B i,c.O⟩
 have e1:c'.B id=some be:=by simp [c']
 have e2:∀ i,i ∈ S→c'.B i=Cn (c.B i):=fun i hi=>by
  have:i ≠ id:=fun h=>hS (h ▸ hi)
  simp [c',this,hi]
 have e3:∀ i,i ≠ id→i ∉ S→c'.B i=c.B i:=fun i h1 h2=>by simp [c',h1,h2]
 have key:∀ i b1 b,c'.B i=some b1→b1.has b→(i=id∧be.has b) ∨ (i ≠ id∧i ∉ S∧c.B i=some b1):=by
  intro i b1 b g1 g2
  by_cases hi:i=id
  ·subst hi; rw [e1] at g1; cases g1; exact .inl ⟨rfl,g2⟩
  ·by_cases hs:i ∈ S
   ·rw [e2 i hs] at g1
    obtain ⟨u,k,len,ins,hB⟩:=Wr i hs
    rw [hB] at g1
    simp only [Cn,Option.some.injEq] at g1
    subst g1
    rcases g2 with g2 | g2
    ·simp [Value.ownBlock] at g2
    ·cases g2
   ·rw [e3 i hi hs] at g1; exact .inr ⟨hi,hs,g1⟩
 have bN:∀ b,c'.own b→c.own b ∨ c.w.heap.size≤b:=by
  rintro b ⟨i,dK,h1,h2⟩
  rcases key i dK b h1 h2 with ⟨_,h3⟩ | ⟨_,_,h3⟩
  ·rcases hblk b h3 with ⟨dr,q1,q2⟩ | ⟨j,_,dr,q1,q2⟩ | q
   ·exact .inl ⟨id,dr,q1,q2⟩
   ·exact .inl ⟨j,dr,q1,q2⟩
   ·exact .inr q
  ·exact .inl ⟨i,dK,h3,h2⟩
 have eK:Grow pr c c':=by
  refine ⟨rfl,GZ,qe,nP,zB,gm,fun b hb ho=>iH b hb (fun dr h0 h1=>ho ⟨id,dr,h0,h1⟩),bN,fun i dK hp hb=>?_⟩
  by_cases hi:i=id
  ·subst hi; exact ⟨be,e1,mi hp dK hb⟩
  ·have hs:i ∉ S:=fun hs=>Ou i hs hp
   exact ⟨dK,by rw [e3 i hi hs]; exact hb,.refl dK⟩
 have hble:∀ i,js (c.B i) (c'.B i):=by
  intro i
  by_cases hi:i=id
  ·subst hi; rw [e1]; exact hle
  ·by_cases hs:i ∈ S
   ·rw [e2 i hs]
    obtain ⟨u,k,len,ins,hB⟩:=Wr i hs
    rw [hB]
    exact ⟨_,_,_,rfl,by omega,fun h=>by omega⟩
   ·rw [e3 i hi hs]; exact js.refl _
 have wD:∀ b,c'.own b→be.has b ∨ ∃ j dr,j ≠ id∧c.B j=some dr∧dr.has b:=by
  rintro b ⟨i,dK,h1,h2⟩
  rcases key i dK b h1 h2 with ⟨_,h3⟩ | ⟨q1,_,h3⟩
  ·exact .inl h3
  ·exact .inr ⟨i,dK,q1,h3,h2⟩
 refine ⟨c',rfl,e1,⟨fun i=>?_,?_,?_,?_⟩,eK,hble⟩
 ·by_cases hi:i=id
  ·subst hi; rw [e1]; simp only [Mem.gone,if_true]; exact gM c' rfl eK.le hble rfl wD
  ·by_cases hs:i ∈ S
   ·rw [e2 i hs]
    simp only [Mem.gone,hi,hs,if_true,if_false,bJ]
    obtain ⟨u,k,len,ins,hB⟩:=Wr i hs
    rw [hB]
    exact ⟨_,_,_,rfl,rfl⟩
   ·rw [e3 i hi hs]
    simp only [Mem.gone,hi,hs,if_false]
    refine (h.gH i).mono eK.le hble fun dK b hb tO=>?_
    refine iH b ((h.gH i).lt hb tO) (fun dr h0 h1=>?_)
    exact hi (h.inj i id dK dr b hb h0 tO h1)
 ·have one:∀ i b1 b,i ≠ id→i ∉ S→c.B i=some b1→b1.has b→be.has b→False:=by
   intro i b1 b h1 h2 h3 h4 h5
   rcases hblk b h5 with ⟨dr,q1,q2⟩ | ⟨j,hj,dr,q1,q2⟩ | q
   ·exact h1 (h.inj i id b1 dr b h3 q1 h4 q2)
   ·exact h2 (h.inj i j b1 dr b h3 q1 h4 q2 ▸ hj)
   ·have:=(h.gH i).lt h3 h4; omega
  intro i i' b1 b2 b h1 h2 h3 h4
  rcases key i b1 b h1 h3 with ⟨q1,q2⟩ | ⟨q1,q2,q3⟩
  ·rcases key i' b2 b h2 h4 with ⟨r1,r2⟩ | ⟨r1,r2,r3⟩
   ·rw [q1,r1]
   ·exact (one i' b2 b r1 r2 r3 h4 q2).elim
  ·rcases key i' b2 b h2 h4 with ⟨r1,r2⟩ | ⟨r1,r2,r3⟩
   ·exact (one i b1 b q1 q2 q3 h3 r2).elim
   ·exact h.inj i i' b1 b2 b q3 r3 h3 h4
 ·intro b ho hO
  rcases bN b ho with ho | hs
  ·exact h.jT b ho hO
  ·have:=h.vu b hO; omega
 ·intro b hO; exact Nat.lt_of_lt_of_le (h.vu b hO) gm
theorem Wk.oj {pr:Nat→Prop} {el:List (Nat × LV)} {ml:List (Nat × LE)} {α:Type} {f:α→LV} (id e k:Nat) (os:List (Nat × Nat × Nat)) (xs:List α) (cj:Mem.of ml id=some (.nest e k os (xs.map f))) (gP:oR k f) :
  Wk pr (Env.of el) (Mem.of ml) (Env.of el) ((Mem.of ml).gone id (.arr e k (xs.map f)) []):=by
 intro N c a cv
 have he:=cv.mem.gH id
 rw [cj] at he
 simp only [bJ] at he
 obtain ⟨u,vs,bs,hB,hk,bN,hn,hc,hnd,sR⟩:=he
 obtain ⟨c',hw,hb,h2,h3⟩:=cv.mem.Mn (pr:=pr) id [] (by simp) (by simp) (by simp) (.arr e k (xs.map f)) (.arr u k (xs.map f).length []) c.w rfl rfl rfl (Nat.le_refl _) (Nat.le_refl _)
  (fun b _ _=>rfl) (fun b hb=>.inl ⟨_,hB,hb.elim .inl (fun h=>by cases h)⟩) (by rw [hB]; exact ⟨_,_,_,rfl,Nat.le_refl _,fun _=>rfl⟩) (fun _ dr h0=>by rw [hB] at h0; cases h0; exact ⟨_,_,_,rfl,Nat.le_refl _,fun _=>rfl⟩)
  (fun c' hw hle hble hO wD=>by
   simp only [bJ]
   refine ⟨u,vs,rfl,hk,by rw [hw]; exact bN,hn.Ea hle hw (fun b hb=>?_),hc,gP.bt xs⟩
   have Lm:c.own b:=⟨id,_,hB,.inr hb⟩
   rintro (h | h)
   ·rw [hO] at h; exact cv.mem.jT b Lm h
   ·rcases wD b h with h | ⟨j,dr,q1,q2,q3⟩
    ·rcases h with h | h
     ·exact sR b h hb
     ·cases h
    ·exact q1 (cv.mem.inj j id dr _ b q2 hB q3 (.inr hb)))
 exact ⟨c',hw,⟨fun i=>h3.yJ (cv.env i),h2,cv.size,cv.defers⟩,h3.grow⟩
theorem Wk.oa {pr:Nat→Prop} {el:List (Nat × LV)} {ml:List (Nat × LE)} (id e k oq j:Nat) {cs dL:List LV} (cj:Mem.of ml id=.none) (hk:Nat.ble 1 k=true) (hb:Mem.of ml oq=some (.box cs)) (hj:cs[j]?=some .nil) (hcs:cs.set j (.arr id 0)=dL) (mi:¬ pr id) :
  Wk pr (Env.of el) (Mem.of ml) (Env.of el) (((Mem.of ml).put id (.arr e k [])).put oq (.box dL)):=by
 intro N c a cv
 have eE:oq ≠ id:=fun h=>by rw [h,cj] at hb; cases hb
 have hB:=cv.mem.fresh cj
 obtain ⟨c',hw,iG,h2,h3⟩:=cv.mem.y4 (pr:=pr) id (.arr e k []) (.arr (.slice .none 0 0) k 0 []) c.w rfl rfl rfl (Nat.le_refl _) (Nat.le_refl _)
  (fun b _ _=>rfl) (fun b hb=>by simp [BE.has,Value.ownBlock] at hb) (by rw [hB]; trivial) (fun h=>absurd h mi)
  (fun c' hw hle hble=>by
   simp only [bJ]
   exact ⟨.slice .none 0 0,[],rfl,Nat.le_of_ble_eq_true hk,by rw [hw]; exact World.ownsRow_nil c.w 0 e k,by simp [aE],by simp,by simp [LV.bt]⟩)
 have hb2:((Mem.of ml).put id (.arr e k [])) oq=some (.box cs):=by simp only [Mem.put,eE,if_false]; exact hb
 obtain ⟨b,vs,e1,FJ,hh,hl,h1⟩:=j9 h2 hb2
 have jd:∀ (cs:List LV) (vs:List Value) (j:Nat),aE c' cs vs→cs[j]?=some .nil→aE c' (cs.set j (.arr id 0)) vs:=by
  intro cs
  induction cs with
  | nil=>intro vs j _ h; simp at h
  | cons x xs ih =>
   intro vs j hl hj
   simp only [aE] at hl
   obtain ⟨v,fR,rfl,hv,oz⟩:=hl
   cases j with
   | zero =>
    simp at hj; subst hj
    simp only [ar] at hv
    simp only [List.set_cons_zero,aE]
    refine ⟨v,fR,rfl,?_,oz⟩
    simp only [ar]
    exact ⟨by rw [hv]; rfl,_,_,_,_,iG,Nat.le_refl _,fun _=>hv⟩
   | succ j =>
    simp only [List.set_cons_succ,aE]
    exact ⟨v,fR,rfl,hv,ih fR j oz (by simpa using hj)⟩
 have lp:=h2.re (dL:=dL) hb2 FJ hh (by rw [← hcs]; exact jd cs vs j hl hj) h1 (by rw [← hcs]; simp)
 exact ⟨c',hw,⟨fun i=>h3.yJ (cv.env i),lp,cv.size,cv.defers⟩,h3.grow⟩
def ly (m:Mem) (os:List (Nat × Nat × Nat)):Nat→List LV→List LV→List Nat→Prop
 | _,[],dL,S=>dL=[]∧S=[]
 | o,x :: xs,dL,S=>∃ x' y6 S1 S2,dL=x' :: y6∧S=S1++S2∧ly m os (o+1) xs y6 S2 ∧
   match os.lookup o with
   | .none=>x'=x∧x.pure=true∧S1=[]
   | some (e,k)=>(x=.nil∧0<k∧x'=.lst k []∧S1=[]) ∨ ∃ id2 ys,x=.arr id2 ys.length∧m id2=some (.arr e k ys)∧x'=.lst k ys∧S1=[id2]
theorem YZ {m:Mem} {os:List (Nat × Nat × Nat)} {o:Nat}:ly m os o [] [] []:=⟨rfl,rfl⟩
theorem Vy {m:Mem} {os:List (Nat × Nat × Nat)} {o:Nat} {x:LV} {xs y6:List LV} {S:List Nat} (hl:os.lookup o=.none) (hp:x.pure=true) (h:ly m os (o+1) xs y6 S):ly m os o (x :: xs) (x :: y6) S :=
 ⟨x,y6,[],S,rfl,rfl,h,by rw [hl]; exact ⟨rfl,hp,rfl⟩⟩
theorem Z1 {m:Mem} {os:List (Nat × Nat × Nat)} {o e k:Nat} {xs y6:List LV} {S:List Nat} (hl:os.lookup o=some (e,k)) (hk:Nat.ble 1 k=true) (h:ly m os (o+1) xs y6 S):ly m os o (.nil :: xs) (.lst k [] :: y6) S :=
 ⟨.lst k [],y6,[],S,rfl,rfl,h,by rw [hl]; exact .inl ⟨rfl,Nat.le_of_ble_eq_true hk,rfl,rfl⟩⟩
theorem RT {α:Type} {g:α→LV} {ys:List α} {m:Mem} {os:List (Nat × Nat × Nat)} {o e k id2:Nat} {xs y6:List LV} {S:List Nat} (hl:os.lookup o=some (e,k)) (hm:m id2=some (.arr e k (ys.map g))) (h:ly m os (o+1) xs y6 S):ly m os o (.arr id2 ys.length :: xs) (.lst k (ys.map g) :: y6) (id2 :: S) :=
 ⟨.lst k (ys.map g),y6,[id2],S,rfl,rfl,h,by rw [hl]; exact .inr ⟨id2,ys.map g,by simp,hm,rfl,rfl⟩⟩
def na:Option BE→List Nat
 | some (.arr u _ _ _)=>u.ownBlock.toList
 | _=>[]
def iO (c:Cx) (S:List Nat):List Nat:=S.flatMap fun j=>na (c.B j)
theorem lE {c:Cx} {S:List Nat} {b:Nat} (h:b ∈ iO c S):∃ j ∈ S,∃ be,c.B j=some be∧be.has b:=by
 simp only [iO,List.mem_flatMap] at h
 obtain ⟨j,hj,hb⟩:=h
 refine ⟨j,hj,?_⟩
 cases hB:c.B j with
 | none=>simp [na,hB] at hb
 | some be =>
  cases be with
  | box _ _=>simp [na,hB] at hb
  | mp _=>simp [na,hB] at hb
  | arr u k len ins=>rw [hB] at hb; exact ⟨_,rfl,.inl (by simpa [na] using hb)⟩
theorem pd {c:Cx} {m:Mem} (hM:cG c m):∀ {S:List Nat},S.Nodup→(iO c S).Nodup
 | [],_=>by simp [iO]
 | j :: S,h=>by
  have h':=List.nodup_cons.1 h
  have:iO c (j :: S)=na (c.B j)++iO c S:=by simp [iO]
  rw [this,List.nodup_append]
  refine ⟨?_,pd hM h'.2,?_⟩
  ·cases hB:c.B j with
   | none=>simp [na]
   | some be =>
    cases be with
    | box _ _=>simp [na]
    | mp _=>simp [na]
    | arr u k len ins=>cases hu:u.ownBlock <;> simp [na,hu]
  ·intro a ha b hb nf
   subst nf
   obtain ⟨j1,Rw,RX,q1,q2⟩:=lE (c:=c) (S:=[j]) (b:=a) (by simpa [iO] using ha)
   obtain ⟨j2,HU,DX,q3,q4⟩:=lE hb
   have hjj:=hM.inj j1 j2 RX DX a q1 q3 q2 q4
   simp at Rw
   rw [← Rw,hjj] at h'
   exact h'.1 HU
theorem ly.ids {m:Mem} {os:List (Nat × Nat × Nat)}:∀ {o:Nat} {cs dL:List LV} {S:List Nat},ly m os o cs dL S→∀ j ∈ S,∃ e k ys,m j=some (.arr e k ys)
 | _,[],_,_,h=>by simp only [ly] at h; rw [h.2]; simp
 | o,x :: xs,dL,S,h=>by
  simp only [ly] at h
  obtain ⟨x',y6,S1,S2,rfl,rfl,h1,h2⟩:=h
  intro j hj
  rcases List.mem_append.1 hj with hj | hj
  ·split at h2
   ·rw [h2.2.2] at hj; cases hj
   ·rename_i e k _
    rcases h2 with ⟨_,_,_,rfl⟩ | ⟨id2,ys,_,hm,_,rfl⟩
    ·cases hj
    ·simp at hj; subst hj; exact ⟨e,k,ys,hm⟩
  ·exact h1.ids j hj
theorem ly.rep {c c':Cx} {m:Mem} (hM:cG c m) (hle:c.Le c') {os:List (Nat × Nat × Nat)}:∀ {o:Nat} {cs dL:List LV} {S:List Nat} {ws:List Value},ly m os o cs dL S→aE c cs ws→(∀ b ∈ iO c S,c'.w.heap[b]?=c.w.heap[b]?)→gB c' os o dL ws (iO c S)
 | _,[],_,_,ws,h,hl,_=>by
  simp only [ly] at h
  obtain ⟨rfl,rfl⟩:=h
  simp only [aE] at hl
  simp only [gB]; exact ⟨hl,by simp [iO]⟩
 | o,x :: xs,dL,S,ws,h,hl,hh=>by
  simp only [ly] at h
  obtain ⟨x',y6,S1,S2,rfl,rfl,h1,h2⟩:=h
  simp only [aE] at hl
  obtain ⟨w,Fc,rfl,hw,oz⟩:=hl
  have hb:iO c (S1++S2)=iO c S1++iO c S2:=by simp [iO]
  rw [hb] at hh ⊢
  simp only [gB]
  refine ⟨w,Fc,iO c S1,iO c S2,rfl,rfl,?_,ly.rep hM hle h1 oz (fun b hb=>hh b (by simp [hb]))⟩
  unfold fB
  split at h2
  ·rename_i WW
   obtain ⟨rfl,hp,rfl⟩:=h2
   rw [WW]
   exact ⟨ar.mono hle _ w (fun id cj=>by rw [gU _ hp] at cj; cases cj) hw,hp,by simp [iO]⟩
  ·rename_i e k WW
   rw [WW]
   rcases h2 with ⟨rfl,hk,rfl,rfl⟩ | ⟨id2,ys,rfl,hm,rfl,rfl⟩
   ·simp only [ar] at hw
    subst hw
    exact .inr ⟨[],[],rfl,hk,World.ownsRow_nil c'.w 0 e k,by simp [aE],by simp,rfl,by simp [iO,Value.ownBlock]⟩
   ·obtain ⟨us,hB,hk,bN,yq,hc,hp⟩:=gY hM hw hm rfl
    refine .inr ⟨ys,us,rfl,hk,cV bN (fun b hb=>hh b ?_),aE.mono hle ys us (fun j hj=>by rw [az ys hp] at hj; cases hj) yq,hc,hp,by simp [iO,hB,na]⟩
    simp [iO,hB,na,hb]
section
variable {P:Program} {N:Nat} {pr:Nat→Prop} {ev:Operand→LV} {m m':Mem} {d:Option Nat} {x y z:Operand} {t ty:TypeId} {pos:String} {af:Array Edge} {gd:Option (Nat × Bool)} {lv:LV} {α β:Type} {f:α→LV} {g:β→LV} {e0 k id n:Nat} {os:List (Nat × Nat × Nat)}
theorem QM {i:Nat} {xs cs dL:List LV} {z:LV} {S:List Nat} (hx:ev x=.eptr id n i 0) (hm:m id=some (.nest e0 k os xs)) (hn:n=xs.length) (hz:xs[i]?=some z) (hy:ev y=.agg cs) (ht:tok P t=true) (hs:tsize P t=k) (hl:cs.length=k) (vw:cs.all LV.scalar=true) (nf:ly m os 0 cs dL S) (hS:S.Nodup) (Ou:∀ j ∈ S,¬ pr j) :
  bR P pr ⟨.none,.store t x y,ty,pos,af,gd⟩ ev m .fg (m.gone id (.nest e0 k os (xs.set i (.agg dL))) S):=by
 refine bR.skip rfl fun c a bS hM=>?_
 have hv:=bS x (by simp [Op.operands])
 rw [hx] at hv
 have lX:=bS y (by simp [Op.operands])
 rw [hy] at lX
 obtain ⟨F3,rR⟩:=lX.cellsOf (by simpa [LV.cells] using vw)
 simp only [ar] at lX
 obtain ⟨ws,RD,yq⟩:=lX
 have BV:ws.length=k:=by rw [← yq.length]; exact hl
 have gM:=hM.gH id
 rw [hm] at gM
 obtain ⟨gb,cap,cur,v,bp,bs,bq,hB,hg,hcs,mh,hk,CM,iR,wA,qH,hnd,qI,oS⟩:=nX gM hz
 have he:=iE hv hB hn
 have Lr:id ∉ S:=fun h=>by
  obtain ⟨e,k',ys,h'⟩:=nf.ids id h
  rw [hm] at h'; cases h'
 have Wq:∀ j ∈ S,∃ u k len ins,c.B j=some (.arr u k len ins):=fun j hj=>by
  obtain ⟨e,k',ys,h'⟩:=nf.ids j hj
  have:=hM.gH j
  rw [h'] at this
  simp only [bJ] at this
  obtain ⟨u,vs,hb,_⟩:=this
  exact ⟨u,k',_,_,hb⟩
 have tV:∀ b ∈ iO c S,b ≠ gb∧b ∉ bp++(bs++bq):=fun b hb=>by
  obtain ⟨j,hj,be,q1,q2⟩:=lE hb
  have Eg:j ≠ id:=fun h=>Lr (h ▸ hj)
  exact ⟨fun h=>Eg (hM.inj j id be _ b q1 hB q2 (.inl (by rw [h]; rfl))),fun h=>Eg (hM.inj j id be _ b q1 hB q2 (.inr h))⟩
 have hi:i<xs.length:=(List.getElem?_eq_some_iff.1 hz).1
 have Ls:i * k+k≤cur.size:=by
  have h1:=Nat.mul_le_mul_right k (show i+1≤cap by omega)
  rw [Nat.add_mul,Nat.one_mul] at h1; omega
 have y1:(a.eval y).cells.size=k:=by rw [RD]; simp [Value.cells,BV]
 have dt:=gV (P:=P) (t:=t) (v:=a.eval y) (off:=i * k) ht (by rw [hs,y1]) hg (by rw [y1]; exact Ls) rR
 have hyt:(a.eval y).cells.toList.length=k:=by simpa using y1
 rw [hyt] at dt
 have nO:(bp++(iO c S++bq)).Nodup:=by
  have n1:=List.nodup_append.1 hnd
  have n2:=List.nodup_append.1 n1.2.1
  rw [List.nodup_append]
  refine ⟨n1.1,?_,?_⟩
  ·rw [List.nodup_append]
   exact ⟨pd hM hS,n2.2.1,fun p hp q hq VK=>(tV p hp).2 (by rw [VK]; simp [hq])⟩
  ·intro p hp q hq VK
   rcases List.mem_append.1 hq with hq | hq
   ·exact (tV q hq).2 (by rw [← VK]; simp [hp])
   ·exact n1.2.2 p hp q (by simp [hq]) VK
 obtain ⟨c',hw,eb,h2,h3⟩:=hM.Mn (pr:=pr) id S Lr Wq Ou (.nest e0 k os (xs.set i (.agg dL))) (.arr (.slice (some ⟨gb,0,.none⟩) xs.length cap) k xs.length (bp++(iO c S++bq))) (c.w.setRow gb (cur.toList.take (i * k)++(a.eval y).cells.toList++cur.toList.drop (i * k+k)).toArray) rfl rfl rfl (Nat.le_refl _) (by simp)
  (fun b _ h1=>setRow_other _ _ _ _ (fun Ec=>h1 _ hB (.inl (by rw [Ec]; rfl))))
  (fun b hb=>by
   rcases hb with hb | hb
   ·exact .inl ⟨_,hB,.inl hb⟩
   ·simp only [List.mem_append] at hb
    rcases hb with h | h | h
    ·exact .inl ⟨_,hB,.inr (by simp [h])⟩
    ·exact .inr (.inl (lE h))
    ·exact .inl ⟨_,hB,.inr (by simp [h])⟩)
  (by rw [hB]; exact ⟨_,_,_,rfl,Nat.le_refl _,fun _=>rfl⟩) (fun _ dr h0=>by rw [hB] at h0; cases h0; exact ⟨_,_,_,rfl,Nat.le_refl _,fun _=>rfl⟩)
  (fun c' hw hle hble hO wD=>by
   have vP:∀ b,b ≠ gb→c'.w.heap[b]?=c.w.heap[b]?:=fun b hb=>by rw [hw]; exact setRow_other _ _ _ _ hb
   exact oS c' _ (a.eval y) _ hle (by rw [hw]; exact setRow_heap c.w gb _ _ e0 _ hg) (fun q hq=>vP q (fun O0=>qI (by rw [← O0]; simp at hq ⊢; rcases hq with h | h <;> simp [h]))) y1 rR ⟨dL,ws,rfl,RD,nf.rep hM hle yq (fun b hb=>vP b (tV b hb).1)⟩ nO (fun h=>(tV gb h).1 rfl))
 refine ⟨c',?_,h2,h3⟩
 rw [hw]
 simp only [Nat.add_zero] at he
 simp [execOp,he,dt]
theorem QL {u:Int} {xs:List α} {cs dL:List LV} {z0 z':α} {S:List Nat} (hx:ev x=.eptr id n u.toNat 0) (hm:m id=some (.nest e0 k os (xs.map f))) (hn:n=xs.length) (hz:idx xs u=some z0) (hy:ev y=.agg cs) (ht:tok P t=true) (hs:tsize P t=k) (hl:cs.length=k) (vw:cs.all LV.scalar=true) (nf:ly m os 0 cs dL S) (hS:S.Nodup) (Ou:∀ j ∈ S,¬ pr j) (hfz:f z'=.agg dL) :
  bR P pr ⟨.none,.store t x y,ty,pos,af,gd⟩ ev m .fg (m.gone id (.nest e0 k os ((xs.set u.toNat z').map f)) S):=by
 obtain ⟨h0,h2⟩:=dp hz
 have:=QM (pr:=pr) (ty:=ty) (pos:=pos) (af:=af) (gd:=gd) (z:=f z0) hx hm (by simpa using hn) (by simp [h2]) hy ht hs hl vw nf hS Ou
 rwa [← hfz,← List.map_set] at this
end
end Go.L
namespace Go.L
theorem Sub.lst {k:Nat} {xs ys:List LV} (h:fl xs ys) (hp:LV.bt ys=true):Sub (.lst k xs) (.lst k ys):=fun c v hv=>by
 simp only [ar] at hv ⊢
 obtain ⟨a,cap,rfl,h1,h2,h3,h4⟩:=hv
 have hl:∀ {xs ys:List LV},fl xs ys→xs.length=ys.length:=by
  intro xs
  induction xs with
  | nil=>intro ys h; cases ys with
   | nil=>rfl
   | cons y ys=>cases h
  | cons x xs ih=>intro ys h; cases ys with
   | nil=>cases h
   | cons y ys=>simp [ih h.2]
 refine ⟨a,cap,by rw [hl h],by rw [← hl h]; exact h1,h2,hp,?_⟩
 rcases h4 with rfl | ⟨b,off,vs,q1,q2,q3,q4,q5⟩
 ·left; exact List.eq_nil_of_length_eq_zero (by rw [← hl h]; rfl)
 ·exact .inr ⟨b,off,vs,q1,q2,q3,h.rep q4,q5⟩
section
variable {P:Program} {N:Nat} {pr:Nat→Prop} {ev:Operand→LV} {m m':Mem} {d:Option Nat} {x y z:Operand} {t ty:TypeId} {pos:String} {af:Array Edge} {gd:Option (Nat × Bool)} {lv:LV} {α β:Type} {f:α→LV} {g:β→LV} {e0 k id n:Nat} {os:List (Nat × Nat × Nat)} {xs:List α} {u:Int} {z0:α} {cs:List LV} {o0:Nat}
theorem cw.res {o:Oper} {vW:LV} (h:cw P pr o ev m lv m') (hs:Sub lv vW):cw P pr o ev m vW m':=by
 intro c a Q bS hm
 refine Oper.wp_mono ?_ (h c a Q bS hm)
 rintro a' w' ⟨v,c',h1,h2,h3,h4,h5⟩
 exact ⟨v,c',h1,h2,hs c' v h3,h4,h5⟩
theorem okN {k:Nat}:rU k []:=fun x hx=>by cases hx
theorem ZM {k:Nat} {x:LV} {xs:List LV} (h1:x.pure=true) (h2:x.cells.length=k) (h3:x.cells.all LV.scalar=true) (h:rU k xs):rU k (x :: xs):=fun y hy=>by
 rcases List.mem_cons.1 hy with rfl | hy
 ·exact ⟨h1,h2,h3⟩
 ·exact h y hy
theorem QB {nn el kk:Nat} {ps:List (Nat × Operand)} {ls:List LV} {ys:List α} (he:telem P t=some el) (hr:fQ P el=true) (hk:tsize P el=kk) (hb:Nat.ble (nn * kk) 16777216=true) (hi:ps.map (·.1)=List.range nn) (hv:(ps.map fun p=>ev p.2)=ls) (gP:rU kk ls) (hs:fl ls (ys.map f)) (hf:oR kk f) :
  cw P pr ⟨d,.buildSlice t nn ps.toArray,ty,pos,af,gd⟩ ev m (.lst kk (ys.map f)) m:=by
 subst hk
 obtain ⟨lv,m',⟨rfl,rfl⟩,h⟩:=jY (ro:=[]) (K:=fun lv m'=>lv=.lst (tsize P el) ls∧m'=m) (P:=P) (pr:=pr) (o:=⟨d,.buildSlice t nn ps.toArray,ty,pos,af,gd⟩) (ev:=ev) (m:=m)
  (by rw [LOp_buildSlice,he]; exact ⟨hr,Nat.le_of_ble_eq_true hb,hi,by rw [hv]; exact gP,by rw [hv]; exact ⟨rfl,rfl⟩⟩)
 exact h.res (Sub.lst hs (hf.bt ys))
theorem Jl {i el kk:Nat} {zc:LV} {z:α} {r:List α} (hi:100+i=id) (he:telem P t=some el) (hz:tzero P el=some zc) (hr:fQ P el=true) (hk:tsize P el=kk) (hx:ev x=.int .i64 u) (hy:ev y=.int .i64 u) (hp:zc.pure=true) (hs:Sub zc (f z)) (gP:oR kk f) (hl:vB z u=some r) (hf:m id=.none) :
  cw P pr ⟨some i,.makeSlice t x y,ty,pos,af,gd⟩ ev m (.arr id r.length) (m.put id (.arr el kk (r.map f))):=by
 have oz:vB zc u=some (List.replicate r.length zc):=by
  unfold vB at hl ⊢
  split at hl
  ·rename_i h0; cases hl; simp [h0]
  ·cases hl
 have hrr:r=List.replicate r.length z:=by
  unfold vB at hl
  split at hl
  ·cases hl; simp
  ·cases hl
 obtain ⟨lv,m',⟨rfl,rfl⟩,h⟩:=jY (ro:=[]) (K:=fun lv m'=>lv=.arr id r.length∧m'=m.put id (.arr el kk ((List.replicate r.length zc).map fun x=>x))) (P:=P) (pr:=pr) (o:=⟨some i,.makeSlice t x y,ty,pos,af,gd⟩) (ev:=ev) (m:=m)
  (Qw (f:=fun x:LV=>x) hi he hz hr hk hx hy hp oz hf ⟨by simp,rfl⟩)
 refine h.mem fun c hc=>?_
 have jH:fl ((List.replicate r.length zc).map fun x=>x) (r.map f):=by
  rw [List.map_id']
  conv=>rhs; rw [hrr]
  rw [List.map_replicate]
  exact fl.Kd hs _
 exact cG.Yw jH (gP.bt r) hc
end
theorem aF.Ea {P:Program} {fn:Nat} {args:List LV} {α:Type} {f:α→LV} {id n e k:Nat} {xs:List α} (h:aF P fn args (Mem.of []) (.arr id n) (Mem.of [(id,.arr e k (xs.map f))])) (hn:n=xs.length):aF P fn args (Mem.of []) (.lst k (xs.map f)) (Mem.of []):=by
 intro c vs hM hv
 refine (h c vs hM hv).mono ?_
 rintro en w' ⟨v,c1,rfl,rfl,k5,hr,hg⟩
 obtain ⟨us,hB,hk,bN,hl,hc,hp⟩:=gY (e:=e) (k:=k) (xs:=xs.map f) k5 hr (by simp [Mem.of]) (by simpa using hn)
 obtain ⟨c',hw,hO,j6,hV,nQ,hX,kA⟩:=k5.del id (by
  intro i ds hi hd
  simp [Mem.of,hi] at hd)
 have hle:c1.Le c':=⟨by rw [hw]; exact Nat.le_refl _,fun b _ hx=>⟨by rw [hw],fun oC=>hx (oC.imp (fun h=>by rw [hO] at h; exact h) (nQ b))⟩⟩
 have hmm:(Mem.of [(id,.arr e k (xs.map f))]).del id=Mem.of []:=by
  funext i
  simp only [Mem.del,Mem.of]
  by_cases hi:i=id <;> simp [hi]
 rw [hmm] at j6
 refine ⟨v,c',rfl,hw,j6,?_,?_⟩
 ·simp only [ar]
  have oz:=aE.mono hle (xs.map f) us (fun j hj=>by rw [az _ hp] at hj; cases hj) hl
  rcases bN.2 with ⟨rfl,h0⟩ | ⟨g,cap,cur,rfl,_,vO,mh,_⟩
  ·exact ⟨.none,0,by rw [h0],by omega,fun _=>rfl,hp,.inl (List.eq_nil_of_length_eq_zero h0)⟩
  ·refine ⟨some ⟨g,0,.none⟩,cap,rfl,mh,by simp,hp,.inr ⟨g,0,us,rfl,by rw [hw]; exact (Array.getElem?_eq_some_iff.1 vO).1,hX g _ hB (.inl rfl),oz,hc,?_⟩⟩
   rw [hw]; exact gr bN rfl
 ·refine hg.trans ⟨hO,by rw [hw],by rw [hw],by rw [hw],by rw [hw]; exact Nat.le_refl _,by rw [hw]; exact Nat.le_refl _,fun b _ _=>by rw [hw],fun b ho=>.inl (nQ b ho),fun i be Ib hb=>?_⟩
  simp [Mem.of] at Ib
theorem mD {P:Program} {pr:Nat→Prop} {ro:List Nat} {ops:Array Oper} {l:List Oper} {ey:List Nat} {KE:Env→Mem→Prop} {e:Env} {m:Mem} {lv:LV} {le:LE} {i md id:Nat} {op:Op} {ty:TypeId} {pos:String} {af:Array Edge} (cj:gn md=id) (CA:RF md=true) (hm:m id=some le) (h:N5 P pr ro ⟨some i,op,ty,pos,af,.none⟩ (cP e) id le lv) (hr:cQ P pr ro ops (List.zip l ey) KE (e.put i lv) m):cQ P pr ro ops (List.zip (⟨some i,op,ty,pos,af,.none⟩ :: l) (md :: ey)) KE e m:=by
 subst cj
 have h1:1000≤md∧md<100000:=by simpa [RF] using CA
 show gK P pr ro ops md _ _ e m
 unfold gK
 have hg:Go.L.gd ops ⟨some i,op,ty,pos,af,.none⟩ e=some true:=rfl
 rw [hg]
 simp only
 split
 ·omega
 ·omega
 ·omega
 ·omega
 ·rw [if_neg (by omega),if_pos h1.2]
  exact ⟨lv,le,hm,h,hr⟩
theorem mW {P:Program} {pr:Nat→Prop} {ro:List Nat} {ops:Array Oper} {l:List Oper} {ey:List Nat} {KE:Env→Mem→Prop} {e:Env} {m:Mem} {lv:LV} {le nW:LE} {i md id:Nat} {op:Op} {ty:TypeId} {pos:String} {af:Array Edge} (cj:gn md=id) (CA:(Nat.ble 100000 md && Nat.blt md 1000000000)=true) (hm:m id=some le) (h:N6 P pr ro ⟨some i,op,ty,pos,af,.none⟩ (cP e) id le nW lv) (hr:cQ P pr ro ops (List.zip l ey) KE (e.put i lv) (m.over (Mem.of [(id,nW)]))):cQ P pr ro ops (List.zip (⟨some i,op,ty,pos,af,.none⟩ :: l) (md :: ey)) KE e m:=by
 subst cj
 have h1:100000≤md∧md<1000000000:=by simpa using CA
 show gK P pr ro ops md _ _ e m
 unfold gK
 have hg:Go.L.gd ops ⟨some i,op,ty,pos,af,.none⟩ e=some true:=rfl
 rw [hg]
 simp only
 split
 ·omega
 ·omega
 ·omega
 ·omega
 ·rw [if_neg (by omega),if_neg (by omega),if_pos h1.2]
  exact ⟨lv,le,nW,hm,h,hr⟩
theorem mS {P:Program} {pr:Nat→Prop} {ro:List Nat} {ops:Array Oper} {l:List Oper} {ey:List Nat} {KE:Env→Mem→Prop} {e:Env} {m:Mem} {lv:LV} {le nW:LE} {md id:Nat} {op:Op} {ty:TypeId} {pos:String} {af:Array Edge} (cj:gn md=id) (CA:(Nat.ble 100000 md && Nat.blt md 1000000000)=true) (hm:m id=some le) (h:∀ m0:Mem,m0 id=some le→∀ K':LV→Mem→Prop,K' lv (m0.put id nW)→LOp P pr ro ⟨.none,op,ty,pos,af,.none⟩ (cP e) m0 K') (hr:cQ P pr ro ops (List.zip l ey) KE e (m.put id nW)):cQ P pr ro ops (List.zip (⟨.none,op,ty,pos,af,.none⟩ :: l) (md :: ey)) KE e m:=by
 subst cj
 have h1:100000≤md∧md<1000000000:=by simpa using CA
 show gK P pr ro ops md _ _ e m
 unfold gK
 have hg:Go.L.gd ops ⟨.none,op,ty,pos,af,.none⟩ e=some true:=rfl
 rw [hg]
 simp only
 split
 ·omega
 ·omega
 ·omega
 ·omega
 ·rw [if_neg (by omega),if_neg (by omega),if_pos h1.2]
  refine ⟨lv,le,nW,hm,fun m0 h0 K' hK=>h m0 h0 K' (by rw [← qo]; exact hK),?_⟩
  rw [qo]; exact hr
theorem Ye {P:Program} {pr:Nat→Prop} {ro:List Nat} {ops:Array Oper} {l:List Oper} {ey:List Nat} {KE:Env→Mem→Prop} {e:Env} {m m':Mem} {lv:LV} {i md:Nat} {op:Op} {ty:TypeId} {pos:String} {af:Array Edge} (CA:Nat.ble 1000000000 md=true) (h:ss P pr ⟨some i,op,ty,pos,af,.none⟩ (cP e) (MC md) m lv m') (hr:cQ P pr ro ops (List.zip l ey) KE (e.put i lv) m'):cQ P pr ro ops (List.zip (⟨some i,op,ty,pos,af,.none⟩ :: l) (md :: ey)) KE e m:=by
 have h1:1000000000≤md:=by simpa using CA
 show gK P pr ro ops md _ _ e m
 unfold gK
 have hg:Go.L.gd ops ⟨some i,op,ty,pos,af,.none⟩ e=some true:=rfl
 rw [hg]
 simp only
 split
 ·omega
 ·omega
 ·omega
 ·omega
 ·rw [if_neg (by omega),if_neg (by omega),if_neg (by omega)]
  exact ⟨lv,m',h,hr⟩
theorem mM {P:Program} {pr:Nat→Prop} {ro:List Nat} {ops:Array Oper} {l:List Oper} {ey:List Nat} {KE:Env→Mem→Prop} {e:Env} {m:Mem} {lv:LV} {i:Nat} {op:Op} {ty:TypeId} {pos:String} {af:Array Edge} (h:∀ m0,bR P pr ⟨some i,op,ty,pos,af,.none⟩ (cP e) m0 lv m0) (hr:cQ P pr ro ops (List.zip l ey) KE (e.put i lv) m):cQ P pr ro ops (List.zip (⟨some i,op,ty,pos,af,.none⟩ :: l) (4 :: ey)) KE e m:=⟨lv,h,hr⟩
def Env.look (e:Env):List (Nat × LV)→List (Nat × LV)
 | []=>[]
 | (i,_) :: r=>(i,e i) :: Env.look e r
def Mem.look (m:Mem):List (Nat × LE)→List (Nat × Option LE)
 | []=>[]
 | (i,_) :: r=>(i,m i) :: Mem.look m r
def N9:List (Nat × LE)→List (Nat × Option LE)
 | []=>[]
 | (i,x) :: r=>(i,some x) :: N9 r
theorem look_eq {e:Env}:∀ {el:List (Nat × LV)},Env.look e el=el→G8 e el
 | [],_=>trivial
 | (i,v) :: r,h=>by
  simp only [Env.look,List.cons.injEq,Prod.mk.injEq,true_and] at h
  exact ⟨h.1,look_eq h.2⟩
theorem zZ {m:Mem}:∀ {ml:List (Nat × LE)},Mem.look m ml=N9 ml→j8 m ml
 | [],_=>trivial
 | (i,v) :: r,h=>by
  simp only [Mem.look,N9,List.cons.injEq,Prod.mk.injEq,true_and] at h
  exact ⟨h.1,zZ h.2⟩
theorem Wk.eq {qJ ml:List (Nat × LE)} {el:List (Nat × LV)} {e:Env} {m:Mem} (he:Env.look e el=el) (hm:Mem.look m ml=N9 ml) (hr:av (el.map fun p=>(p.1,e p.1)) ml=true) (mi:(qJ.all fun p=>ml.any fun q=>q.1 == p.1)=true):Wk (fun id=>Mem.of qJ id ≠ .none) e m (Env.of el) (Mem.of ml):=Wk.to (eQ (look_eq he)) (zZ hm) hr (aN mi)
theorem zS {P:Program} {N:Nat} {ops:Array Oper} {qJ ml:List (Nat × LE)} {el:List (Nat × LV)} {e:Env} {m:Mem} (he:Env.look e el=el:=by exact rfl) (hm:Mem.look m ml=N9 ml:=by exact rfl) (hr:av (el.map fun p=>(p.1,e p.1)) ml=true:=by exact rfl) (mi:(qJ.all fun p=>ml.any fun q=>q.1 == p.1)=true:=by exact rfl):cJ P N (fun id=>Mem.of qJ id ≠ .none) ops [] (fun e m=>Wk (fun id=>Mem.of qJ id ≠ .none) e m (Env.of el) (Mem.of ml)) e m:=s0 (Wk.eq he hm hr mi)
theorem zM {P:Program} {ro:List Nat} {ops:Array Oper} {qJ ml:List (Nat × LE)} {el:List (Nat × LV)} {e:Env} {m:Mem} (he:Env.look e el=el:=by exact rfl) (hm:Mem.look m ml=N9 ml:=by exact rfl) (hr:av (el.map fun p=>(p.1,e p.1)) ml=true:=by exact rfl) (mi:(qJ.all fun p=>ml.any fun q=>q.1 == p.1)=true:=by exact rfl):cQ P (fun id=>Mem.of qJ id ≠ .none) ro ops (List.zip [] []) (fun e m=>Wk (fun id=>Mem.of qJ id ≠ .none) e m (Env.of el) (Mem.of ml)) e m:=m0 (Wk.eq he hm hr mi)
theorem zQ {P:Program} {N:Nat} {pr:Nat→Prop} {ops:Array Oper} {e:Env} {m:Mem}:cJ P N pr ops [] (fun e1 m1=>e1=e∧m1=m) e m:=s0 ⟨rfl,rfl⟩
theorem LH.bd {P:Program} {N:Nat} {pr:Nat→Prop} {l:List Oper} {Gy:Nat} {Q:Exit→Env→Mem→Prop} {e m e' m'} (hd:kX N l=true) (h:cJ P N pr l.toArray l (fun e1 m1=>e1=e'∧m1=m') e m) (hr:Q .normal e' m'):LH P N pr (.region Gy l.toArray false) Q e m:=by
 obtain ⟨e2,m2,hK,dt⟩:=h (p5 hd) (by simp)
 obtain ⟨rfl,rfl⟩:=hK
 refine ⟨.normal,_,_,fun c a hr=>?_,hr⟩
 refine wp_region ?_
 rw [List.size_toArray,List.range_eq_range',wpOps_eq_wpList l 0 (by simp)]
 exact dt c a hr
theorem LH.aj {P:Program} {N:Nat} {pr:Nat→Prop} {l:List Oper} {Gy:Nat} {yc:Code} {Q:Exit→Env→Mem→Prop} {e m e' m'} (hd:kX N l=true) (h:cJ P N pr l.toArray l (fun e1 m1=>e1=e'∧m1=m') e m) (hr:LH P N pr yc Q e' m'):LH P N pr (.seq (.region Gy l.toArray false) yc) Q e m :=
 LH.seq (LH.bd hd h hr)
theorem R {α:Type} {a:α}:a=a:=rfl
abbrev gE (l:List LV):LE:=.nest 179 5 [(1,108,5),(2,4,1),(3,182,3)] l
abbrev gQ:List LV:=[.I 0,.I 0,.str (ByteArray.mk #[]),.nil,.nil]
theorem bM {qJ:List (Nat × LE)} {e:Env} {m:Mem} (el:List (Nat × LV)) (ml:List (Nat × LE)) (he:Env.look e el=el:=by exact rfl) (hm:Mem.look m ml=N9 ml:=by exact rfl) (hr:av (el.map fun p=>(p.1,e p.1)) ml=true:=by exact rfl) (mi:(qJ.all fun p=>ml.any fun q=>q.1 == p.1)=true:=by exact rfl):Wk (fun id=>Mem.of qJ id ≠ .none) e m (Env.of el) (Mem.of ml):=Wk.eq he hm hr mi
theorem aT {α:Type} {a b:Array α} (h:a=b):a.toList=b.toList:=congrArg Array.toList h
theorem oI {α:Type} {a b:α} (h:some a=some b):a=b:=Option.some.inj h
theorem nT {a b n:Nat} (h:n=b) (h2:Nat.ble a b=true):a≤n:=by rw [h]; exact Nat.le_of_ble_eq_true h2
theorem cB {a b:Bool} (h:a=b):LV.bool a=LV.bool b:=congrArg LV.bool h
theorem a7 {pr:Nat→Prop} {I:Nat→Env→Mem→Prop} {n:Nat} {Q:Exit→Env→Mem→Prop} {e e':Env} {m m':Mem} (h:I n e' m') (hw:Wk pr e m e' m'):uS pr I (n+1) Q .normal e m:=QY hw h
section
variable {P:Program} {N:Nat} {pr:Nat→Prop} {ops:Array Oper} {l:List Oper} {KE:Env→Mem→Prop} {e:Env} {m:Mem} {i:Nat} {x:Operand} {ty:TypeId} {pos:String} {af:Array Edge}
theorem aZ {k:IntKind} {n:Int} (h:cP e x=(.int k n)) (hr:cJ P N pr ops l KE (e.put i (.int k n)) m):cJ P N pr ops (⟨some i,.move x,ty,pos,af,.none⟩ :: l) KE e m:=sN (oM h hr)
theorem bZ {b:Bool} (h:cP e x=(.bool b)) (hr:cJ P N pr ops l KE (e.put i (.bool b)) m):cJ P N pr ops (⟨some i,.move x,ty,pos,af,.none⟩ :: l) KE e m:=sN (oM h hr)
theorem dY {k:Nat} {xs:List LV} (h:cP e x=(.lst k xs)) (hr:cJ P N pr ops l KE (e.put i (.lst k xs)) m):cJ P N pr ops (⟨some i,.move x,ty,pos,af,.none⟩ :: l) KE e m:=sN (oM h hr)
theorem lq {id n:Nat} (h:cP e x=(.arr id n)) (hr:cJ P N pr ops l KE (e.put i (.arr id n)) m):cJ P N pr ops (⟨some i,.move x,ty,pos,af,.none⟩ :: l) KE e m:=sN (oM h hr)
theorem iA {id o:Nat} (h:cP e x=(.ptr id o)) (hr:cJ P N pr ops l KE (e.put i (.ptr id o)) m):cJ P N pr ops (⟨some i,.move x,ty,pos,af,.none⟩ :: l) KE e m:=sN (oM h hr)
theorem sE {cs:List LV} (h:cP e x=(.tup cs)) (hr:cJ P N pr ops l KE (e.put i (.tup cs)) m):cJ P N pr ops (⟨some i,.move x,ty,pos,af,.none⟩ :: l) KE e m:=sN (oM h hr)
theorem br {k:IntKind} {n:Int} (h:cP e x=(.int k n)) (hr:cJ P N pr ops l KE (e.put i (.int k n)) m):cJ P N pr ops (⟨some i,.assign x,ty,pos,af,.none⟩ :: l) KE e m:=sN (oA h hr)
theorem cr {b:Bool} (h:cP e x=(.bool b)) (hr:cJ P N pr ops l KE (e.put i (.bool b)) m):cJ P N pr ops (⟨some i,.assign x,ty,pos,af,.none⟩ :: l) KE e m:=sN (oA h hr)
theorem pU  (h:cP e x=.nil) (hr:cJ P N pr ops l KE (e.put i .nil) m):cJ P N pr ops (⟨some i,.assign x,ty,pos,af,.none⟩ :: l) KE e m:=sN (oA h hr)
theorem sD {k:Nat} {xs:List LV} (h:cP e x=(.lst k xs)) (hr:cJ P N pr ops l KE (e.put i (.lst k xs)) m):cJ P N pr ops (⟨some i,.assign x,ty,pos,af,.none⟩ :: l) KE e m:=sN (oA h hr)
theorem uT {id n:Nat} (h:cP e x=(.arr id n)) (hr:cJ P N pr ops l KE (e.put i (.arr id n)) m):cJ P N pr ops (⟨some i,.assign x,ty,pos,af,.none⟩ :: l) KE e m:=sN (oA h hr)
theorem Yu {id o:Nat} (h:cP e x=(.ptr id o)) (hr:cJ P N pr ops l KE (e.put i (.ptr id o)) m):cJ P N pr ops (⟨some i,.assign x,ty,pos,af,.none⟩ :: l) KE e m:=sN (oA h hr)
end
section
variable {P:Program} {pr:Nat→Prop} {ro:List Nat} {ops:Array Oper} {l:List Oper} {ey:List Nat} {KE:Env→Mem→Prop} {e:Env} {m:Mem} {i:Nat} {x:Operand} {ty:TypeId} {pos:String} {af:Array Edge}
theorem iT {k:IntKind} {n:Int} (h:cP e x=(.int k n)) (hr:cQ P pr ro ops (List.zip l ey) KE (e.put i (.int k n)) m):cQ P pr ro ops (List.zip (⟨some i,.move x,ty,pos,af,.none⟩ :: l) (0 :: ey)) KE e m:=aX (oM h ⟨rfl,hr⟩)
theorem Qr {k:IntKind} {n:Int} (h:cP e x=(.int k n)) (hr:cQ P pr ro ops (List.zip l ey) KE (e.put i (.int k n)) m):cQ P pr ro ops (List.zip (⟨some i,.assign x,ty,pos,af,.none⟩ :: l) (0 :: ey)) KE e m:=aX (oA h ⟨rfl,hr⟩)
theorem zW {b:Bool} (h:cP e x=(.bool b)) (hr:cQ P pr ro ops (List.zip l ey) KE (e.put i (.bool b)) m):cQ P pr ro ops (List.zip (⟨some i,.move x,ty,pos,af,.none⟩ :: l) (0 :: ey)) KE e m:=aX (oM h ⟨rfl,hr⟩)
theorem LN {b:Bool} (h:cP e x=(.bool b)) (hr:cQ P pr ro ops (List.zip l ey) KE (e.put i (.bool b)) m):cQ P pr ro ops (List.zip (⟨some i,.assign x,ty,pos,af,.none⟩ :: l) (0 :: ey)) KE e m:=aX (oA h ⟨rfl,hr⟩)
theorem vX {k:Nat} {xs:List LV} (h:cP e x=(.lst k xs)) (hr:cQ P pr ro ops (List.zip l ey) KE (e.put i (.lst k xs)) m):cQ P pr ro ops (List.zip (⟨some i,.move x,ty,pos,af,.none⟩ :: l) (0 :: ey)) KE e m:=aX (oM h ⟨rfl,hr⟩)
theorem ZI {k:Nat} {xs:List LV} (h:cP e x=(.lst k xs)) (hr:cQ P pr ro ops (List.zip l ey) KE (e.put i (.lst k xs)) m):cQ P pr ro ops (List.zip (⟨some i,.assign x,ty,pos,af,.none⟩ :: l) (0 :: ey)) KE e m:=aX (oA h ⟨rfl,hr⟩)
theorem VT {id n:Nat} (h:cP e x=(.arr id n)) (hr:cQ P pr ro ops (List.zip l ey) KE (e.put i (.arr id n)) m):cQ P pr ro ops (List.zip (⟨some i,.move x,ty,pos,af,.none⟩ :: l) (0 :: ey)) KE e m:=aX (oM h ⟨rfl,hr⟩)
theorem F7 {id o:Nat} (h:cP e x=(.ptr id o)) (hr:cQ P pr ro ops (List.zip l ey) KE (e.put i (.ptr id o)) m):cQ P pr ro ops (List.zip (⟨some i,.move x,ty,pos,af,.none⟩ :: l) (0 :: ey)) KE e m:=aX (oM h ⟨rfl,hr⟩)
theorem KT {cs:List LV} (h:cP e x=(.tup cs)) (hr:cQ P pr ro ops (List.zip l ey) KE (e.put i (.tup cs)) m):cQ P pr ro ops (List.zip (⟨some i,.move x,ty,pos,af,.none⟩ :: l) (0 :: ey)) KE e m:=aX (oM h ⟨rfl,hr⟩)
theorem mMf {k:Nat} {cs:List LV} (h:cP e x=(.fn k cs)) (hr:cQ P pr ro ops (List.zip l ey) KE (e.put i (.fn k cs)) m):cQ P pr ro ops (List.zip (⟨some i,.move x,ty,pos,af,.none⟩ :: l) (0 :: ey)) KE e m:=aX (oM h ⟨rfl,hr⟩)
theorem RH {k:Nat} {cs:List LV} (h:cP e x=(.fn k cs)) (hr:cQ P pr ro ops (List.zip l ey) KE (e.put i (.fn k cs)) m):cQ P pr ro ops (List.zip (⟨some i,.assign x,ty,pos,af,.none⟩ :: l) (0 :: ey)) KE e m:=aX (oA h ⟨rfl,hr⟩)
end
structure V3 (α:Type) where
 f:Nat
 c:List LV
 m:Option α
 hc:LV.bt c=true
instance {α:Type}:Inhabited (V3 α):=⟨⟨0,[],.none,rfl⟩⟩
theorem V3.refs {α:Type} (x:V3 α):LV.a8 x.c=[]:=et x.hc
theorem Y3 {α:Type} {Q:α→Prop}:∀ x ∈ ([]:List α),Q x:=fun x hx=>by cases hx
theorem R6 {α:Type} {Q:α→Prop} {x:α} {xs:List α} (h:Q x) (hr:∀ y ∈ xs,Q y):∀ y ∈ x :: xs,Q y:=fun y hy=>by
 rcases List.mem_cons.1 hy with rfl | hy
 ·exact h
 ·exact hr y hy
end Go.L
namespace Go.L
variable {P:Program} {d:Nat} {t:TypeId}
def tg (P:Program) (d:Nat) (t:TypeId) (v u:Value) (b:Bool):Prop:=∀ w,(Op.equalIn d t v u).run P w=.ok b w
def K0 (P:Program) (d:Nat) (xs ys:Array Value) (fs:List Field) (b:Bool):Prop:=∀ w,(Op.eqFields d xs ys fs).run P w=.ok b w
theorem Hy {k:IntKind} {a b:Int} (h:P.underlying t=some (.int k)):tg P (d+1) t (.int k a) (.int k b) (a == b):=fun w=>run_equalIn_int w d t k k a b h
theorem Wi {xs ys:Array Value} {b:Bool} (hS:P.underlying t=some (.struct (P.fieldsOf t))) (hp:P.stoodInHeld t=false) (h:K0 P d xs ys (P.fieldsOf t).toList b):tg P (d+1) t (.agg xs) (.agg ys) b:=fun w=>(run_equalIn_agg w d t xs ys hS hp).trans (h w)
theorem Wg {xs ys:Array Value}:K0 P d xs ys [] true:=fun w=>by simp [Op.eqFields]
theorem Hx {xs ys : Array Value} {f : Field} {fs : List Field} {v u : Value} {b c : Bool} (hn : (f.name != "_") = true) (hv : ∀ w, (part f.type xs f.offset).run P w = .ok v w) (hu : ∀ w, (part f.type ys f.offset).run P w = .ok u w) (he : tg P d f.type v u b) (hr : K0 P d xs ys fs c) : K0 P d xs ys (f :: fs) (b && c) := fun w => by
 have hn' : f.name ≠ "_" := by simpa using hn
 simp only [Op.eqFields,hn',ne_eq,not_false_eq_true,if_true,Sem.run_bind,hv,hu,Result.andThen_ok,he w,Sem.run_ite]
 cases b with
 | false=>simp
 | true=>simp [hr w]
theorem Wj {xs ys:List LV} {vs us:List Value} {b c:Bool} (hg:P.eqGuardType P.depth t=false) (hx:eJ xs=some vs) (hy:eJ ys=some us) (h:tg P Op.maxDepth t (.agg vs.toArray) (.agg us.toArray) b) (hc:b=c):pV P t xs ys c:=⟨hg,vs,us,hx,hy,fun w=>hc ▸ h w⟩
end Go.L
namespace Go.L
section
variable {P:Program} {pr:Nat→Prop} {m m':Mem} {lv:LV} {o:Oper} {e:Env} {ev:Operand→LV}
def Env.only (e:Env) (sl:List Nat):Env:=fun i=>if sl.contains i then e i else .fg
theorem cw.ZT (sl:List Nat) (hs:∀ i ∈ sl,Operand.tmp i ∈ o.op.operands) (h:cw P pr o (cP (e.only sl)) m lv m'):bR P pr o (cP e) m lv m':=by
 intro c a Q bS hm
 refine h c a Q (fun x=>?_) hm
 cases x with
 | tmp t =>
  simp only [cP,Env.only]
  by_cases ht:sl.contains t=true
  ·simp only [ht,if_true]; exact bS (.tmp t) (hs t (by simpa using ht))
  ·simp only [ht,if_false,ar]; simp [ar]
 | const v=>exact lT c v
 | global g=>simp [cP,ar]
 | func f=>simp only [cP,Act.eval,ar]; exact ⟨[],rfl,by simp [aE]⟩
end
section
variable {P:Program} {pr:Nat→Prop} {m:Mem} {ev:Operand→LV} {α β:Type} {f:α→LV} {g:β→LV} {d:Option Nat} {x y:Operand} {t ty:TypeId} {pos:String} {af:Array Edge} {gd:Option (Nat × Bool)}
end
end Go.L
namespace Go.L
theorem Dv {α:Type} {cf:α→α→Int} {ys zs:List α} (hp:zs.Perm ys) (hy:ys.Pairwise fun a b=>cf a b<0) (hz:zs.Pairwise fun a b=>¬ cf b a<0):zs=ys:=by
 induction ys generalizing zs with
 | nil=>exact hp.eq_nil
 | cons y ys ih =>
  obtain ⟨rR,Tj⟩:=List.pairwise_cons.1 hy
  cases zs with
  | nil=>exact absurd hp.symm.eq_nil (by simp)
  | cons z zs =>
   obtain ⟨vU,BX⟩:=List.pairwise_cons.1 hz
   have X6:z=y:=by
    rcases List.mem_cons.1 (hp.mem_iff.1 (List.mem_cons_self)) with h | h
    ·exact h
    ·have h1:=rR z h
     rcases List.mem_cons.1 (hp.mem_iff.2 (List.mem_cons_self:y ∈ y :: ys)) with h2 | h2
     ·exact h2.symm
     ·exact absurd h1 (vU y h2)
   subst X6
   rw [ih (List.Perm.cons_inv hp) Tj BX]
def pc {α:Type} (c:α→α→Option Int) (xs ys:List α):Prop :=
 ys.Perm xs∧xs.length<1000000∧∃ cf:α→α→Int,(∀ x ∈ xs,∀ y ∈ xs,c x y=some (cf x y))∧(∀ x ∈ xs,¬ cf x x<0)∧(∀ x ∈ xs,∀ y ∈ xs,∀ z ∈ xs,cf x y<0→cf y z<0→cf x z<0) ∧
  (∀ x ∈ xs,∀ y ∈ xs,∀ z ∈ xs,¬ cf x y<0→¬ cf y z<0→¬ cf x z<0)∧ys.Pairwise fun a b=>cf a b<0
theorem pc.unique {α:Type} {c:α→α→Option Int} {xs ys zs:List α} (h:pc c xs ys) (h':pc c xs zs):ys=zs:=by
 obtain ⟨hp,_,cf,hc,_,ht,_,hs⟩:=h
 obtain ⟨CC,_,Wb,yV,fD,_,_,Iq⟩:=h'
 refine Dv (cf:=Wb) (hp.trans CC.symm) Iq ?_
 refine List.Pairwise.imp_of_mem ?_ hs
 intro a b ha hb nf Za
 have ma:=hp.mem_iff.1 ha
 have mb:=hp.mem_iff.1 hb
 have h1:Wb b a=cf b a:=by have:=hc b mb a ma; rw [yV b mb a ma] at this; exact Option.some.inj this
 have h2:Wb a a=cf a a:=by have:=hc a ma a ma; rw [yV a ma a ma] at this; exact Option.some.inj this
 rw [h1] at Za
 exact fD a ma (by rw [h2]; exact ht a ma b mb a ma nf Za)
open Classical in
noncomputable def qs {α:Type} (c:α→α→Option Int) (xs:List α):Option (List α):=if h:∃ ys,pc c xs ys then some h.choose else .none
theorem Kn {α:Type} {c:α→α→Option Int} {xs ys:List α} (h:pc c xs ys):qs c xs=some ys:=by
 have hx:∃ ys,pc c xs ys:=⟨ys,h⟩
 unfold qs
 rw [dif_pos hx]
 exact congrArg some (hx.choose_spec.unique h)
theorem BA {α:Type} {c:α→α→Option Int} {xs ys:List α} (h:qs c xs=some ys):pc c xs ys:=by
 unfold qs at h
 split at h
 ·rename_i hx; cases h; exact hx.choose_spec
 ·cases h
theorem xI {α:Type} {c:α→α→Option Int} {xs ys:List α} (h:qs c xs=some ys):xs.length=ys.length:=(BA h).1.length_eq.symm
end Go.L
namespace Go.L
open Go.Sort Go.Proofs Go.Shelf Go.Lib
theorem GF {α:Type} {cf:α→α→Int} {ys zs:List α} (hp:zs.Perm ys) (hy:ys.Pairwise fun a b=>cf a b<0) (hz:zs.Pairwise fun a b=>¬ cf b a<0):zs=ys:=by
 induction ys generalizing zs with
 | nil=>exact hp.eq_nil
 | cons y ys ih =>
  obtain ⟨rR,Tj⟩:=List.pairwise_cons.1 hy
  cases zs with
  | nil=>exact absurd hp.symm.eq_nil (by simp)
  | cons z zs =>
   obtain ⟨vU,BX⟩:=List.pairwise_cons.1 hz
   have X6:z=y:=by
    rcases List.mem_cons.1 (hp.mem_iff.1 (List.mem_cons_self)) with h | h
    ·exact h
    ·have h1:=rR z h
     rcases List.mem_cons.1 (hp.mem_iff.2 (List.mem_cons_self:y ∈ y :: ys)) with h2 | h2
     ·exact h2.symm
     ·exact absurd h1 (vU y h2)
   subst X6
   rw [ih (List.Perm.cons_inv hp) Tj BX]
theorem Lb {w w':World} (GZ:w'.os=w.os) (ht:w'.tape=w.tape) (ho:w'.output=w.output) (hd:w.drawn≤w'.drawn) (hs:w.heap.size≤w'.heap.size) (hk:∀ b,b<w.heap.size→w'.heap[b]?=w.heap[b]?) :
  w'=grow (w.drewN (w'.drawn - w.drawn)) (w'.heap.extract w.heap.size w'.heap.size):=by
 obtain ⟨h',t',d',o',p'⟩:=w'
 obtain ⟨h,t,d,o,p⟩:=w
 simp only at GZ ht ho hd hs hk
 subst GZ; subst ht; subst ho
 simp only [grow,World.drewN,World.mk.injEq,true_and,and_true]
 refine ⟨?_,by omega⟩
 apply Array.ext_getElem?
 intro i
 rw [Array.getElem?_append]
 split
 ·rename_i hi; exact hk i hi
 ·rename_i hi
  rw [Array.getElem?_extract]
  by_cases fD:i<h'.size
  ·rw [if_pos (by omega)]; congr 1; omega
  ·rw [if_neg (by omega),Array.getElem?_eq_none (by omega)]
theorem uw {c:Cx} {α:Type} (en:α→Int):∀ {xs:List α} {us:List Value},aE c (xs.map fun x=>LV.int .i64 (en x)) us→us=xs.map fun x=>Value.int .i64 (en x)
 | [],us,h=>by simpa [aE] using h
 | x :: xs,us,h=>by
  simp only [List.map_cons,aE] at h
  obtain ⟨v,vs,rfl,h1,h2⟩:=h
  simp only [ar] at h1
  rw [h1,uw en h2]; rfl
theorem ux {c:Cx} {α:Type} (en:α→Int):∀ (xs:List α),aE c (xs.map fun x=>LV.int .i64 (en x)) (xs.map fun x=>Value.int .i64 (en x))
 | []=>by simp [aE]
 | x :: xs=>by simp only [List.map_cons,aE]; exact ⟨_,_,rfl,by simp [ar],ux en xs⟩
theorem ox {α:Type} (en:α→Int):∀ (xs:List α),flat (xs.map fun x=>Value.int .i64 (en x))=xs.map fun x=>Value.int .i64 (en x)
 | []=>rfl
 | x :: xs=>by rw [List.map_cons,gC,ox en xs]; rfl
theorem rp {α:Type} (en:α→Int):∀ (xs:List α),LV.bt (xs.map fun x=>LV.int .i64 (en x))=true
 | []=>rfl
 | x :: xs=>by simp only [List.map_cons,LV.bt,LV.pure,rp en xs,Bool.and_self]
theorem NJ {α:Type} [Inhabited α] (enc:α→Value) (w:World) (nF m:Nat) (d:Array α) (os:Array Obj):(sortWorld enc w nF 0 m d os).os=w.os∧(sortWorld enc w nF 0 m d os).tape=w.tape∧(sortWorld enc w nF 0 m d os).output=w.output∧w.drawn≤(sortWorld enc w nF 0 m d os).drawn∧w.heap.size≤(sortWorld enc w nF 0 m d os).heap.size:=by
 refine ⟨rfl,rfl,rfl,Nat.le_add_right _ _,?_⟩
 simp [sortWorld,grow,putRow,mapBlock,ahead]
theorem EZ {α:Type} [Inhabited α] (enc:α→Value) (w:World) (nF m:Nat) (d:Array α) (os:Array Obj) (b:Nat) (hb:b<w.heap.size) (eE:b ≠ nF):(sortWorld enc w nF 0 m d os).heap[b]?=w.heap[b]?:=by
 simp only [sortWorld,grow,putRow,mapBlock,ahead]
 rw [Array.getElem?_append_left (by simpa using hb),Array.getElem?_modify]
 simp [Ne.symm eE]
theorem Ve {α:Type} [Inhabited α] (enc:α→Value) (w:World) (nF m:Nat) (d:Array α) (os:Array Obj) {cur:Array Value} {e:TypeId} {z:Nat × Nat} (hg:w.heap[nF]?=some (.cells cur e z)):(sortWorld enc w nF 0 m d os).heap[nF]?=some (.cells (putCells enc 0 d cur) e z):=by
 have hb:nF<w.heap.size:=(Array.getElem?_eq_some_iff.1 hg).1
 simp only [sortWorld,grow,putRow,mapBlock,ahead]
 rw [Array.getElem?_append_left (by simpa using hb),Array.getElem?_modify]
 simp [hg,onCells]
theorem Ko {P:Program} {ρ:Ren} (L:SlLaysF.n6 P ρ) {α:Type} (en:α→Int) (cf:α→α→Int) (hO:SWO (ltOf cf)) (g:Nat) (cap:List LV) (hcap:LV.bt cap=true)
  (eg:∀ args w,(callFunc g args).run P w=.ok (.enter g args) w) (OJ:∀ x y,tm P g ([.int .i64 (en x),.int .i64 (en y)]++cap) (.int .i64 (cf x y)))
  (xs ys:List α) (Ia:ys.Perm xs) (SQ:ys.Pairwise fun a b=>cf a b<0) (hlen:xs.length<1000000) (id e:Nat) :
  aF P (ρ.f 6) [.arr id xs.length,.fn g cap] (Mem.of [(id,.arr e 1 (xs.map fun x=>.int .i64 (en x)))]) (.tup []) (Mem.of [(id,.arr e 1 (ys.map fun x=>.int .i64 (en x)))]):=by
 intro c vs hm ha
 simp only [aE] at ha
 obtain ⟨v0,vs1,rfl,RC,v1,ZU,rfl,iR,rfl⟩:=ha
 obtain ⟨us,hB,hk,bN,hl,hc,hp⟩:=gY (e:=e) (k:=1) (xs:=xs.map fun x=>LV.int .i64 (en x)) hm RC (by simp [Mem.of]) (by simp)
 simp only [ar] at iR
 obtain ⟨cb,rfl,Sl⟩:=iR
 have G0:=uw en hl
 subst G0
 rw [ox] at bN
 have SC:(xs.map fun x=>LV.int .i64 (en x)).length=xs.length:=by simp
 rw [SC] at bN hB
 by_cases Pq:xs=[]
 ·subst Pq
  have X0:ys=[]:=Ia.eq_nil
  subst X0
  obtain ⟨ad,cp,rfl⟩:=ef bN
  refine (AnyF.slices_SortFunc_none { L with } ad cp (.func (.func g) #[] cb.toArray) c.w).mono ?_
  rintro VA w' ⟨rfl,rfl⟩
  exact ⟨_,c,rfl,rfl,hm,by simp only [ar,aE]; exact ⟨[],rfl,rfl⟩,Grow.refl _ c⟩
 ·haveI:Inhabited α:=⟨xs.head Pq⟩
  have wG:0<xs.length:=List.length_pos_iff.2 Pq
  rcases bN.2 with ⟨rfl,h0⟩ | ⟨nF,cp,cur,rfl,_,hg,mh,hcm,hcs,wE⟩
  ·omega
  ·have hblk : nF < c.w.heap.size := (Array.getElem?_eq_some_iff.1 hg).1
   have OK:∀ j,j<xs.length→cur[j]?=some (.int .i64 (en xs[j]!)):=by
    intro j hj
    have h1:=congrArg (fun l=>l[j]?) wE
    simp only [List.getElem?_take,Nat.mul_one,List.getElem?_map] at h1
    rw [if_pos hj] at h1
    rw [← Array.getElem?_toList,h1]
    simp [hj]
   have hH:Holds (fun x=>Value.int .i64 (en x)) c.w nF 0 xs.toArray:=by
    intro j hj
    have GW:j<xs.length:=by simpa using hj
    constructor
    ·simp [World.cell?,hg,OK j GW]
    ·simp [World.frozen?,hg]
   have Sm:CmpLays1 P g cb.toArray (fun x=>Value.int .i64 (en x)) cf nF 0 xs.toArray.size c.w:=by
    intro q os dk hdk x y
    obtain ⟨s1,s2,s3,s4,s5⟩:=NJ (fun x=>Value.int .i64 (en x)) c.w nF q dk os
    have WT:=EZ (fun x=>Value.int .i64 (en x)) c.w nF q dk os
    have hX:c.X nF:=.inr ⟨id,_,hB,by simp [BE.has,Value.ownBlock]⟩
    have hle:c.Le ⟨sortWorld (fun x=>Value.int .i64 (en x)) c.w nF 0 q dk os,fun _=>.none,c.X⟩:=by
     refine ⟨s5,fun b hb hx=>⟨WT b hb (fun h=>hx (h ▸ hX)),?_⟩⟩
     rintro (h | ⟨_,_,h,_⟩)
     ·exact hx h
     ·cases h
    have qb:cG ⟨sortWorld (fun x=>Value.int .i64 (en x)) c.w nF 0 q dk os,fun _=>.none,c.X⟩ Mem.none:=by
     refine ⟨fun _=>by simp [bJ,Mem.none],(fun _ _ _ _ _ h=>by cases h),(fun b ⟨_,_,h,_⟩=>by cases h),fun b hb=>?_⟩
     rcases hb with hb | hb
     ·exact Nat.lt_of_lt_of_le (hm.vu b hb) s5
     ·exact Nat.lt_of_lt_of_le (hm.yB hb) s5
    have hargs:aE ⟨sortWorld (fun x=>Value.int .i64 (en x)) c.w nF 0 q dk os,fun _=>.none,c.X⟩ ([.int .i64 (en x),.int .i64 (en y)]++cap) ([.int .i64 (en x),.int .i64 (en y)]++cb):=by
     simp only [List.cons_append,List.nil_append,aE]
     refine ⟨_,_,rfl,by simp [ar],_,_,rfl,by simp [ar],aE.mono hle cap cb (fun j hj=>?_) Sl⟩
     rw [az cap hcap] at hj; cases hj
    have nh:=OJ x y _ _ qb hargs
    have Ow:(([.int .i64 (en x),.int .i64 (en y)]++cb:List Value)).toArray=#[Value.int .i64 (en x),Value.int .i64 (en y)]++cb.toArray:=by simp
    rw [Ow] at nh
    refine nh.mono ?_
    rintro VA w' ⟨v,c',rfl,rfl,_,hv,MJ⟩
    simp only [ar] at hv
    refine ⟨by rw [hv],_,_,Lb MJ.os MJ.tape MJ.output MJ.drawn MJ.size fun b hb=>MJ.gT b hb ?_⟩
    rintro ⟨_,_,h,_⟩
    cases h
   have hS:=Any.slices_SortFunc L (fun x=>Value.int .i64 (en x)) (fun _=>rfl) cf hO g cb.toArray nF 0 cp xs.toArray c.w eg Sm hH hblk (by simp; omega)
   simp only [List.size_toArray] at hS
   refine hS.mono ?_
   rintro VA w' ⟨rfl,d',q,os,hP,hSt,rfl⟩
   have WE:d'.size=xs.length:=by simpa using hP.1
   have hd':d'.toList=ys:=by
    have hp1:d'.toList.Perm xs:=by
     have:=hP.2.2
     simp only [List.size_toArray,Array.toList_extract,List.extract_eq_take_drop,Nat.sub_zero,List.drop_zero,List.take_length] at this
     rwa [List.take_of_length_le (by simp [WE])] at this
    refine GF (cf:=cf) (hp1.trans Ia.symm) SQ ?_
    rw [List.pairwise_iff_getElem]
    intro i j hi hj tW
    simp only [Array.length_toList] at hi hj
    have:=hSt i j (Nat.zero_le _) tW (by omega)
    simp only [ltOf,decide_eq_false_iff_not] at this
    rw [getElem!_pos d' j hj,getElem!_pos d' i hi] at this
    simpa using this
   obtain ⟨s1,s2,s3,s4,s5⟩:=NJ (fun x=>Value.int .i64 (en x)) c.w nF q d' os
   have WT:=EZ (fun x=>Value.int .i64 (en x)) c.w nF q d' os
   have Wz:=Ve (fun x=>Value.int .i64 (en x)) c.w nF q d' os hg
   have F3:ys.length=xs.length:=Ia.length_eq
   obtain ⟨c',KR,kA,j6,vy⟩:=hm.y4 (pr:=fun i=>Mem.of [(id,LE.arr e 1 (xs.map fun x=>LV.int .i64 (en x)))] i ≠ .none) id (.arr e 1 (ys.map fun x=>LV.int .i64 (en x))) _ (sortWorld (fun x=>Value.int .i64 (en x)) c.w nF 0 q d' os) s1 s2 s3 s4 s5 
    (fun b hb hn=>WT b hb fun h=>hn _ hB (by rw [h]; simp [BE.has,Value.ownBlock]))
    (fun b hb=>.inl ⟨_,hB,hb⟩) (by rw [hB]; exact js.refl _) (fun _ dr h=>by rw [hB] at h; cases h; exact .refl _) (by
     intro c1 hc1 FZ hBl
     simp only [bJ]
     refine ⟨_,ys.map fun x=>Value.int .i64 (en x),by simp only [List.length_map,F3]; rfl,by decide,?_,ux en ys,?_,?_⟩
     ·rw [ox,List.length_map,F3,hc1]
      refine ⟨by simp [F3],.inr ⟨nF,cp,_,rfl,Nat.zero_le _,Wz,mh,hcm,?_,?_⟩⟩
      ·simpa [putCells] using hcs
      ·apply List.ext_getElem?
       intro j
       have Zg:cur.size=cp:=by simpa using hcs
       by_cases hj:j<xs.length
       ·have HU:j<d'.size:=by omega
        have hj3:j<ys.length:=by omega
        have hyj:d'[j]=ys[j]:=by
         simp only [← hd',Array.getElem_toList]
        rw [List.getElem?_take,if_pos (by omega),Array.getElem?_toList]
        simp only [putCells,Array.getElem?_mapIdx,Nat.zero_le,Nat.zero_add,Nat.sub_zero,true_and]
        rw [Array.getElem?_eq_getElem (by omega)]
        simp [HU,hyj,hj3]
       ·rw [List.getElem?_take,if_neg (by omega),List.getElem?_eq_none (by simp; omega)]
     ·intro v hv
      obtain ⟨y,_,rfl⟩:=List.mem_map.1 hv
      exact ⟨rfl,fun z hz=>by simp [Value.cells] at hz; subst hz; rfl⟩
     ·exact rp en ys)
   refine ⟨_,c',rfl,KR,?_,by simp only [ar,aE]; exact ⟨[],rfl,rfl⟩,vy.grow⟩
   have H6:Mem.put (Mem.of [(id,LE.arr e 1 (xs.map fun x=>LV.int .i64 (en x)))]) id (.arr e 1 (ys.map fun x=>LV.int .i64 (en x)))=Mem.of [(id,LE.arr e 1 (ys.map fun x=>LV.int .i64 (en x)))]:=by
    funext i
    by_cases hi:i=id
    ·subst hi; simp [Mem.put,Mem.of]
    ·simp [Mem.put,Mem.of,hi]
   rwa [H6] at j6 
end Go.L
namespace Go.L
open Go.Sort Go.Proofs Go.Shelf
theorem enters_of {P : Program} {g : Nat} (h : ∃ fn, P.funcs[g]? = some fn ∧ (fn.name == "runtime.NumGoroutine") = false ∧ fn.body.isNone = false) (args : Array Value) (w : World) : (callFunc g args).run P w = .ok (.enter g args) w := by
 obtain ⟨fn,h1,h2,h3⟩:=h
 have Ld : ¬ fn.name = "runtime.NumGoroutine" := by simpa using h2
 have h3':¬ fn.body=Option.none:=fun hn=>by rw [hn] at h3; cases h3
 simp [callFunc,h1,Ld,h3']
theorem Q9 {xs:List Int} {cf:Int→Int→Int} (h1:∀ x ∈ xs,¬ cf x x<0) (h2:∀ x ∈ xs,∀ y ∈ xs,∀ z ∈ xs,cf x y<0→cf y z<0→cf x z<0) (h3:∀ x ∈ xs,∀ y ∈ xs,∀ z ∈ xs,¬ cf x y<0→¬ cf y z<0→¬ cf x z<0):SWO (ltOf fun a b:{x // x ∈ xs}=>cf a.1 b.1):=by
 constructor
 ·intro x; simp only [ltOf,decide_eq_false_iff_not]; exact h1 x.1 x.2
 ·intro x y z; simp only [ltOf,decide_eq_true_eq]; exact h2 x.1 x.2 y.1 y.2 z.1 z.2
 ·intro x y z; simp only [ltOf,decide_eq_false_iff_not]; exact h3 x.1 x.2 y.1 y.2 z.1 z.2
theorem BB {P : Program} {ρ : Ren} (L : SlLaysF.n6 P ρ) {f : Nat} (hf : ρ.f 6 = f) {c : Int → Int → Option Int} {xs r : List Int} {g : Nat} {cap : List LV} (hg : ∃ fn, P.funcs[g]? = some fn ∧ (fn.name == "runtime.NumGoroutine") = false ∧ fn.body.isNone = false) (hcap : LV.bt cap = true)
  (OJ:∀ x y q,c x y=some q→aF P g ([.int .i64 x,.int .i64 y]++cap) (Mem.of []) (.int .i64 q) (Mem.of [])) (id e:Nat) (h:qs c xs=some r) :
  aF P f [.arr id xs.length,.fn g cap] (Mem.of [(id,.arr e 1 (xs.map (LV.int .i64)))]) (.tup []) (Mem.of [(id,.arr e 1 (r.map (LV.int .i64)))]):=by
 subst hf
 obtain ⟨hp,hn,cf,hc,h1,h2,h3,hs⟩:=BA h
 have hr:∀ x ∈ r,x ∈ xs:=fun x hx=>hp.mem_iff.1 hx
 have key:=Ko L (fun x:{x // x ∈ xs}=>x.1) (fun a b=>cf a.1 b.1) (Q9 h1 h2 h3) g cap hcap (enters_of hg)
  (fun x y=>OJ _ _ _ (hc x.1 x.2 y.1 y.2)) (xs.pmap Subtype.mk fun _ h=>h) (r.pmap Subtype.mk hr) (hp.pmap _) ?_ (by simpa using hn) id e
 ·simp only [List.map_pmap,List.pmap_eq_map,List.length_pmap] at key
  exact key
 ·refine (List.pairwise_pmap _).2 ?_
  exact hs.imp fun {a b} h _ _=>h
end Go.L
namespace Go.L
open Go.Sort Go.Proofs Go.Shelf Go.Lib
end Go.L
namespace Go.L
def GN (P:Program) (t:TypeId):Bool:=match P.underlying t with | some .string=>true | _=>false
theorem DB {P:Program} {t:TypeId} (h:GN P t=true):P.underlying t=some .string:=by
 unfold GN at h; split at h
 ·assumption
 ·cases h
def yK (a b:ByteArray):Option ByteArray:=if a.size+b.size≤1000000000 then some (a++b) else .none
def Gz (s:ByteArray) (i:Int):Option Int:=if 0≤i then (s.data.toList[i.toNat]?).map fun b=>(b.toNat:Int) else .none
def Du (ns:List Int):ByteArray:=ns.foldl (fun r n=>r.push (UInt8.ofNat n.toNat)) ByteArray.empty
theorem Va (a b:ByteArray):(a.toList == b.toList)=decide (a=b):=by
 rw [Bool.eq_iff_iff]
 simp only [beq_iff_eq,decide_eq_true_eq]
 constructor
 ·intro h
  rw [ByteArray.toList_eq,ByteArray.toList_eq] at h
  exact ByteArray.ext (Array.toList_inj.1 h)
 ·intro h; rw [h]
theorem ZN:oR 1 LV.str:=fun _=>⟨rfl,rfl,rfl⟩
section
variable {P:Program} {pr:Nat→Prop} {ev:Operand→LV} {m:Mem} {d:Option Nat} {x y:Operand} {t t' ty:TypeId} {pos:String} {af:Array Edge} {gd:Option (Nat × Bool)} {a b:ByteArray}
theorem Ki {op:BinOp} (w:World):(eqGuard op t x y (.string a) (.string b)).run P w=.ok () w:=by unfold eqGuard; cases op <;> simp
theorem Jm (hx:ev x=.str a) (hy:ev y=.str b):bR P pr ⟨d,.binOp .eql t x y t',ty,pos,af,gd⟩ ev m (.bool (decide (a=b))) m:=by
 refine bR.value fun c act bS hM=>?_
 have hv:=bS x (by simp [Op.operands])
 have hw:=bS y (by simp [Op.operands])
 rw [hx] at hv
 rw [hy] at hw
 simp only [ar] at hv hw
 exact ⟨.bool (decide (a=b)),c,by simp [execOp,hv,hw,Ki,binOp_string_eql,Va],by simp [ar],hM,Step.refl pr c⟩
theorem Ep {r:ByteArray} (hx:ev x=.str a) (hy:ev y=.str b) (h:yK a b=some r):bR P pr ⟨d,.binOp .add t x y t',ty,pos,af,gd⟩ ev m (.str r) m:=by
 unfold yK at h
 split at h
 ·rename_i hs
  cases h
  refine bR.value fun c act bS hM=>?_
  have hv:=bS x (by simp [Op.operands])
  have hw:=bS y (by simp [Op.operands])
  rw [hx] at hv
  rw [hy] at hw
  simp only [ar] at hv hw
  exact ⟨.string (a++b),c,by simp [execOp,hv,hw,Ki,binOp_string_add,run_string_add_sum c.w a b (by omega)],by simp [ar],hM,Step.refl pr c⟩
 ·cases h
theorem Er (ht:GN P t=true) (hx:ev x=.str a):bR P pr ⟨d,.call ⟨.builtin .len,#[x],#[t]⟩,ty,pos,af,gd⟩ ev m (.int .i64 a.size) m:=by
 have hu:=DB ht
 refine bR.value fun c act bS hM=>?_
 have hv:=bS x (by simp [Op.operands,Call.operands])
 rw [hx] at hv
 simp only [ar] at hv
 exact ⟨.int .i64 a.size,c,by simp [execOp,resolve,invoke,builtin,Builtin.len_,hv,run_underlying hu,goInt],by simp [ar],hM,Step.refl pr c⟩
theorem Jn {k:IntKind} {u z:Int} (ht:GN P t=true) (hx:ev x=.str a) (hy:ev y=.int k u) (h:Gz a u=some z):bR P pr ⟨d,.index t x y,ty,pos,af,gd⟩ ev m (.int .u8 z) m:=by
 have hu:=DB ht
 unfold Gz at h
 split at h
 ·rename_i h0
  obtain ⟨q,hq,hz⟩:=Option.map_eq_some_iff.1 h
  have pS:a[u.toNat]?=some q:=by
   obtain ⟨hl,he⟩:=List.getElem?_eq_some_iff.1 hq
   have oz:u.toNat<a.size:=by rw [Array.length_toList] at hl; exact hl
   rw [getElem?_pos a u.toNat oz]
   simp only [Option.some.injEq]
   rw [← he]; simp [ByteArray.getElem_eq_getElem_data]
  refine bR.value fun c act bS hM=>?_
  have hv:=bS x (by simp [Op.operands])
  have hw:=bS y (by simp [Op.operands])
  rw [hx] at hv
  rw [hy] at hw
  simp only [ar] at hv hw
  refine ⟨.int .u8 z,c,?_,by simp [ar],hM,Step.refl pr c⟩
  simp [execOp,hv,hw,Instr.index,asIntOf,run_underlying hu,h0,pS,hz]
 ·cases h
theorem rI {c:Cx}:∀ {ns:List Int} {us:List Value},aE c (ns.map (LV.int .u8)) us→us=ns.map (Value.int .u8)
 | [],us,h=>by simpa [aE] using h
 | n :: ns,us,h=>by
  simp only [List.map_cons,aE] at h
  obtain ⟨v,vs,rfl,hv,hl⟩:=h
  simp only [ar] at hv
  rw [hv,rI hl]; rfl
theorem tJ:∀ (ns:List Int),flat (ns.map (Value.int .u8))=ns.map (Value.int .u8)
 | []=>rfl
 | n :: ns=>by simp only [flat,List.map_cons,List.flatMap_cons]; rw [show (Value.int .u8 n).cells.toList=[Value.int .u8 n] from rfl]; exact congrArg _ (tJ ns)
theorem Qy {e:Nat} {ns:List Int} (hs:telem P t=some e) (he:tint P e=some .u8) (hd:GN P t'=true) (hx:ev x=.lst 1 (ns.map (LV.int .u8))):bR P pr ⟨d,.convert t t' x,ty,pos,af,gd⟩ ev m (.str (Du ns)) m:=by
 have G0:=fX hs
 have hud:=DB hd
 have hue:P.underlying e=some (.int .u8):=by
  unfold tint at he; split at he
  ·rename_i k hk; cases he; exact hk
  ·cases he
 refine bR.value fun c act bS hM=>?_
 have hv:=bS x (by simp [Op.operands])
 rw [hx] at hv
 simp only [ar] at hv
 obtain ⟨ad,cap,hval,hcap,qc,_,Sk⟩:=hv
 refine ⟨.string (Du ns),c,?_,by simp [ar],hM,Step.refl pr c⟩
 have dt:(Conv.bytesToString (.slice ad (ns.map (LV.int .u8)).length cap)).run P c.w=.ok (.string (Du ns)) c.w:=by
  cases ad with
  | none =>
   have h0:=qc rfl
   have:ns=[]:=by
    rw [h0] at hcap; simp at hcap; exact hcap
   subst this
   rfl
  | some a0 =>
   rw [List.length_map]
   refine run_bytesToString c.w a0 ns.length cap ns ?_
   have:=run_loadCells_list (P:=P) (w:=c.w) a0 (ns.map (Value.int .u8)) (fun j v hj=>by
    rcases Sk with h | ⟨b0,off,vs,h1,_,_,h2,_,h3⟩
    ·have:ns=[]:=by simpa using h
     subst this; simp at hj
    ·cases h1
     have G1:=rI h2
     subst G1
     rw [tJ] at h3
     have:=h3 j v hj
     simpa [Addr.add_mid] using this)
   simpa using this
 rw [List.length_map] at hval dt
 simp [execOp,hval,run_convert_bytes_string c.w t t' e ad _ cap G0 hue hud,dt]
end
end Go.L
namespace Go.L
theorem Jb {c:Cx} {e k i o id2 n2 g len:Nat} {os:List (Nat × Nat × Nat)} {xs:List LV} {u v:Value} {bs:List Nat} (h:bJ c (some (.nest e k os xs)) (some (.arr u k len bs))) (hg:u.ownBlock=some g) (hc:c.w.cell? ⟨g,i * k+o,Option.none⟩=some v) (hv:ar c (.arr id2 n2) v):bJ c (some (.de e k os xs i o id2 n2)) (some (.arr u k len bs)):=by
 simp only [bJ] at h ⊢
 obtain ⟨u',vs,DY,h1,h2,h3,h4,h5⟩:=h
 cases h1
 exact ⟨u,vs,bs,rfl,h2,h3,h4,⟨g,v,hg,hc,hv⟩,h5⟩
theorem Jc {c:Cx} {e k i o id2 n2:Nat} {os:List (Nat × Nat × Nat)} {xs:List LV} {y:Option BE} (h:bJ c (some (.de e k os xs i o id2 n2)) y):bJ c (some (.nest e k os xs)) y∧∃ u bs g v,y=some (.arr u k xs.length bs)∧u.ownBlock=some g∧c.w.cell? ⟨g,i * k+o,Option.none⟩=some v∧ar c (.arr id2 n2) v:=by
 simp only [bJ] at h ⊢
 obtain ⟨u,vs,bs,h1,h2,h3,h4,⟨g,v,q1,q2,q3⟩,h5⟩:=h
 exact ⟨⟨u,vs,bs,h1,h2,h3,h4,h5⟩,u,bs,g,v,h1,q1,q2,q3⟩
section
variable {P:Program} {N:Nat} {pr:Nat→Prop} {ev:Operand→LV} {m:Mem} {d:Option Nat} {x y:Operand} {t ty:TypeId} {pos:String} {af:Array Edge} {gd:Option (Nat × Bool)} {e0 k id n i o0 id2 e' k':Nat} {os:List (Nat × Nat × Nat)} {xs cs ys:List LV}
theorem Jo (hx:ev x=.eptr id n i o0) (hm:m id=some (.nest e0 k os xs)) (hn:n=xs.length) (hz:xs[i]?=some (.agg cs)) (hc:cs[o0]?=some (.lst k' ys)) (hl:os.lookup o0=some (e',k')) (cj:m id2=.none) (ht:tok P t=true) (ha:tagg P t=false) :
  bR P pr ⟨d,.load t x,ty,pos,af,gd⟩ ev m (.arr id2 ys.length) ((m.put id (.de e0 k os (xs.set i (.agg (cs.set o0 .fg))) i o0 id2 ys.length)).put id2 (.arr e' k' ys)):=by
 have eE:id ≠ id2:=fun h=>by rw [h,cj] at hm; cases hm
 refine bR.value fun c a bS hM=>?_
 have hv:=bS x (by simp [Op.operands])
 rw [hx] at hv
 have gM:=hM.gH id
 rw [hm] at gM
 obtain ⟨g,cap,cur,v,bp,bs,bq,hB,hg,hcs,mh,hk,CM,iR,wA,qH,hnd,qI,oS⟩:=nX gM hz
 have he:=iE hv hB hn
 obtain ⟨dL,ws,h1,rfl,hC⟩:=qH
 cases h1
 have tU:(cur.toList.drop (i * k)).take k=ws:=by simpa [Value.cells] using wA
 obtain ⟨w,cp,cb,cq,g1,rfl,g3,g4⟩:=hC.at hc
 have hcell:=oF hg tU g1
 rw [Nat.zero_add] at g3 g4
 unfold fB at g3
 rw [hl] at g3
 obtain ⟨us,KP,bN,yq,Pc,Ig,rfl⟩:∃ us,0<k'∧c.w.ownsRow 0 e' k' w ys.length (flat us)∧aE c ys us∧(∀ u ∈ us,u.cells.size=k'∧∀ y ∈ u.cells,y.oneCell'=true)∧LV.bt ys=true∧cb=w.ownBlock.toList:=by
  rcases g3 with ⟨h,_⟩ | ⟨ZZ,us,h,q0,q1,q2,q3,q4,q5⟩
  ·cases h
  ·cases h; exact ⟨us,q0,q1,q2,q3,q4,q5⟩
 have dt:(Instr.loadAt t (a.eval x)).run P c.w=.ok w c.w:=by
  rw [he]
  exact (gw (cs:=[.fg]) (vs:=[w]) (c:=c) ht (by simp [aE,ar]) (fun j v hj=>by
   cases j with
   | zero=>simp at hj; subst hj; simpa using hcell
   | succ j=>simp at hj)).2 ha w [] rfl
 have zw:=hM.fresh cj
 have jH:∀ b,b ∈ bp++((cp++([]++cq))++bq)→b ∈ bp++((cp++(w.ownBlock.toList++cq))++bq):=fun b hb=>by
  simp only [List.mem_append,List.nil_append] at hb ⊢
  rcases hb with h | (h | h) | h <;> simp [h]
 have nO:(bp++((cp++([]++cq))++bq)).Nodup:=by
  refine List.Nodup.sublist ?_ hnd
  refine List.Sublist.append (List.Sublist.refl _) (List.Sublist.append (List.Sublist.append (List.Sublist.refl _) ?_) (List.Sublist.refl _))
  exact List.Sublist.append (List.nil_sublist _) (List.Sublist.refl _)
 have qd:ws.set o0 w=ws:=by
  obtain ⟨hlt,hw⟩:=List.getElem?_eq_some_iff.1 g1
  rw [← hw]; exact List.set_getElem_self hlt
 obtain ⟨c',hw,Wf,R1,h2,h3⟩:=hM.Mm (pr:=pr) id id2 eE (.de e0 k os (xs.set i (.agg (cs.set o0 .fg))) i o0 id2 ys.length) (.arr e' k' ys) (.arr (.slice (some ⟨g,0,.none⟩) xs.length cap) k xs.length (bp++((cp++([]++cq))++bq))) (.arr w k' ys.length []) c.w rfl rfl rfl (Nat.le_refl _) (Nat.le_refl _)
  (fun b _ _ _=>rfl)
  (fun b hb=>by
   rcases hb with hb | hb
   ·rcases hb with hb | hb
    ·exact .inl ⟨_,hB,.inl hb⟩
    ·exact .inl ⟨_,hB,.inr (jH b hb)⟩
   ·rcases hb with hb | hb
    ·exact .inl ⟨_,hB,.inr (by simp [hb])⟩
    ·cases hb)
  (fun b hb hb2=>by
   have hbw:w.ownBlock=some b:=by
    rcases hb2 with h | h
    ·exact h
    ·cases h
   rcases hb with hb | hb
   ·have:g=b:=by simpa [Value.ownBlock] using hb
    subst this
    exact qI (by simp [hbw])
   ·have n1:=List.nodup_append.1 hnd
    have n2:=List.nodup_append.1 n1.2.1
    have n3:=List.nodup_append.1 n2.1
    have n4:=List.nodup_append.1 n3.2.1
    have hin:b ∈ w.ownBlock.toList:=by simp [hbw]
    simp only [List.mem_append,List.nil_append] at hb
    rcases hb with h | (h | h) | h
    ·exact n1.2.2 b h b (by simp [hbw]) rfl
    ·exact n3.2.2 b h b (by simp [hbw]) rfl
    ·exact n4.2.2 b hin b h rfl
    ·exact n2.2.2 b (by simp [hbw]) b h rfl)
  (by rw [hB]; exact ⟨_,_,_,rfl,Nat.le_refl _,fun _=>rfl⟩) (by rw [zw]; trivial) (fun _ dr h0=>by rw [hB] at h0; cases h0; exact ⟨_,_,_,rfl,Nat.le_refl _,fun _=>rfl⟩) (fun _ dr h0=>by rw [zw] at h0; cases h0)
  (fun c' hw hle hble hb2=>by
   refine Jb (g:=g) (v:=w) ?_ rfl (by rw [hw]; exact hcell) (by
    simp only [ar]
    refine ⟨?_,_,_,_,_,hb2,Nat.le_refl _,fun _=>rfl⟩
    obtain ⟨ad,R0,Iw⟩:=ef bN
    rw [Iw]; rfl)
   refine oS c' _ (.agg ws.toArray) _ hle ?_ (fun q _=>by rw [hw]) CM iR ⟨_,ws,rfl,rfl,?_⟩ nO (fun h=>qI (by
    simp only [List.mem_append,List.nil_append] at h ⊢
    rcases h with h | h <;> simp [h]))
   ·rw [hw,hg]
    congr 2
    apply Array.toList_inj.1
    simp only [List.toList_toArray]
    rw [← wA,← List.drop_drop,List.append_assoc,List.take_append_drop,List.take_append_drop]
   ·have:=g4 (c':=c') (x':=.fg) (w':=w) (b':=[]) hle (fun r _=>by rw [hw]) (by unfold fB; rw [hl]; exact .inl ⟨rfl,rfl⟩)
    rw [qd] at this
    exact this)
  (fun c' hw hle hble=>by
   simp only [bJ]
   exact ⟨w,us,rfl,KP,by rw [hw]; exact bN,aE.mono hle ys us (fun j hj=>by rw [az ys Ig] at hj; cases hj) yq,Pc,Ig⟩)
 refine ⟨w,c',by rw [hw]; simp [execOp,dt],?_,h2,h3⟩
 simp only [ar]
 refine ⟨?_,_,_,_,_,R1,Nat.le_refl _,fun _=>rfl⟩
 obtain ⟨ad,R0,Iw⟩:=ef bN
 rw [Iw]; rfl
theorem cG.unlink {c:Cx} (hM:cG c m) {n2:Nat} (hm:m id=some (.de e0 k os xs i o0 id2 n2)) (hz:xs[i]?=some (.agg cs)) (hc:cs[o0]?=some .fg) (hl:os.lookup o0=some (e',k')) (lp:m id2=some (.arr e' k' ys)) (Lt:n2=ys.length) (ud:¬ pr id2) :
  ∃ c':Cx,c'.w=c.w∧cG c' ((m.put id (.nest e0 k os (xs.set i (.agg (cs.set o0 (.lst k' ys)))))).put id2 .dead)∧Step pr c c':=by
 have eE:id ≠ id2:=fun h=>by rw [h,lp] at hm; cases hm
 have MF:=hM.gH id
 rw [hm] at MF
 obtain ⟨gM,uL,bsL,gL,y0,ZC,hgL,Zd,lX⟩:=Jc MF
 obtain ⟨us,zw,KP,bN,yq,Pc,Ig⟩:=gY hM lX lp Lt
 obtain ⟨g,cap,cur,v,bp,bs,bq,hB,hg,hcs,mh,hk,CM,iR,wA,qH,hnd,qI,oS⟩:=nX gM hz
 obtain ⟨dL,ws,h1,rfl,hC⟩:=qH
 cases h1
 have BV:ws.length=k:=by simpa [Value.cells] using CM
 have tU:(cur.toList.drop (i * k)).take k=ws:=by simpa [Value.cells] using wA
 obtain ⟨w0,cp,cb,cq,g1,rfl,g3,g4⟩:=hC.at hc
 rw [Nat.zero_add] at g3 g4
 have Sl:cb=[]:=by
  unfold fB at g3
  rw [hl] at g3
  rcases g3 with ⟨_,h⟩ | ⟨_,_,h,_⟩
  ·exact h
  ·cases h
 subst Sl
 have hw0:w0=y0:=by
  have hcell:=oF hg tU g1
  rw [hB] at ZC
  cases ZC
  have:g=gL:=by simpa [Value.ownBlock] using hgL
  subst this
  rw [hcell] at Zd
  exact Option.some.inj Zd
 subst hw0
 have gP:o0<k:=by rw [← BV]; exact (List.getElem?_eq_some_iff.1 g1).1
 have hi:i<xs.length:=(List.getElem?_eq_some_iff.1 hz).1
 have Ls:i * k+k≤cur.size:=by
  have h1:=Nat.mul_le_mul_right k (show i+1≤cap by omega)
  rw [Nat.add_mul,Nat.one_mul] at h1; omega
 have rR:(w0).oneCell'=true:=by
  obtain ⟨ad,R0,Iw⟩:=ef bN
  rw [Iw]; rfl
 have qd:ws.set o0 w0=ws:=by
  obtain ⟨hlt,hw⟩:=List.getElem?_eq_some_iff.1 g1
  rw [← hw]; exact List.set_getElem_self hlt
 -- the block of the slice is not one of the U8
 have pw:∀ b,(w0).ownBlock=some b→b ≠ g∧b ∉ bp++((cp++([]++cq))++bq):=fun b hb=>by
  constructor
  ·intro Ec
   exact eE (hM.inj id id2 _ _ b hB zw (.inl (by rw [Ec]; rfl)) (.inl hb))
  ·intro hin
   exact eE (hM.inj id id2 _ _ b hB zw (.inr hin) (.inl hb))
 have nO:(bp++((cp++((w0).ownBlock.toList++cq))++bq)).Nodup:=by
  cases hb:(w0).ownBlock with
  | none=>simpa [hb] using hnd
  | some b =>
   have hf:=(pw b hb).2
   have hp:(bp++((cp++((some b).toList++cq))++bq)).Perm (b :: (bp++((cp++([]++cq))++bq))):=by
    simp only [Option.toList_some,List.singleton_append,List.nil_append]
    refine (List.Perm.append_left bp ?_).trans (List.perm_middle)
    rw [List.append_assoc,List.append_assoc,List.cons_append]
    exact List.perm_middle
   exact hp.nodup_iff.2 (List.nodup_cons.2 ⟨hf,hnd⟩)
 obtain ⟨c',hw,Wf,R1,h2,h3⟩:=hM.Mm (pr:=pr) id id2 eE (.nest e0 k os (xs.set i (.agg (cs.set o0 (.lst k' ys))))) .dead (.arr (.slice (some ⟨g,0,.none⟩) xs.length cap) k xs.length (bp++((cp++((w0).ownBlock.toList++cq))++bq))) (.arr (.slice .none 0 0) k' (ys.length+1) []) c.w rfl rfl rfl (Nat.le_refl _) (Nat.le_refl _)
  (fun b _ _ _=>rfl)
  (fun b hb=>by
   rcases hb with hb | hb
   ·rcases hb with hb | hb
    ·exact .inl ⟨_,hB,.inl hb⟩
    ·simp only [List.mem_append,Option.mem_toList] at hb
     rcases hb with h | (h | h | h) | h
     ·exact .inl ⟨_,hB,.inr (by simp [h])⟩
     ·exact .inl ⟨_,hB,.inr (by simp [h])⟩
     ·exact .inr (.inl ⟨_,zw,.inl h⟩)
     ·exact .inl ⟨_,hB,.inr (by simp [h])⟩
     ·exact .inl ⟨_,hB,.inr (by simp [h])⟩
   ·rcases hb with hb | hb
    ·simp [Value.ownBlock] at hb
    ·cases hb)
  (fun b _ hb2=>by
   rcases hb2 with hb | hb
   ·simp [Value.ownBlock] at hb
   ·cases hb)
  (by rw [hB]; exact ⟨_,_,_,rfl,Nat.le_refl _,fun _=>rfl⟩) (by rw [zw]; exact ⟨_,_,_,rfl,by omega,fun h=>by omega⟩) (fun _ dr h0=>by rw [hB] at h0; cases h0; exact ⟨_,_,_,rfl,Nat.le_refl _,fun _=>rfl⟩) (fun h=>absurd h ud)
  (fun c' hw hle hble _=>by
   have vP:∀ b,b ≠ g→c'.w.heap[b]?=c.w.heap[b]?:=fun b _=>by rw [hw]
   refine oS c' _ (.agg (ws.set o0 (w0)).toArray) _ hle (by
    rw [hw,hg,qd]
    congr 2
    apply Array.toList_inj.1
    simp only [List.toList_toArray]
    rw [← wA,← List.drop_drop,List.append_assoc,List.take_append_drop,List.take_append_drop]) (fun q hq=>vP q (fun O0=>qI (by rw [← O0]; simp at hq ⊢; rcases hq with h | h <;> simp [h]))) (by simp [Value.cells,BV]) (fun q hq=>by
    simp only [Value.cells] at hq iR
    have pS:q ∈ ws.set o0 (w0):=by simpa using hq
    rcases List.mem_or_eq_of_mem_set pS with h | h
    ·exact iR q (by simpa using h)
    ·rw [h]; exact rR) ⟨_,_,rfl,rfl,?_⟩ nO (fun h=>?_)
   ·refine g4 (c':=c') (x':=.lst k' ys) (w':=w0) (b':=(w0).ownBlock.toList) hle (fun r hr=>vP r (fun SN=>qI (by rw [← SN]; simp at hr ⊢; rcases hr with h | h <;> simp [h]))) ?_
    unfold fB
    rw [hl]
    exact .inr ⟨ys,us,rfl,KP,cV bN (fun b hb=>vP b (pw b hb).1),aE.mono hle ys us (fun j hj=>by rw [az ys Ig] at hj; cases hj) yq,Pc,Ig,rfl⟩
   ·simp only [List.mem_append,Option.mem_toList] at h
    rcases h with h | h | h
    ·exact qI (by simp [h])
    ·exact (pw g h).1 rfl
    ·exact qI (by simp [h]))
  (fun c' hw hle hble=>by simp only [bJ]; exact ⟨_,_,_,rfl,rfl⟩)
 exact ⟨c',hw,h2,h3⟩
theorem Wk.unlink {e:Env} {n2:Nat} (hm:m id=some (.de e0 k os xs i o0 id2 n2)) (hz:xs[i]?=some (.agg cs)) (hc:cs[o0]?=some .fg) (hl:os.lookup o0=some (e',k')) (lp:m id2=some (.arr e' k' ys)) (Lt:n2=ys.length) (ud:¬ pr id2) :
  Wk pr e m e ((m.put id (.nest e0 k os (xs.set i (.agg (cs.set o0 (.lst k' ys)))))).put id2 .dead):=by
 intro N c a cv
 obtain ⟨c',hw,h2,h3⟩:=cv.mem.unlink (pr:=pr) hm hz hc hl lp Lt ud
 exact ⟨c',hw,⟨fun i=>h3.yJ (cv.env i),h2,cv.size,cv.defers⟩,h3.grow⟩
end
end Go.L
namespace Go.L
theorem aF.TI {P:Program} {f:Nat} {args eH:List LV} {ml cS:List (Nat × LE)} {r:LV} (id e k:Nat) (os:List (Nat × Nat × Nat)) {xs:List LV} (hp:LV.bt xs=true) (h:aF P f eH (Mem.of ml) r (Mem.of cS)) (ha:pW id k xs args eH)
  (h1:Mem.of ml id=.none) (h2:Mem.of cS id=.none) (nM:tM id ml=true) (hr:r.lR=true) (Xr:r.bo id=true) (vQ:tp id cS) :
  aF P f args (Mem.of ((id,.nest e k os xs) :: ml)) r (Mem.of ((id,.nest e k os xs) :: cS)):=by
 intro c vs hm hargs
 have cj:Mem.of ((id,LE.nest e k os xs) :: ml) id=some (.nest e k os xs):=by simp [Mem.of]
 have gM:=hm.gH id
 rw [cj] at gM
 simp only [bJ] at gM
 obtain ⟨u,us,bs,hB,hk,bN,hn,hc,hnd,W5⟩:=gM
 have kY:∀ i le,i ≠ id→Mem.of ((id,LE.nest e k os xs) :: ml) i=some le→le.iU id=true:=fun i cs hi yX=>by
  simp only [Mem.of,hi,if_false] at yX
  exact nK nM i cs hi yX
 obtain ⟨c1,hw,hO,k5,hV,nR,hX,Lf⟩:=hm.del id kY
 have OM:(Mem.of ((id,LE.nest e k os xs) :: ml)).del id=Mem.of ml:=by
  funext i
  unfold Mem.del
  by_cases hi:i=id
  ·subst hi; simp [h1]
  ·simp [hi,Mem.of]
 rw [OM] at k5
 have HX:c.Le c1:=⟨by rw [hw]; exact Nat.le_refl _,fun b _ hx=>⟨by rw [hw],fun oC=>hx (oC.imp (fun h=>by rw [hO] at h; exact h) (nR b))⟩⟩
 have hR:∀ v,ar c (.arr id xs.length) v→ar c1 (.lst k xs) v:=by
  intro v hv
  have hvu:v=u:=by
   simp only [ar] at hv
   obtain ⟨_,u',k',lO,lL,kA,_,hv⟩:=hv
   rw [hB] at kA; cases kA
   exact hv rfl
  subst hvu
  simp only [ar]
  have OR:aE c1 xs us:=hn.Ea HX hw (fun b hb=>hX b _ hB (.inr hb))
  rcases bN.2 with ⟨rfl,h0⟩ | ⟨g,cap,cur,rfl,_,hg,mh,_⟩
  ·exact ⟨.none,0,by rw [h0],by omega,fun _=>rfl,hp,.inl (List.eq_nil_of_length_eq_zero h0)⟩
  ·refine ⟨some ⟨g,0,.none⟩,cap,rfl,mh,by simp,hp,.inr ⟨g,0,us,rfl,by rw [hw]; exact (Array.getElem?_eq_some_iff.1 hg).1,hX g _ hB (.inl rfl),OR,hc,?_⟩⟩
   rw [hw]; exact gr bN rfl
 have nh:=h c1 vs k5 (ha.rep hV hR hargs)
 rw [hw] at nh
 refine nh.mono ?_
 rintro en w' ⟨v,c2,rfl,rfl,lp,hv2,hg⟩
 have zw:c2.B id=.none:=lp.fresh h2
 -- the block of the row
 have hblk:∀ b,(u.ownBlock=some b ∨ b ∈ bs)→b<c.w.heap.size∧c2.w.heap[b]?=c.w.heap[b]?∧¬ c2.own b∧¬ c2.O b:=by
  intro b hb
  have hlt:=(hm.gH id).lt hB (show (BE.arr u k xs.length bs).has b from hb)
  have SI:¬ c1.X b:=hX b _ hB hb
  have sR:¬ c1.own b:=fun ho=>SI (.inr ho)
  refine ⟨hlt,?_,?_,?_⟩
  ·have:=hg.gT b (by rw [hw]; exact hlt) sR; rw [hw] at this; exact this
  ·intro ho
   rcases hg.own b ho with h' | h'
   ·exact sR h'
   ·rw [hw] at h'; omega
  ·rw [hg.O]; exact fun ho=>SI (.inl ho)
 let c3:Cx:=⟨c2.w,fun i=>if i=id then c.B id else c2.B i,c2.O⟩
 have ye:∀ i,i ≠ id→c3.B i=c2.B i:=fun i hi=>by simp [c3,hi]
 have tN:c3.B id=c.B id:=by simp [c3]
 have uc:∀ b,c3.own b→c2.own b ∨ (u.ownBlock=some b ∨ b ∈ bs):=by
  rintro b ⟨i,be,g1,g2⟩
  by_cases hi:i=id
  ·subst hi; rw [tN,hB] at g1; cases g1; exact .inr g2
  ·rw [ye i hi] at g1; exact .inl ⟨i,be,g1,g2⟩
 have GS:c3.O=c.O:=by show c2.O=c.O; rw [hg.O,hO]
 have HY:c.Le c3:=by
  refine ⟨by have:=hg.size; rw [hw] at this; exact this,fun b hb hx=>⟨?_,?_⟩⟩
  ·have:=hg.gT b (by rw [hw]; exact hb) (fun ho=>hx (.inr (nR b ho))); rw [hw] at this; exact this
  ·rintro (ho | ho)
   ·rw [GS] at ho; exact hx (.inl ho)
   ·rcases uc b ho with h' | h'
    ·rcases hg.own b h' with zu | zu
     ·exact hx (.inr (nR b zu))
     ·rw [hw] at zu; omega
    ·exact hx (.inr ⟨id,_,hB,h'⟩)
 refine ⟨v,c3,rfl,rfl,⟨fun i=>?_,?_,?_,?_⟩,?_,?_⟩
 ·by_cases hi:i=id
  ·subst hi
   rw [tN,hB]
   simp only [Mem.of,if_true,bJ]
   exact ⟨u,us,bs,rfl,hk,cV bN (fun b hb=>(hblk b (.inl hb)).2.1),hn.mono HY (fun b hb=>(hblk b (.inr hb)).2.1),hc,hnd,W5⟩
  ·rw [ye i hi]
   simp only [Mem.of,hi,if_false]
   have he:=lp.gH i
   cases yX:Mem.of cS i with
   | none=>rw [yX] at he; simpa only [bJ] using he
   | some le=>rw [yX] at he; exact bJ.jN (c:=c2) (c':=c3) rfl ye (vQ i le yX) he
 ·intro i j be dK b g1 g2 g3 g4
  by_cases hi:i=id
  ·by_cases hj:j=id
   ·rw [hi,hj]
   ·subst hi
    rw [tN,hB] at g1; cases g1
    rw [ye j hj] at g2
    exact absurd ⟨j,dK,g2,g4⟩ (hblk b g3).2.2.1
  ·by_cases hj:j=id
   ·subst hj
    rw [tN,hB] at g2; cases g2
    rw [ye i hi] at g1
    exact absurd ⟨i,be,g1,g3⟩ (hblk b g4).2.2.1
   ·rw [ye i hi] at g1; rw [ye j hj] at g2
    exact lp.inj i j be dK b g1 g2 g3 g4
 ·intro b ho
  rcases uc b ho with h' | h'
  ·exact lp.jT b h'
  ·exact (hblk b h').2.2.2
 ·intro b ho; exact lp.vu b ho
 ·exact ar.jN r v hr (fun i hi=>ye i (fun he=>by subst he; rw [Xr] at hi; cases hi)) hv2
 ·refine ⟨GS,?_,?_,?_,?_,?_,?_,?_,?_⟩
  ·have:=hg.os; rw [hw] at this; exact this
  ·have:=hg.tape; rw [hw] at this; exact this
  ·have:=hg.output; rw [hw] at this; exact this
  ·have:=hg.drawn; rw [hw] at this; exact this
  ·have:=hg.size; rw [hw] at this; exact this
  ·intro b hb ho
   have:=hg.gT b (by rw [hw]; exact hb) (fun yY=>ho (nR b yY)); rw [hw] at this; exact this
  ·intro b ho
   rcases uc b ho with h' | h'
   ·rcases hg.own b h' with zu | zu
    ·exact .inl (nR b zu)
    ·rw [hw] at zu; exact .inr zu
   ·exact .inl ⟨id,_,hB,h'⟩
  ·intro i be Ib Se
   by_cases hi:i=id
   ·subst hi; exact ⟨be,by rw [tN]; exact Se,.refl be⟩
   ·rw [ye i hi]
    have Ox:c1.B i=some be:=by rw [Lf i hi]; exact Se
    exact hg.CZ i be (by simpa [Mem.of,hi] using Ib) Ox
end Go.L
