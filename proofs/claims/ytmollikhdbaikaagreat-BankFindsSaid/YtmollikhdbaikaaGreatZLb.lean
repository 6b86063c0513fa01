import Derived.Test.YtmollikhdbaikaaGreatZLa
import Derived.WideKeyElems
import Derived.Lib.AppendZeros
import Derived.Lib.SliceRun
import Derived.Lib.Overlaps
import Derived.Laws.IdiomCopy
import Derived.Laws.StructEq
set_option linter.unusedVariables false
set_option linter.unusedSimpArgs false
namespace Go.L
abbrev LV.I:Int→LV:=LV.int .i64
abbrev LV.L (xs:List Int):LV:=.ak 1 (xs.map (LV.int .i64))
abbrev ef (P : Program) (f : Nat) : Prop := ∃ fn, P.funcs[f]? = some fn ∧ (fn.name == "runtime.NumGoroutine") = false ∧ fn.body.isNone = false
def Sub (x y:LV):Prop:=∀ c v,av c x v→av c y v
def fv:List LV→List LV→Prop
 | [],[]=>True
 | x :: xs,y :: ys=>Sub x y∧fv xs ys
 | _,_=>False
theorem Sub.rfl {x:LV}:Sub x x:=fun _ _ h=>h
theorem Sub.trans {x y z:LV} (h:Sub x y) (k:Sub y z):Sub x z:=fun c v hv=>k c v (h c v hv)
theorem Sub.eF {x:LV}:Sub x .eF:=fun _ _ _=>by simp [av]
theorem Sub.nil {k:Nat}:Sub .nil (.ak k []):=fun c v h=>by
 simp only [av] at h ⊢
 subst h
 exact ⟨.none,0,by rfl,Nat.le_refl _,fun _=>by rfl,by rfl,.inl trivial⟩
theorem fv.rep:∀ {xs ys:List LV},fv xs ys→∀ {c:Cx} {vs:List Value},aC c xs vs→aC c ys vs
 | [],[],_,c,vs,h=>h
 | x :: xs,y :: ys,hs,c,vs,h=>by
  simp only [aC] at h ⊢
  obtain ⟨v,fQ,h0,h1,h2⟩:=h
  exact ⟨v,fQ,h0,hs.1 c v h1,fv.rep hs.2 h2⟩
theorem fv.rfl:∀ {xs:List LV},fv xs xs
 | []=>trivial
 | x :: xs=>⟨Sub.rfl,fv.rfl⟩
theorem Sub.agg {xs ys:List LV} (h:fv xs ys):Sub (.agg xs) (.agg ys):=fun c v hv=>by
 simp only [av] at hv ⊢
 obtain ⟨vs,h0,h1⟩:=hv
 exact ⟨vs,h0,h.rep h1⟩
theorem Sub.cX {xs ys:List LV} (h:fv xs ys):Sub (.cX xs) (.cX ys):=fun c v hv=>by
 simp only [av] at hv ⊢
 obtain ⟨vs,h0,h1⟩:=hv
 exact ⟨vs,h0,h.rep h1⟩
theorem aM.sub {P:Program} {f:Nat} {args gw:List LV} {m m':Mem} {lv:LV} (h:aM P f gw m lv m') (hs:fv args gw):aM P f args m lv m':=fun c vs hm ha=>h c vs hm (hs.rep ha)
theorem aM.res {P:Program} {f:Nat} {args:List LV} {m m':Mem} {lv xb:LV} (h:aM P f args m lv m') (hs:Sub lv xb):aM P f args m xb m':=fun c vs hm ha=>(h c vs hm ha).mono fun en w' ⟨v,c',h1,h2,h3,h4,h5⟩=>⟨v,c',h1,h2,h3,hs c' v h4,h5⟩
def p5 {α:Type} (k:Nat) (f:α→LV):Prop:=∀ x,(f x).pure=true∧(f x).cells.length=k∧(f x).cells.all LV.scalar=true
theorem p5.T4 {α:Type} {k:Nat} {f:α→LV} (h:p5 k f) (xs:List α):qK k (xs.map f):=by
 intro x hx
 obtain ⟨y,_,rfl⟩:=List.mem_map.1 hx
 exact h y
theorem p5.bk {α:Type} {k:Nat} {f:α→LV} (h:p5 k f) (xs:List α):LV.bk (xs.map f)=true:=cK.2 fun x hx=>by
 obtain ⟨y,_,rfl⟩:=List.mem_map.1 hx
 exact (h y).1
theorem lY {k:IntKind}:p5 1 (LV.int k):=fun _=>⟨by rfl,by rfl,by rfl⟩
theorem okB:p5 1 LV.bool:=fun _=>⟨by rfl,by rfl,by rfl⟩
def idx {α:Type} (xs:List α) (i:Int):Option α:=if 0≤i then xs[i.toNat]? else .none
def Eb {α:Type} (xs:List α) (a b:Int):Option (List α):=if 0≤a∧a≤b∧b≤xs.length then some ((xs.take b.toNat).drop a.toNat) else .none
def app {α:Type} (xs ys:List α):Option (List α):=if xs.length+ys.length≤549755813888 then some (xs++ys) else .none
def quo (k:IntKind) (a b:Int):Option Int:=if b=0 then .none else some (k.wrap (a.tdiv b))
def Qo (a b:Int):Option Int:=if b=0 then .none else some (a.tmod b)
def C7 {α:Type} (z:α) (n:Int):Option (List α):=if 0≤n∧n≤549755813888 then some (List.replicate n.toNat z) else .none
def put {α:Type} (xs:List α) (i:Int) (f:α→α):Option (List α):=(idx xs i).bind fun x=>some (xs.set i.toNat (f x))
abbrev i64 (n:Int):Int:=IntKind.i64.wrap n
theorem ao {α β:Type} {o:Option α} {f:α→Option β} {r:β} (h:o.bind f=some r):∃ a,o=some a∧f a=some r:=by
 cases o with
 | none=>cases h
 | some a=>exact ⟨a,rfl,h⟩
theorem aB {α:Type} {b:Bool} {x y:Option α} {r:α} (h:(if b=true then x else y)=some r) (hb:b=true):x=some r:=by rw [if_pos hb] at h; exact h
theorem aA {α:Type} {b:Bool} {x y:Option α} {r:α} (h:(if b=true then x else y)=some r) (hb:b=false):y=some r:=by rw [if_neg (by simp [hb])] at h; exact h
theorem bF {b:Bool} (h:¬ b=true):b=false:=by cases b <;> simp_all
section
variable {P:Program} {N:Nat} {pr:Nat→Prop} {ro:List Nat} {ops:Array Oper} {e:Env} {m:Mem} {ev:Operand→LV} {d:Option Nat} {i j q:Nat} {want:Bool} {op:Op} {ty:TypeId} {pos:String} {af:Array Edge} {g:Option (Nat × Bool)} {l:List Oper} {ey:List Nat} {KE:Env→Mem→Prop} {K:LV→Mem→Prop}
def cV (P:Program) (N:Nat) (pr:Nat→Prop) (ops:Array Oper) (l:List Oper) (K:Env→Mem→Prop) (e:Env) (m:Mem):Prop :=
 (∀ q ∈ ops,∀ i,q.dst=some i→i<N)→(∀ o ∈ l,o ∈ ops)→∃ e' m',K e' m'∧∀ (c:Cx) (a:Act),l9 N c e m a→wpList P ops (fun x a' w'=>x=.normal∧∃ c':Cx,c'.w=w'∧l9 N c' e' m' a'∧Grow pr c c') l a c.w
theorem gk:∀ (l:List Oper) (a:Act) (w:World) (Q Q':Exit→Act→World→Prop),(∀ x a w,Q x a w→Q' x a w)→wpList P ops Q l a w→wpList P ops Q' l a w:=by
 intro l
 induction l with
 | nil=>intro a w Q Q' hq hh; exact hq _ _ _ hh
 | cons o l ih =>
  intro a w Q Q' hq hh
  simp only [wpList] at hh ⊢
  split
  ·rename_i NX
   rw [if_pos NX] at hh
   rcases hh with hh | ⟨h1,a0,w0,h2⟩
   ·left
    unfold Oper.wp at hh ⊢
    generalize (execOp a.eval o).run P w=r at hh ⊢
    cases r with
    | ok nx w' =>
     cases nx <;> simp only [Oper.upon] at hh ⊢ <;> first
      | exact ih _ _ _ _ hq hh
      | exact Calls.mono hh (fun en Mg he=>by cases en <;> first | exact ih _ _ _ _ hq he | exact hq _ _ _ he | exact he.imp fun _=>Exists.imp fun _=>hq _ _ _)
      | exact Rows.mono hh (fun _ _ he=>ih _ _ _ _ hq he)
    | halt x w'=>cases x <;> simp only [Oper.upon] at hh ⊢ <;> first | exact hq _ _ _ hh | exact hh
   ·exact .inr ⟨h1,a0,w0,hq _ _ _ h2⟩
  ·rename_i NX
   rw [if_neg NX] at hh
   exact ih _ _ _ _ hq hh
theorem cV.step {o:Oper} (h:Bt P pr ro ops o (cV P N pr ops l KE) e m):cV P N pr ops (o :: l) KE e m:=by
 intro hd hl
 obtain ⟨lv,m1,h1,NN⟩:=xg hd (hd o (hl o (by simp))) h
 obtain ⟨e',m',hK,jJ⟩:=h1 hd (fun q hq=>hl q (by simp [hq]))
 refine ⟨e',m',hK,fun c a hr=>?_⟩
 simp only [wpList]
 refine NN c a _ _ hr ?_
 intro a' c' rr hs
 refine gk _ _ _ _ _ ?_ (jJ c' a' rr)
 rintro x MJ Mg ⟨hx,c2,qJ,fD,pw⟩
 exact ⟨hx,c2,qJ,fD,hs.grow.trans pw⟩
theorem cV.wk {e':Env} {m':Mem} (hw:Wk pr e m e' m') (h:cV P N pr ops l KE e' m'):cV P N pr ops l KE e m:=by
 intro hd hl
 obtain ⟨e2,m2,hK,dL⟩:=h hd hl
 refine ⟨e2,m2,hK,fun c a hr=>?_⟩
 obtain ⟨c1,Fy,ee,zB⟩:=hw N c a hr
 rw [← Fy]
 refine gk _ _ _ _ _ ?_ (dL c1 a ee)
 rintro x a' w' ⟨hx,c2,qJ,fD,pw⟩
 exact ⟨hx,c2,qJ,fD,zB.trans pw⟩
theorem s0 (h:KE e m):cV P N pr ops [] KE e m:=fun _ _=>⟨e,m,h,fun c a hr=>⟨rfl,c,rfl,hr,.refl pr c⟩⟩
theorem sN (h:LOp P pr [] ⟨some i,op,ty,pos,af,.none⟩ (c9 e) m fun lv m'=>cV P N pr ops l KE (e.put i lv) m'):cV P N pr ops (⟨some i,op,ty,pos,af,.none⟩ :: l) KE e m:=cV.step (ro:=[]) h
theorem sB (h:LOp P pr [i] ⟨some i,op,ty,pos,af,.none⟩ (c9 e) m fun lv m'=>cV P N pr ops l KE (e.put i lv) m'):cV P N pr ops (⟨some i,op,ty,pos,af,.none⟩ :: l) KE e m:=cV.step (ro:=[i]) h
theorem s_ (h:LOp P pr [] ⟨.none,op,ty,pos,af,.none⟩ (c9 e) m fun lv m'=>cV P N pr ops l KE e m'):cV P N pr ops (⟨.none,op,ty,pos,af,.none⟩ :: l) KE e m:=cV.step (ro:=[]) h
theorem sT (hj:(ops[j]?).bind (·.dst)=some q) (hg:e q=.bool want) (h:LOp P pr [] ⟨some i,op,ty,pos,af,some (j,want)⟩ (c9 e) m fun lv m'=>cV P N pr ops l KE (e.put i lv) m'):cV P N pr ops (⟨some i,op,ty,pos,af,some (j,want)⟩ :: l) KE e m:=cV.step (ro:=[]) (by
 rw [od,hj]; simp only [hg,if_true]; exact h)
theorem sF {t:Bool} (hj:(ops[j]?).bind (·.dst)=some q) (hg:e q=.bool t) (hn:t=!want) (h:cV P N pr ops l KE (e.put i (.cX [])) m):cV P N pr ops (⟨some i,op,ty,pos,af,some (j,want)⟩ :: l) KE e m:=cV.step (ro:=[]) (by
 subst hn
 rw [od,hj]; simp only [hg]; cases want <;> exact h)
theorem sU (hj:(ops[j]?).bind (·.dst)=some q) (hg:e q=.cX []) (h:cV P N pr ops l KE (e.put i (.cX [])) m):cV P N pr ops (⟨some i,op,ty,pos,af,some (j,want)⟩ :: l) KE e m:=cV.step (ro:=[]) (by
 rw [od,hj]; simp only [hg]; exact h)
theorem m0 (h:KE e m):cI P pr ro ops (List.zip [] []) KE e m:=h
theorem aF (h:LOp P pr ro ⟨some i,op,ty,pos,af,.none⟩ (c9 e) Mem.none fun lv m'=>m'=Mem.none∧cI P pr ro ops (List.zip l ey) KE (e.put i lv) m):cI P pr ro ops (List.zip (⟨some i,op,ty,pos,af,.none⟩ :: l) (0 :: ey)) KE e m:=h
theorem Pl (h:LOp P pr ro ⟨some i,op,ty,pos,af,.none⟩ (c9 e) m fun lv m'=>m'=m∧cI P pr ro ops (List.zip l ey) KE (e.put i lv) m):cI P pr ro ops (List.zip (⟨some i,op,ty,pos,af,.none⟩ :: l) (1 :: ey)) KE e m:=h
theorem Ht (h:LOp P pr ro ⟨some i,op,ty,pos,af,.none⟩ (c9 e) m fun lv m'=>cI P pr ro ops (List.zip l ey) KE (e.put i lv) m'):cI P pr ro ops (List.zip (⟨some i,op,ty,pos,af,.none⟩ :: l) (2 :: ey)) KE e m:=h
theorem mT {md:Nat} (hj:(ops[j]?).bind (·.dst)=some q) (hg:e q=.bool want) (h:cI P pr ro ops (List.zip (⟨d,op,ty,pos,af,.none⟩ :: l) (md :: ey)) KE e m):cI P pr ro ops (List.zip (⟨d,op,ty,pos,af,some (j,want)⟩ :: l) (md :: ey)) KE e m:=by
 show fV P pr ro ops md _ _ e m
 rw [rZ,hj]; simp only [hg,if_true]; exact h
theorem mF {md:Nat} {t:Bool} (hj:(ops[j]?).bind (·.dst)=some q) (hg:e q=.bool t) (hn:t=!want) (h:cI P pr ro ops (List.zip l ey) KE (e.put i (.cX [])) m):cI P pr ro ops (List.zip (⟨some i,op,ty,pos,af,some (j,want)⟩ :: l) (md :: ey)) KE e m:=by
 subst hn
 show fV P pr ro ops md _ _ e m
 rw [rZ,hj]; simp only [hg]; cases want <;> exact h
theorem mU {md:Nat} (hj:(ops[j]?).bind (·.dst)=some q) (hg:e q=.cX []) (h:cI P pr ro ops (List.zip l ey) KE (e.put i (.cX [])) m):cI P pr ro ops (List.zip (⟨some i,op,ty,pos,af,some (j,want)⟩ :: l) (md :: ey)) KE e m:=by
 show fV P pr ro ops md _ _ e m
 rw [rZ,hj]; simp only [hg]; exact h
variable {x y a:Operand} {t t':TypeId} {k k':IntKind} {v:LV} {u w:Int} {b c:Bool} {cs dr:List LV} {n id o off el ft kk:Nat}
theorem oM (hx:ev x=v) (h:K v m):LOp P pr ro ⟨d,.move x,ty,pos,af,g⟩ ev m K:=by rw [LOp_move,hx]; exact h
theorem oA (hx:ev x=v) (h:K v m):LOp P pr ro ⟨d,.assign x,ty,pos,af,g⟩ ev m K:=by rw [LOp_assign,hx]; exact h
theorem aX {z:Operand} (hc:ev x=.bool true) (ha:ev y=v) (h:K v m):LOp P pr ro ⟨d,.pick x y z,ty,pos,af,g⟩ ev m K:=by rw [LOp_pick,hc]; simp only [if_true]; rw [ha]; exact h
theorem aQ {z:Operand} (hc:ev x=.bool false) (ha:ev z=v) (h:K v m):LOp P pr ro ⟨d,.pick x y z,ty,pos,af,g⟩ ev m K:=by rw [LOp_pick,hc]; simp only [Bool.false_eq_true,if_false]; rw [ha]; exact h
theorem iE {z:LV} (hi:100+i=id) (hz:tzero P t=some z) (hc:z.cells=cs) (hf:m id=.none) (h:K (.ptr id 0) (m.put id (.box cs))):LOp P pr ro ⟨some i,.alloc t,ty,pos,af,g⟩ ev m K:=by
 subst hi; subst hc; rw [LOp_alloc,hz]; exact ⟨hf,h⟩
theorem c7 (hr:ro.contains i=true) (hx:ev x=v) (hc:v.cells=cs) (hs:cs.all LV.scalar=true) (h:K (.ag cs) m):LOp P pr ro ⟨some i,.box t x,ty,pos,af,g⟩ ev m K:=by
 subst hc; rw [LOp_box,hx,if_pos hr]; exact ⟨hs,h⟩
theorem Rb (hr:ro.contains i=false) (hi:100+i=id) (hx:ev x=v) (hc:v.cells=cs) (hs:cs.all LV.scalar=true) (hf:m id=.none) (h:K (.ptr id 0) (m.put id (.box cs))):LOp P pr ro ⟨some i,.box t x,ty,pos,af,g⟩ ev m K:=by
 subst hi; subst hc; rw [LOp_box,hx,if_neg (by rw [hr]; simp)]; exact ⟨hs,hf,h⟩
theorem fT:lX P t cs []=some cs:=rfl
theorem lf {res:List LV} {r:List (Nat × LV)} (hf:tfield P t i=some (off,ft)) (hs:tsize P ft=v.cells.length) (hk:tok P ft=true) (hl:Nat.ble (off+v.cells.length) cs.length=true) (wW:v.cells.all LV.scalar=true) (hr:rep cs off v.cells=dr) (h:lX P t dr r=some res):lX P t cs ((i,v) :: r)=some res:=by
 subst hr
 simp only [lX,hf]
 rw [if_pos ⟨hs.symm,Nat.le_of_ble_eq_true hl,hk,wW⟩]; exact h
theorem fU {z:List LV} {ps:List (Nat × Operand)} {vs:List (Nat × LV)} (hb:tbuild P t=true) (hz:tzero P t=some (.agg z)) (hv:(ps.map fun p=>(p.1,ev p.2))=vs) (hf:lX P t z vs=some cs) (h:K (.agg cs) m):LOp P pr ro ⟨d,.build t ps.toArray,ty,pos,af,g⟩ ev m K:=by
 rw [LOp_build,hz]; refine ⟨hb,?_⟩; simp only [hv,hf]; exact h
theorem jZ {α:Type} {f:α→LV} {ys:List α} {ps:List (Nat × Operand)} (he:telem P t=some el) (hr:gI P el=true) (hk:tsize P el=kk) (hb:Nat.ble (n * kk) 16777216=true) (hi:ps.map (·.1)=List.range n) (hv:(ps.map fun p=>ev p.2)=ys.map f) (gM:p5 kk f) (h:K (.ak kk (ys.map f)) m):LOp P pr ro ⟨d,.buildSlice t n ps.toArray,ty,pos,af,g⟩ ev m K:=by
 subst hk
 rw [LOp_buildSlice,he]; exact ⟨hr,Nat.le_of_ble_eq_true hb,hi,by rw [hv]; exact gM.T4 ys,by rw [hv]; exact h⟩
theorem bb (hx:ev a=.ag (v :: cs)) (ht:tok P t=true) (ha:tagg P t=false) (h:K v m):LOp P pr ro ⟨d,.load t a,ty,pos,af,g⟩ ev m K:=by
 rw [LOp_load,hx]; simp only [loadC_def,ha,Bool.false_eq_true,if_false]; exact ⟨ht,h⟩
theorem bd (hx:ev a=.ag cs) (ht:tok P t=true) (ha:tagg P t=true) (hs:tsize P t=n) (hl:Nat.ble n cs.length=true) (hc:cs.take n=dr) (h:K (.agg dr) m):LOp P pr ro ⟨d,.load t a,ty,pos,af,g⟩ ev m K:=by
 subst hc; subst hs
 rw [LOp_load,hx]; simp only [loadC_def,ha,if_true]; exact ⟨ht,Nat.le_of_ble_eq_true hl,h⟩
theorem dM {r:List LV} (hx:ev a=.ptr id o) (hm:m id=some (.box cs)) (hl:Nat.ble o cs.length=true) (hc:cs.drop o=v :: r) (ht:tok P t=true) (ha:tagg P t=false) (h:K v m):LOp P pr ro ⟨d,.load t a,ty,pos,af,g⟩ ev m K:=by
 rw [LOp_load,hx]; simp only [hm,loadC_def,hc,ha,Bool.false_eq_true,if_false]; exact ⟨Nat.le_of_ble_eq_true hl,ht,h⟩
theorem tg (hx:ev a=.ptr id o) (hm:m id=some (.box cs)) (hl:Nat.ble o cs.length=true) (ht:tok P t=true) (ha:tagg P t=true) (hs:tsize P t=n) (BP:Nat.ble n (cs.drop o).length=true) (hc:(cs.drop o).take n=dr) (h:K (.agg dr) m):LOp P pr ro ⟨d,.load t a,ty,pos,af,g⟩ ev m K:=by
 subst hc; subst hs
 rw [LOp_load,hx]; simp only [hm,loadC_def,ha,if_true]; exact ⟨Nat.le_of_ble_eq_true hl,ht,Nat.le_of_ble_eq_true BP,h⟩
theorem we {α:Type} {f:α→LV} {xs:List α} {z:α} {r:List LV} (hx:ev a=.bJ id xs.length j o) (hm:m id=some (.arr el kk (xs.map f))) (hz:xs[j]?=some z) (wW:(f z).cells.all LV.scalar=true) (hl:Nat.ble o (f z).cells.length=true) (hc:(f z).cells.drop o=v :: r) (ht:tok P t=true) (ha:tagg P t=false) (h:K v m):LOp P pr ro ⟨d,.load t a,ty,pos,af,g⟩ ev m K:=by
 rw [LOp_load,hx]; simp only [hm,List.length_map,List.getElem?_map,hz,Option.map_some,loadC_def]
 exact ⟨trivial,f z,rfl,wW,Nat.le_of_ble_eq_true hl,ht,by rw [ha,hc]; exact h⟩
theorem pK {α:Type} {f:α→LV} {xs:List α} {z:α} (hx:ev a=.bJ id xs.length j o) (hm:m id=some (.arr el kk (xs.map f))) (hz:xs[j]?=some z) (wW:(f z).cells.all LV.scalar=true) (hl:Nat.ble o (f z).cells.length=true) (ht:tok P t=true) (ha:tagg P t=true) (hs:tsize P t=n) (BP:Nat.ble n ((f z).cells.drop o).length=true) (hc:((f z).cells.drop o).take n=dr) (h:K (.agg dr) m):LOp P pr ro ⟨d,.load t a,ty,pos,af,g⟩ ev m K:=by
 subst hc; subst hs
 rw [LOp_load,hx]; simp only [hm,List.length_map,List.getElem?_map,hz,Option.map_some,loadC_def]
 exact ⟨trivial,f z,rfl,wW,Nat.le_of_ble_eq_true hl,ht,by rw [if_pos ha]; exact ⟨Nat.le_of_ble_eq_true BP,h⟩⟩
theorem cG (hx:ev a=.ptr id o) (hv:ev x=v) (wW:v.cells.all LV.scalar=true) (ht:tok P t=true) (hs:tsize P t=v.cells.length) (hm:m id=some (.box cs)) (hl:Nat.ble (o+v.cells.length) cs.length=true) (hc:rep cs o v.cells=dr) (h:K .eF (m.put id (.box dr))):LOp P pr ro ⟨d,.store t a x,ty,pos,af,g⟩ ev m K:=by
 subst hc
 rw [LOp_store,hv,hx]; simp only [hm]; exact ⟨wW,ht,hs,Nat.le_of_ble_eq_true hl,h⟩
theorem FM {α β:Type} (f:α→β) (xs:List α) (j:Nat) (z:α):(xs.map f).set j (f z)=(xs.set j z).map f:=by
 simp [List.map_set]
theorem qd {α:Type} {f:α→LV} {xs:List α} {z z':α} (hx:ev a=.bJ id xs.length j o) (hv:ev x=v) (wW:v.cells.all LV.scalar=true) (hp:LV.bk v.cells=true) (ht:tok P t=true) (hs:tsize P t=v.cells.length) (hm:m id=some (.arr el kk (xs.map f))) (hz:xs[j]?=some z) (hw:yZ (f z) o v=some (f z')) (h:K .eF (m.put id (.arr el kk ((xs.set j z').map f)))):LOp P pr ro ⟨d,.store t a x,ty,pos,af,g⟩ ev m K:=by
 rw [LOp_store,hv,hx]; simp only [hm]
 exact ⟨wW,ht,hs,by simp,hp,f z,f z',by simp [hz],hw,by rw [FM]; exact h⟩
theorem FX (hx:ev x=.ptr id o) (h:K (.ptr id o) m):LOp P pr ro ⟨d,.nilCheck x,ty,pos,af,g⟩ ev m K:=by rw [LOp_nilCheck,hx]; exact h
theorem cD (hx:ev x=.int k u) (hy:ev y=.int k w) (h:K (.int k (k.wrap (u+w))) m):LOp P pr ro ⟨d,.binOp .add t x y t',ty,pos,af,g⟩ ev m K:=by rw [LOp_binOp,hx,hy]; exact ⟨rfl,h⟩
theorem iA (hx:ev x=.int k u) (hy:ev y=.int k w) (h:K (.int k (k.wrap (u - w))) m):LOp P pr ro ⟨d,.binOp .sub t x y t',ty,pos,af,g⟩ ev m K:=by rw [LOp_binOp,hx,hy]; exact ⟨rfl,h⟩
theorem TD {r:Int} (hx:ev x=.int k u) (hy:ev y=.int k w) (hr:Qo u w=some r) (h:K (.int k r) m):LOp P pr ro ⟨d,.binOp .rem t x y t',ty,pos,af,g⟩ ev m K:=by
 rw [LOp_binOp,hx,hy]; unfold Qo at hr; split at hr
 ·cases hr
 ·rename_i h0; cases hr; exact ⟨rfl,h0,h⟩
theorem gp (hx:ev x=.int k u) (hy:ev y=.int k w) (h:K (.bool (u == w)) m):LOp P pr ro ⟨d,.binOp .eql t x y t',ty,pos,af,g⟩ ev m K:=by rw [LOp_binOp,hx,hy]; exact ⟨rfl,h⟩
theorem jR (hx:ev x=.int k u) (hy:ev y=.int k w) (h:K (.bool (u != w)) m):LOp P pr ro ⟨d,.binOp .neq t x y t',ty,pos,af,g⟩ ev m K:=by rw [LOp_binOp,hx,hy]; exact ⟨rfl,h⟩
theorem fi (hx:ev x=.int k u) (hy:ev y=.int k w) (h:K (.bool (decide (u<w))) m):LOp P pr ro ⟨d,.binOp .lss t x y t',ty,pos,af,g⟩ ev m K:=by rw [LOp_binOp,hx,hy]; exact ⟨rfl,h⟩
theorem Ib (hx:ev x=.int k u) (hy:ev y=.int k w) (h:K (.bool (decide (u≤w))) m):LOp P pr ro ⟨d,.binOp .leq t x y t',ty,pos,af,g⟩ ev m K:=by rw [LOp_binOp,hx,hy]; exact ⟨rfl,h⟩
theorem iP (hx:ev x=.int k u) (hy:ev y=.int k w) (h:K (.bool (decide (u > w))) m):LOp P pr ro ⟨d,.binOp .gtr t x y t',ty,pos,af,g⟩ ev m K:=by rw [LOp_binOp,hx,hy]; exact ⟨rfl,h⟩
theorem pJ (hx:ev x=.int k u) (hy:ev y=.int k w) (h:K (.bool (decide (u ≥ w))) m):LOp P pr ro ⟨d,.binOp .geq t x y t',ty,pos,af,g⟩ ev m K:=by rw [LOp_binOp,hx,hy]; exact ⟨rfl,h⟩
theorem FV (hx:ev x=.bool b) (hy:ev y=.bool c) (ht:vw P t=true) (h:K (.bool (b == c)) m):LOp P pr ro ⟨d,.binOp .eql t x y t',ty,pos,af,g⟩ ev m K:=by rw [LOp_binOp,hx,hy]; exact ⟨ht,h⟩
theorem Pr (hx:ev x=.bool b) (hy:ev y=.bool c) (ht:vw P t=true) (h:K (.bool (!(b == c))) m):LOp P pr ro ⟨d,.binOp .neq t x y t',ty,pos,af,g⟩ ev m K:=by rw [LOp_binOp,hx,hy]; exact ⟨ht,h⟩
theorem Da (hx:ev x=.agg cs) (hy:ev y=.agg dr) (ht:nQ P t cs dr b) (h:K (.bool b) m):LOp P pr ro ⟨d,.binOp .eql t x y t',ty,pos,af,g⟩ ev m K:=by rw [LOp_binOp,hx,hy]; exact ⟨b,ht,h⟩
theorem Ic (hx:ev x=.agg cs) (hy:ev y=.agg dr) (ht:nQ P t cs dr b) (h:K (.bool (!b)) m):LOp P pr ro ⟨d,.binOp .neq t x y t',ty,pos,af,g⟩ ev m K:=by rw [LOp_binOp,hx,hy]; exact ⟨b,ht,h⟩
theorem kB (hx:ev x=.bool b) (h:K (.bool (!b)) m):LOp P pr ro ⟨d,.unOp .not t x,ty,pos,af,g⟩ ev m K:=by rw [LOp_not,hx]; exact h
theorem TC (hk:tok P t=true) (ht:tint P t'=some k') (hx:ev x=.int k u) (h:K (.int k' (k'.wrap u)) m):LOp P pr ro ⟨d,.convert t t' x,ty,pos,af,g⟩ ev m K:=by rw [LOp_convert,ht,hx]; exact ⟨hk,h⟩
theorem Qt {α:Type} {xs r:List α} (h:Eb xs u w=some r):0≤u∧u≤w∧w≤xs.length∧r=(xs.take w.toNat).drop u.toNat:=by
 unfold Eb at h; split at h
 ·rename_i h0; cases h; exact ⟨h0.1,h0.2.1,h0.2.2,rfl⟩
 ·cases h
theorem TE {α:Type} {f:α→LV} {xs r:List α} {lo hi:Option Operand} (he:telem P t=some el) (hk:tok P el=true) (hs:tsize P el=kk) (hx:ev x=.ak kk (xs.map f)) (rJ:(match lo with | .none=>u=0 | some z=>ev z=.int .i64 u)) (Hn:(match hi with | .none=>w=(xs.length:Int) | some z=>ev z=.int .i64 w)) (hr:Eb xs u w=some r) (h:K (.ak kk (r.map f)) m):LOp P pr ro ⟨d,.slice t x lo hi .none,ty,pos,af,g⟩ ev m K:=by
 obtain ⟨h0,h1,h2,rfl⟩:=Qt hr
 rw [LOp_slice,he,hx]
 refine ⟨rfl,hk,by trivial,by simp [hs],u.toNat,w.toNat,?_,?_,by omega,by simp; omega,?_⟩
 ·cases lo with
  | none=>simp only at rJ; subst rJ; rfl
  | some z=>simp only at rJ ⊢; rw [rJ,Int.toNat_of_nonneg h0]
 ·cases hi with
  | none=>simp only at Hn; subst Hn; simp
  | some z=>simp only at Hn ⊢; rw [Hn,Int.toNat_of_nonneg (by omega)]
 ·rw [← List.map_take,← List.map_drop]; exact h
theorem dD (hf:tfield P t n=some (off,ft)) (hk:tok P ft=true) (hs:tsize P ft=kk+1) (hx:ev x=.ptr id o) (hi:o+off=i) (h:K (.ptr id i) m):LOp P pr ro ⟨d,.fieldAddr t x n,ty,pos,af,g⟩ ev m K:=by
 subst hi; rw [LOp_fieldAddr,hf,hx]; exact ⟨hk,by rw [hs]; simp,h⟩
theorem aw (hf:tfield P t n=some (off,ft)) (hk:tok P ft=true) (hs:tsize P ft=kk+1) (hx:ev x=.ag cs) (hl:Nat.ble off cs.length=true) (hi:cs.drop off=dr) (h:K (.ag dr) m):LOp P pr ro ⟨d,.fieldAddr t x n,ty,pos,af,g⟩ ev m K:=by
 subst hi; rw [LOp_fieldAddr,hf,hx]; exact ⟨hk,by rw [hs]; simp,Nat.le_of_ble_eq_true hl,h⟩
theorem Ia {α:Type} {f:α→LV} {xs:List α} {fy Wp:Nat} (hf:tfield P t n=some (off,ft)) (hk:tok P ft=true) (hs:tsize P ft=kk+1) (hx:ev x=.bJ id xs.length j o) (hm:m id=some (.arr fy Wp (xs.map f))) (hi:o+off=i) (h:K (.bJ id xs.length j i) m):LOp P pr ro ⟨d,.fieldAddr t x n,ty,pos,af,g⟩ ev m K:=by
 subst hi; rw [LOp_fieldAddr,hf,hx]; simp only [hm]; exact ⟨hk,by rw [hs]; simp,by simp,h⟩
theorem dB {α:Type} {xs:List α} {z:α} (h:idx xs u=some z):0≤u∧xs[u.toNat]?=some z:=by
 unfold idx at h; split at h
 ·exact ⟨by assumption,h⟩
 ·cases h
theorem eG {α:Type} {f:α→LV} {xs:List α} {z:α} (he:telem P t=some el) (hk:tok P el=true) (hs:tsize P el=kk) (hx:ev x=.ak kk (xs.map f)) (hy:ev y=.int k u) (gM:p5 kk f) (hz:idx xs u=some z) (hc:(f z).cells=cs) (h:K (.ag cs) m):LOp P pr ro ⟨d,.indexAddr t x y,ty,pos,af,g⟩ ev m K:=by
 obtain ⟨h0,h1⟩:=dB hz
 subst hc; subst hs
 rw [LOp_indexAddr,he,hx,hy]
 exact ⟨hk,rfl,h0,f z,by simp [h1],(gM z).2.2,h⟩
theorem gS {α:Type} {f:α→LV} {xs:List α} {z:α} (he:telem P t=some el) (hk:tok P el=true) (hs:tsize P el=kk) (hx:ev x=.arr id xs.length) (hm:m id=some (.arr el kk (xs.map f))) (hy:ev y=.int k u) (hz:idx xs u=some z) (h:K (.bJ id xs.length u.toNat 0) m):LOp P pr ro ⟨d,.indexAddr t x y,ty,pos,af,g⟩ ev m K:=by
 obtain ⟨h0,h1⟩:=dB hz
 subst hs
 have:=(List.getElem?_eq_some_iff.1 h1).1
 rw [LOp_indexAddr,he,hx,hy]; simp only [hm]
 exact ⟨hk,by simp,trivial,h0,by omega,h⟩
theorem gy {vs:List LV} (hx:ev x=.cX vs) (hv:vs[n]?=some v) (h:K v m):LOp P pr ro ⟨d,.extract x n,ty,pos,af,g⟩ ev m K:=by rw [LOp_extract,hx]; exact ⟨v,hv,h⟩
theorem Pq {f:Nat} {cap:List Operand} {vs:List LV} (hv:cap.map ev=vs) (h:K (.fn f vs) m):LOp P pr ro ⟨d,.makeFunc (.func f) #[] cap.toArray,ty,pos,af,g⟩ ev m K:=by rw [LOp_makeFunc,hv]; exact h
theorem Rc {α:Type} {f:α→LV} {z:α} {r:List α} (hi:100+i=id) (he:telem P t=some el) (hz:tzero P el=some (f z)) (hr:gI P el=true) (hk:tsize P el=kk) (hx:ev x=.int .i64 u) (hy:ev y=.int .i64 u) (hp:(f z).pure=true) (hl:C7 z u=some r) (hf:m id=.none) (h:K (.arr id r.length) (m.put id (.arr el kk (r.map f)))):LOp P pr ro ⟨some i,.makeSlice t x y,ty,pos,af,g⟩ ev m K:=by
 subst hi; subst hk
 unfold C7 at hl; split at hl
 ·rename_i h0; cases hl
  rw [LOp_makeSlice,he]
  simp only [Option.getD_some,hz,hx,hy]
  exact ⟨trivial,h0.1,h0.2,hr,hp,hf,by simpa using h⟩
 ·cases hl
theorem bW {α:Type} {f:α→LV} {xs:List α} (he:telem P t=some el) (hx:ev x=.ak kk (xs.map f)) (h:K (.int .i64 xs.length) m):LOp P pr ro ⟨d,.call ⟨.builtin .len,#[x],#[t]⟩,ty,pos,af,g⟩ ev m K:=by rw [LOp_len,hx]; exact ⟨by rw [he]; rfl,by simpa using h⟩
theorem FW {α:Type} {f:α→LV} {xs:List α} {fy:Nat} (he:telem P t=some el) (hx:ev x=.arr id xs.length) (hm:m id=some (.arr fy kk (xs.map f))) (h:K (.int .i64 xs.length) m):LOp P pr ro ⟨d,.call ⟨.builtin .len,#[x],#[t]⟩,ty,pos,af,g⟩ ev m K:=by
 rw [LOp_len,hx]; simp only [hm]; exact ⟨by rw [he]; rfl,by simp,h⟩
theorem Bw {α:Type} {xs ys r:List α} (h:app xs ys=some r):xs.length+ys.length≤549755813888∧r=xs++ys:=by
 unfold app at h; split at h
 ·cases h; exact ⟨by assumption,rfl⟩
 ·cases h
theorem nw {α:Type} {f:α→LV} {xs ys r:List α} (he:telem P t=some el) (hr:gI P el=true) (hs:tsize P el=kk) (hx:ev x=.arr id xs.length) (hm:m id=some (.arr el kk (xs.map f))) (hp:¬ pr id) (hy:ev y=.ak kk (ys.map f)) (hl:app xs ys=some r) (h:K (.arr id r.length) (m.put id (.arr el kk (r.map f)))):LOp P pr ro ⟨some i,.call ⟨.builtin .append,#[x,y],#[t,t]⟩,ty,pos,af,g⟩ ev m K:=by
 obtain ⟨h0,rfl⟩:=Bw hl
 subst hs
 rw [LOp_append,he,hy,hx]
 refine ⟨rfl,hr,rfl,?_⟩
 simp only [qx,hm]
 exact ⟨hp,by trivial,by trivial,by simp,by simpa using h0,by simpa using h⟩
theorem C9 {α:Type} {f:α→LV} {ys r:List α} (hi:100+i=id) (he:telem P t=some el) (hr:gI P el=true) (hs:tsize P el=kk) (hx:ev x=.nil) (hy:ev y=.ak kk (ys.map f)) (hl:app [] ys=some r) (hf:m id=.none) (h:K (.arr id r.length) (m.put id (.arr el kk (r.map f)))):LOp P pr ro ⟨some i,.call ⟨.builtin .append,#[x,y],#[t,t]⟩,ty,pos,af,g⟩ ev m K:=by
 obtain ⟨h0,rfl⟩:=Bw hl
 subst hs; subst hi
 rw [LOp_append,he,hy,hx]
 refine ⟨rfl,hr,rfl,?_⟩
 simp only [qx]
 exact ⟨hf,by simpa using h0,by simpa using h⟩
theorem dQ {f : Nat} {cap args gw : List LV} {xs : List Operand} {ts : Array TypeId} (hx : ev x = .fn f cap) (hf : ∃ fn, P.funcs[f]? = some fn ∧ (fn.name == "runtime.NumGoroutine") = false ∧ fn.body.isNone = false) (ha : xs.map ev ++ cap = args) (hs : fv args gw) (hc : aM P f gw (Mem.of []) v (Mem.of [])) (hp : LV.bk args = true) (h : K v m) : LOp P pr ro ⟨d, .call ⟨.value x, xs.toArray, ts⟩, ty, pos, af, g⟩ ev m K := by
 subst ha
 rw [LOp_call,hx]
 exact ⟨hf,sg.MN (hc.sub hs) hp m h⟩
theorem eX {f : Nat} {cap args gw : List LV} {xs : List Operand} {ts : Array TypeId} {ml de : List (Nat × LE)} (hx : ev x = .fn f cap) (hf : ∃ fn, P.funcs[f]? = some fn ∧ (fn.name == "runtime.NumGoroutine") = false ∧ fn.body.isNone = false) (ha : xs.map ev ++ cap = args) (hs : fv args gw) (hc : aM P f gw (Mem.of ml) v (Mem.of de)) (hm : lO m ml) (rn : ∀ p ∈ de, (ml.any fun q => q.1 == p.1) = true ∨ m p.1 = .none) (hr : aV (args.map fun x => (0, x)) ml = true) (h : K v (m.over (Mem.of de))) (vZ : Mem.of ml dp = .none := by exact rfl) : LOp P pr ro ⟨d, .call ⟨.value x, xs.toArray, ts⟩, ty, pos, af, g⟩ ev m K := by
 subst ha
 rw [LOp_call,hx]
 exact ⟨hf,aM.MM (hc.sub hs) hm rn hr h vZ⟩
def j5 (e:Env):List (Nat × LV)→Prop
 | []=>True
 | (i,v) :: r=>Sub (e i) v∧j5 e r
theorem j5.at:∀ {l:List (Nat × LV)},j5 e l→∀ i,Sub (e i) (Env.of l i)
 | [],_,i=>Sub.eF
 | (j,v) :: r,h,i=>by
  simp only [Env.of]
  split
  ·rename_i hi; subst hi; exact h.1
  ·exact j5.at h.2 i
theorem eN:j5 e []:=trivial
def Eg (e:Env):List (Nat × LV)→Prop
 | []=>True
 | (i,v) :: r=>e i=v∧Eg e r
theorem eQ:∀ {l:List (Nat × LV)},Eg e l→j5 e l
 | [],_=>trivial
 | (i,v) :: r,h=>⟨h.1 ▸ Sub.rfl,eQ h.2⟩
theorem eC {r:List (Nat × LV)} (h:e i=v) (hr:j5 e r):j5 e ((i,v) :: r):=⟨h ▸ Sub.rfl,hr⟩
theorem eL {r:List (Nat × LV)} (h:e i=.nil) (hr:j5 e r):j5 e ((i,.ak n []) :: r):=⟨h ▸ Sub.nil,hr⟩
theorem Ig (el:List (Nat × LV)) (i:Nat):Env.of (el.map fun p=>(p.1,e p.1)) i=if (el.any fun p=>p.1 == i)=true then e i else .eF:=by
 induction el with
 | nil=>rfl
 | cons p r ih =>
  simp only [List.map_cons,Env.of,List.any_cons]
  by_cases h:i=p.1
  ·simp [h]
  ·rw [if_neg h,ih]
   have:(p.1 == i)=false:=by simpa using fun h'=>h h'.symm
   simp only [this,Bool.false_or]
theorem FY (el:List (Nat × LV)) (i:Nat) (h:¬ (el.any fun p=>p.1 == i)=true):Env.of el i=.eF:=by
 induction el with
 | nil=>rfl
 | cons p r ih =>
  simp only [List.any_cons,Bool.or_eq_true,not_or] at h
  simp only [Env.of]
  rw [if_neg (fun h'=>h.1 (by simp [h'])),ih h.2]
theorem Wk.to {ml:List (Nat × LE)} {el:List (Nat × LV)} (he:j5 e el) (hm:lO m ml) (hr:aV (el.map fun p=>(p.1,e p.1)) ml=true) (mi:∀ id,pr id→m id=.none ∨ Mem.of ml id ≠ .none):Wk pr e m (Env.of el) (Mem.of ml):=by
 refine (Wk.cut (el.map fun p=>(p.1,e p.1)) ml (fun p hp=>?_) hm.all hr mi).trans fun N c a bV=>⟨c,rfl,⟨fun i=>?_,bV.mem,bV.size,bV.defers⟩,.refl pr c⟩
 ·obtain ⟨q,_,rfl⟩:=List.mem_map.1 hp
  rfl
 ·have h1:=bV.env i
  rw [Ig] at h1
  by_cases hk:(el.any fun p=>p.1 == i)=true
  ·rw [if_pos hk] at h1; exact he.at i c _ h1
  ·rw [FY el i hk]; simp [av]
theorem aZ {nu ml:List (Nat × LE)} (h:(nu.all fun p=>ml.any fun q=>q.1 == p.1)=true):∀ id,Mem.of nu id ≠ .none→m id=.none ∨ Mem.of ml id ≠ .none:=by
 intro id bE
 cases hx:Mem.of nu id with
 | none=>exact absurd hx bE
 | some le=>exact .inr (jm (List.all_eq_true.1 h _ (fl hx)))
theorem bM {nu:List (Nat × LE)} (h:Mem.of nu id=.none):¬ (fun id=>Mem.of nu id ≠ .none) id:=fun h'=>h' h
def sf (id:Nat):List (Nat × LV)→List (Nat × LV)→Prop
 | [],[]=>True
 | p :: r,q :: s=>(q.1=p.1∧(q.2=p.2 ∨ (p.2=.nil∧q.2=.arr id 0)))∧sf id r s
 | _,_=>False
theorem wN:sf id [] []:=trivial
theorem wK {p:Nat × LV} {r s:List (Nat × LV)} (h:sf id r s):sf id (p :: r) (p :: s):=⟨⟨rfl,.inl rfl⟩,h⟩
theorem wO {r s:List (Nat × LV)} (h:sf id r s):sf id ((i,.nil) :: r) ((i,.arr id 0) :: s):=⟨⟨rfl,.inr ⟨rfl,rfl⟩⟩,h⟩
theorem sf.len:∀ {el fy:List (Nat × LV)},sf id el fy→fy.length=el.length
 | [],[],_=>rfl
 | _ :: _,_ :: _,h=>by simp [h.2.len]
theorem sf.get:∀ {el fy:List (Nat × LV)},sf id el fy→∀ i:Nat,∀ p q,el[i]?=some p→fy[i]?=some q→q.1=p.1∧(q.2=p.2 ∨ (p.2=.nil∧q.2=.arr id 0))
 | [],[],_,i,p,q,hp,hq=>by simp at hp
 | a :: r,b :: s,h,0,p,q,hp,hq=>by simp at hp hq; subst hp; subst hq; exact h.1
 | a :: r,b :: s,h,i+1,p,q,hp,hq=>by simp at hp hq; exact h.2.get i p q hp hq
theorem Wk.tt {el fy:List (Nat × LV)} {ml:List (Nat × LE)} (id e0 k0:Nat) (bE:Mem.of ml id=.none) (hk:Nat.ble 1 k0=true) (h:sf id el fy):Wk pr (Env.of el) (Mem.of ml) (Env.of fy) (Mem.of ((id,.arr e0 k0 []) :: ml)) :=
 Wk.own id e0 k0 bE (Nat.le_of_ble_eq_true hk) h.len h.get
theorem LH.aU {L0:Nat} {Q:Exit→Env→Mem→Prop} (el:List (Nat × LV)) (ml:List (Nat × LE)) (hd:om N l=true) (h:cV P N pr l.toArray l (fun e m=>Wk pr e m (Env.of el) (Mem.of ml)) e m) (hr:Q .normal (Env.of el) (Mem.of ml)):LH P N pr (.region L0 l.toArray false) Q e m:=by
 obtain ⟨e',m',hK,dL⟩:=h (rH hd) (by simp)
 refine ⟨.normal,_,_,mv.post (e':=e') (m':=m') (fun c a hr=>?_) hK,hr⟩
 refine wp_region ?_
 rw [List.size_toArray,List.range_eq_range',wpOps_eq_wpList l 0 (by simp)]
 exact dL c a hr
theorem LH.aj {L0:Nat} {yc:Code} {Q:Exit→Env→Mem→Prop} (el:List (Nat × LV)) (ml:List (Nat × LE)) (hd:om N l=true) (h:cV P N pr l.toArray l (fun e m=>Wk pr e m (Env.of el) (Mem.of ml)) e m) (hr:LH P N pr yc Q (Env.of el) (Mem.of ml)):LH P N pr (.seq (.region L0 l.toArray false) yc) Q e m :=
 LH.seq (LH.aU el ml hd h hr)
theorem LH.s9 {L0:Nat} {Q:Exit→Env→Mem→Prop} (Ao:P.follows .mixedOrders=true) (ro:List Nat) (ey:List Nat) (el:List (Nat × LV)) (ml:List (Nat × LE)) (hlen:ey.length=l.length) (hd:om N l=true) (gM:z1 l.toArray ey=true)
  (h:cI P pr ro l.toArray (l.zip ey) (fun e m=>Wk pr e m (Env.of el) (Mem.of ml)) e m) (hr:Q .normal (Env.of el) (Mem.of ml)):LH P N pr (.region L0 l.toArray true) Q e m:=by
 obtain ⟨e',m',hK,hc⟩:=kE _ h
 rw [← qt l ey hlen] at hc
 obtain ⟨ex,e2,m2,h1,h2⟩:=LH.Ci (Q:=fun ex e m=>ex=.normal∧e=e'∧m=m') Ao ro ey hd gM hc ⟨rfl,rfl,rfl⟩
 obtain ⟨rfl,rfl,rfl⟩:=h2
 exact ⟨.normal,_,_,h1.post hK,hr⟩
section
variable {Q:Exit→Env→Mem→Prop} {M:Env→Mem→Prop} {I:Nat→Env→Mem→Prop}
theorem au (h:M e m):zd M Q .normal e m:=h
theorem cw (h:Q (.exit i) e m):zd M Q (.exit i) e m:=h
theorem aW (h:Q .ret e m):zd M Q .ret e m:=h
theorem aY (h:Q .normal e m):lE j Q .normal e m:=h
theorem bB (h:Q .ret e m):lE j Q .ret e m:=h
theorem bO (h:Q .normal e m):lE j Q (.exit j) e m:=by simp only [lE,if_true]; exact h
theorem zU (hn:Nat.beq i j=false) (h:Q (.exit i) e m):lE j Q (.exit i) e m:=by simp only [lE]; rw [if_neg (fun h'=>by subst h'; simp at hn)]; exact h
theorem bY (h:Q (.exit i) e m):tN pr I n Q (.exit i) e m:=h
theorem dF (h:Q .ret e m):tN pr I n Q .ret e m:=h
theorem L2 {e':Env} {m':Mem} (hw:Wk pr e m e' m') (h:I n e' m'):tN pr I (n+1) Q .normal e m:=⟨e',m',hw,n,Nat.lt_succ_self n,h⟩
end
def Ends (IP:LV) (uZ:List (Nat × LE)) (lv:LV) (m':Mem):Prop:=Sub lv IP∧m'=Mem.of uZ
theorem bS {KL:List LV→Prop} (h:KL []):jl P e m [] KL:=h
theorem bU {KL:List LV→Prop} {r:List ResultVar} (hv:e i=v) (h:jl P e m r fun l=>KL (v :: l)):jl P e m (.tmp i :: r) KL:=by simp only [jl]; rw [hv]; exact h
theorem Tw {KL:List LV→Prop} {r:List ResultVar} (hv:e i=.ptr id o) (hm:m id=some (.box cs)) (hl:Nat.ble o cs.length=true) (ht:tok P t=true) (ha:tagg P t=true) (hs:tsize P t=n) (BP:Nat.ble n (cs.drop o).length=true) (hc:(cs.drop o).take n=dr) (h:jl P e m r fun l=>KL (.agg dr :: l)):jl P e m (.cell i t :: r) KL:=by
 subst hc; subst hs
 simp only [jl,hv,hm,loadC_def,ha,if_true]; exact ⟨Nat.le_of_ble_eq_true hl,ht,Nat.le_of_ble_eq_true BP,h⟩
theorem cT {KL:List LV→Prop} {r:List ResultVar} (hv:e i=.ag cs) (ht:tok P t=true) (ha:tagg P t=true) (hs:tsize P t=n) (BP:Nat.ble n cs.length=true) (hc:cs.take n=dr) (h:jl P e m r fun l=>KL (.agg dr :: l)):jl P e m (.cell i t :: r) KL:=by
 subst hc; subst hs
 simp only [jl,hv,loadC_def,ha,if_true]; exact ⟨ht,Nat.le_of_ble_eq_true BP,h⟩
theorem aO {fn:Func} {rs:List ResultVar} {IP:LV} {uZ:List (Nat × LE)} (hr:fn.results.toList=rs) (h:jl P e m rs fun l=>(∀ p ∈ uZ,m p.1=some p.2)∧aV [(0,oneOf l)] uZ=true∧(∀ id,pr id→m id=.none ∨ Mem.of uZ id ≠ .none)∧Sub (oneOf l) IP):LZ P fn pr (Ends IP uZ) .ret e m:=by
 have key : ∀ (rs : List ResultVar) (K K' : List LV → Prop), (∀ l, K l → K' l) → jl P e m rs K → jl P e m rs K' := by
  intro rs
  induction rs with
  | nil=>intro K K' hk h; exact hk _ h
  | cons r rs ih =>
   intro K K' hk h
   have hl:∀ (t:TypeId) (cs:List LV) (A B:LV→Prop),(∀ x,A x→B x)→loadC P t cs A→loadC P t cs B:=by
    intro t cs A B o4 hA
    obtain ⟨ht,hA⟩:=hA
    refine ⟨ht,?_⟩
    split at hA
    ·rename_i hg; rw [if_pos hg]; exact ⟨hA.1,o4 _ hA.2⟩
    ·rename_i hg
     rw [if_neg hg]
     match cs,hA with
     | x :: cs,hA=>exact o4 _ hA
   cases r with
   | tmp t=>exact ih _ _ (fun l hl=>hk _ hl) h
   | cell a t =>
    simp only [jl] at h ⊢
    cases hx:e a <;> simp only [hx] at h ⊢
    case ag cs=>exact hl _ _ _ _ (fun lv Nw=>ih _ _ (fun l hl=>hk _ hl) Nw) h
    case ptr id o =>
     cases hm:m id with
     | none=>simp [hm] at h
     | some le =>
      cases le with
      | map _ _ _=>simp [hm] at h
      | nest _ _ _ _=>simp [hm] at h
      | cW _ _ _ _ _ _ _ _=>simp [hm] at h
      | dead=>simp [hm] at h
      | arr _ _ _=>simp [hm] at h
      | box cs =>
       simp only [hm] at h ⊢
       exact ⟨h.1,hl _ _ _ _ (fun lv Nw=>ih _ _ (fun l hl=>hk _ hl) Nw) h.2⟩
 show jl P e m fn.results.toList _
 rw [hr]
 exact key _ _ _ (fun l ⟨h1,h2,h3,h4⟩=>⟨uZ,h1,h2,h3,h4,rfl⟩) h
theorem br {f:Nat} {fn:Func} {code:Code} {args:List LV} {nu uZ:List (Nat × LE)} {IP:LV} (hf:P.funcs[f]?=some fn) (hb:fn.body=some code) (hn:args.length≤fn.ntmps)
  (h:LH P fn.ntmps (fun id=>Mem.of nu id ≠ .none) code (LZ P fn (fun id=>Mem.of nu id ≠ .none) (Ends IP uZ)) (Env.args args) (Mem.of nu)):aM P f args (Mem.of nu) IP (Mem.of uZ):=by
 obtain ⟨lv,m',h1,h2,rfl⟩:=aM.Ie (R:=Ends IP uZ) hf hb hn h
 exact h1.res h2
theorem aN {ml:List (Nat × LE)} (h:lO m ml):∀ p ∈ ml,m p.1=some p.2:=h.all
theorem cz {ml:List (Nat × LE)}:∀ p ∈ ([]:List (Nat × LE)),(ml.any fun q=>q.1 == p.1)=true ∨ m p.1=.none:=by simp
theorem cn {ml de:List (Nat × LE)} {le:LE} (h:(ml.any fun q=>q.1 == i)=true) (h2:∀ p ∈ de,(ml.any fun q=>q.1 == p.1)=true ∨ m p.1=.none):∀ p ∈ (i,le) :: de,(ml.any fun q=>q.1 == p.1)=true ∨ m p.1=.none:=by
 intro p hp; rcases List.mem_cons.1 hp with rfl | hp
 ·exact .inl h
 ·exact h2 p hp
theorem AK {ml de:List (Nat × LE)} {le:LE} (h:m i=.none) (h2:∀ p ∈ de,(ml.any fun q=>q.1 == p.1)=true ∨ m p.1=.none):∀ p ∈ (i,le) :: de,(ml.any fun q=>q.1 == p.1)=true ∨ m p.1=.none:=by
 intro p hp; rcases List.mem_cons.1 hp with rfl | hp
 ·exact .inr h
 ·exact h2 p hp
end
mutual
theorem ot {id k:Nat} {ys:List LV}:∀ (x:LV),x.a8 id=true→x.eI id k ys=x
 | .eF,_ | .int _ _,_ | .bool _,_ | .nil,_ | .pS _,_ | .full _ _,_ | .str _,_ | .it _,_ | .mj,_ | .fh,_ | .ak _ _,_ | .aI _ _ _ _,_=>by simp [LV.eI]
 | .ag cs,h=>by simp only [LV.a8] at h; simp [LV.eI,h]
 | .fS _ cs,h=>by simp only [LV.a8] at h; simp [LV.eI,h]
 | .arr i n,h=>by simp [LV.a8] at h; simp [LV.eI,h]
 | .ptr i n,h=>by simp [LV.a8] at h; simp [LV.eI,h]
 | .bJ i n j o,h=>by simp [LV.a8] at h; simp [LV.eI,h]
 | .mp i,h=>by simp [LV.a8] at h; simp [LV.eI,h]
 | .agg cs,h=>by simp only [LV.a8] at h; simp only [LV.eI]; rw [jh cs h]
 | .cX cs,h=>by simp only [LV.a8] at h; simp only [LV.eI]; rw [jh cs h]
 | .fn _ cs,h=>by simp only [LV.a8] at h; simp only [LV.eI]; rw [jh cs h]
 | .vE _ cs,h=>by simp only [LV.a8] at h; simp only [LV.eI]; rw [jh cs h]
theorem jh {id k:Nat} {ys:List LV}:∀ (xs:List LV),LV.cu id xs=true→LV.fX id k ys xs=xs
 | [],_=>by simp [LV.fX]
 | x :: xs,h=>by
  simp only [LV.cu,Bool.and_eq_true] at h
  simp only [LV.fX]; rw [ot x h.1,jh xs h.2]
end
def ob (id n:Nat) (lv:LV):List (Nat × LV)→List (Nat × LV)→Prop
 | [],[]=>True
 | p :: r,q :: s=>(q.1=p.1∧((q.2=p.2∧p.2.a8 id=true) ∨ (p.2=.arr id n∧q.2=lv)))∧ob id n lv r s
 | _,_=>False
theorem fN {id n:Nat} {lv:LV}:ob id n lv [] []:=trivial
theorem fK {id n:Nat} {lv:LV} {p:Nat × LV} {r s:List (Nat × LV)} (h0:p.2.a8 id=true) (h:ob id n lv r s):ob id n lv (p :: r) (p :: s):=⟨⟨rfl,.inl ⟨rfl,h0⟩⟩,h⟩
theorem fZ {id n i:Nat} {lv:LV} {r s:List (Nat × LV)} (h:ob id n lv r s):ob id n lv ((i,.arr id n) :: r) ((i,lv) :: s):=⟨⟨rfl,.inr ⟨rfl,rfl⟩⟩,h⟩
theorem ob.sub {id k n:Nat} {ys:List LV} (hn:n=ys.length):∀ {el fy:List (Nat × LV)},ob id n (.ak k ys) el fy→∀ i,Sub (Env.of (el.map fun p=>(p.1,p.2.eI id k ys)) i) (Env.of fy i)
 | [],[],_,i=>Sub.rfl
 | p :: r,q :: s,h,i=>by
  obtain ⟨⟨h1,h2⟩,h3⟩:=h
  obtain ⟨pi,pv⟩:=p
  obtain ⟨qi,qv⟩:=q
  simp only at h1 h2
  subst h1
  simp only [List.map_cons,Env.of]
  by_cases hi:i=qi
  ·simp only [hi,if_true]
   rcases h2 with ⟨rfl,h2⟩ | ⟨rfl,rfl⟩
   ·rw [ot _ h2]; exact Sub.rfl
   ·simp only [LV.eI,if_true,hn]; exact Sub.rfl
  ·simp only [hi,if_false]
   exact ob.sub hn h3 i
theorem Wk.lk {pr:Nat→Prop} {α:Type} {f:α→LV} {el fy:List (Nat × LV)} {ml:List (Nat × LE)} (id e0 k0:Nat) (xs:List α) (bE:Mem.of ml id=some (.arr e0 k0 (xs.map f))) (kf:sG id ml=true) (mi:¬ pr id) (h:ob id xs.length (.ak k0 (xs.map f)) el fy) :
  Wk pr (Env.of el) (Mem.of ml) (Env.of fy) (Mem.of (ml.filter fun q=>q.1 != id)) :=
 (Wk.eI id e0 k0 (xs.map f) bE kf mi).trans fun N c a hr=>⟨c,rfl,⟨fun i=>ob.sub (by simp) h i c _ (hr.env i),hr.mem,hr.size,hr.defers⟩,.refl pr c⟩
theorem mN {m:Mem}:lO m []:=trivial
theorem mC {m:Mem} {i:Nat} {v:LE} {r:List (Nat × LE)} (h:m i=some v) (hr:lO m r):lO m ((i,v) :: r):=⟨h,hr⟩
theorem bn:fv [] []:=trivial
theorem aH {x:LV} {xs ys:List LV} (h:fv xs ys):fv (x :: xs) (x :: ys):=⟨Sub.rfl,h⟩
theorem oV {k:Nat} {xs ys:List LV} (h:fv xs ys):fv (.nil :: xs) (.ak k [] :: ys):=⟨Sub.nil,h⟩
theorem o7 {x y:LV} {xs ys:List LV} (h0:Sub x y) (h:fv xs ys):fv (x :: xs) (y :: ys):=⟨h0,h⟩
abbrev lvl {α:Type} (k:Nat) (f:α→LV):List α→LV:=fun xs=>.ak k (xs.map f)
theorem dK {b x:Bool} (h:b=true):x=(b && x):=by subst h; simp
theorem ks {b x:Bool} (h:b=false):false=(b && x):=by subst h; simp
theorem nL {b x:Bool} (h:b=true):true=(b || x):=by subst h; simp
theorem gz {b x:Bool} (h:b=false):x=(b || x):=by subst h; simp
theorem fv.head {x y:LV} {xs ys:List LV} (h:fv (x :: xs) (y :: ys)):Sub x y:=h.1
end Go.L
namespace Go.L
section
variable {P:Program} {N:Nat} {pr:Nat→Prop} {ro:List Nat} {ops:Array Oper} {e:Env} {m m':Mem} {ev HF:Operand→LV} {o:Oper} {lv:LV} {l:List Oper} {ey:List Nat} {KE:Env→Mem→Prop}
theorem bl.ok (h:bl P pr o ev m lv m'):cr P pr o ev m lv m':=fun c a Q bA hm=>h c a Q (fun x _=>bA x) hm
theorem bl.value (h:∀ (c:Cx) (a:Act),(∀ x ∈ o.op.operands,av c (ev x) (a.eval x))→bZ c m→∃ v c',(execOp a.eval o).run P c.w=.ok (.value v) c'.w∧av c' lv v∧bZ c' m'∧Step pr c c'):bl P pr o ev m lv m':=by
 intro c a Q bA hm
 obtain ⟨v,c',hr,h1,h2,h3⟩:=h c a bA hm
 unfold Oper.wp
 rw [hr]
 exact ⟨v,c',rfl,rfl,h1,h2,h3⟩
theorem bl.skip (hd:o.dst=.none) (h:∀ (c:Cx) (a:Act),(∀ x ∈ o.op.operands,av c (ev x) (a.eval x))→bZ c m→∃ c',(execOp a.eval o).run P c.w=.ok .skip c'.w∧bZ c' m'∧Step pr c c'):bl P pr o ev m .eF m':=by
 intro c a Q bA hm
 obtain ⟨c',hr,h2,h3⟩:=h c a bA hm
 unfold Oper.wp
 rw [hr]
 exact ⟨undef,c',by simp [Act.put,hd],rfl,by simp [av],h2,h3⟩
theorem sX {i:Nat} {op:Op} {ty:TypeId} {pos:String} {af:Array Edge} (h:cr P pr ⟨some i,op,ty,pos,af,.none⟩ (c9 e) m lv m') (hr:cV P N pr ops l KE (e.put i lv) m'):cV P N pr ops (⟨some i,op,ty,pos,af,.none⟩ :: l) KE e m:=by
 intro hd hl
 obtain ⟨e2,m2,hK,jJ⟩:=hr hd (fun q hq=>hl q (by simp [hq]))
 refine ⟨e2,m2,hK,fun c a bV=>?_⟩
 simp only [wpList]
 rw [if_pos (by simp [Region.wanted])]
 left
 refine Oper.wp_mono ?_ (h c a _ bV.ev bV.mem)
 rintro a' w' ⟨v,c',rfl,rfl,hv,iM,hs⟩
 have sY:l9 N c' (e.put i lv) m' (a.put (some i) v):=bV.put (d:=some i) hs iM (hd ⟨some i,op,ty,pos,af,.none⟩ (hl _ (by simp))) hv
 refine gk _ _ _ _ _ ?_ (jJ c' _ sY)
 rintro x MJ Mg ⟨hx,c2,qJ,fD,pw⟩
 exact ⟨hx,c2,qJ,fD,hs.grow.trans pw⟩
theorem Iw {op:Op} {ty:TypeId} {pos:String} {af:Array Edge} (h:cr P pr ⟨.none,op,ty,pos,af,.none⟩ (c9 e) m lv m') (hr:cV P N pr ops l KE e m'):cV P N pr ops (⟨.none,op,ty,pos,af,.none⟩ :: l) KE e m:=by
 intro hd hl
 obtain ⟨e2,m2,hK,jJ⟩:=hr hd (fun q hq=>hl q (by simp [hq]))
 refine ⟨e2,m2,hK,fun c a bV=>?_⟩
 simp only [wpList]
 rw [if_pos (by simp [Region.wanted])]
 left
 refine Oper.wp_mono ?_ (h c a _ bV.ev bV.mem)
 rintro a' w' ⟨v,c',ha,rfl,hv,iM,hs⟩
 have sY:l9 N c' e m' a':=by rw [ha]; exact bV.put (d:=.none) hs iM (by simp) hv
 refine gk _ _ _ _ _ ?_ (jJ c' _ sY)
 rintro x MJ Mg ⟨hx,c2,qJ,fD,pw⟩
 exact ⟨hx,c2,qJ,fD,hs.grow.trans pw⟩
theorem L4 {i j q:Nat} {want:Bool} {op:Op} {ty:TypeId} {pos:String} {af:Array Edge} (hj:(ops[j]?).bind (·.dst)=some q) (hg:e q=.bool want) (h:cr P pr ⟨some i,op,ty,pos,af,some (j,want)⟩ (c9 e) m lv m') (hr:cV P N pr ops l KE (e.put i lv) m'):cV P N pr ops (⟨some i,op,ty,pos,af,some (j,want)⟩ :: l) KE e m:=by
 intro hd hl
 obtain ⟨e2,m2,hK,jJ⟩:=hr hd (fun q hq=>hl q (by simp [hq]))
 refine ⟨e2,m2,hK,fun c a bV=>?_⟩
 simp only [wpList]
 rw [nD bV hd rfl hj hg,if_pos (by simp)]
 left
 refine Oper.wp_mono ?_ (h c a _ bV.ev bV.mem)
 rintro a' w' ⟨v,c',rfl,rfl,hv,iM,hs⟩
 have sY:l9 N c' (e.put i lv) m' (a.put (some i) v):=bV.put (d:=some i) hs iM (hd ⟨some i,op,ty,pos,af,some (j,want)⟩ (hl _ (by simp))) hv
 refine gk _ _ _ _ _ ?_ (jJ c' _ sY)
 rintro x MJ Mg ⟨hx,c2,qJ,fD,pw⟩
 exact ⟨hx,c2,qJ,fD,hs.grow.trans pw⟩
def iH:LV→Option Value
 | .agg cs=>(eo cs).map fun vs=>.agg vs.toArray
 | x=>j9 x
theorem sy {c:Cx} {x:LV} {u v:Value} (h:j9 x=some u) (hr:av c x v):v=u:=by
 cases x <;> simp [j9] at h <;> subst h <;> simpa [av] using hr
theorem qB {c:Cx}:∀ {xs:List LV} {us vs:List Value},eo xs=some us→aC c xs vs→vs=us
 | [],us,vs,h,hr=>by simp [eo] at h; subst h; simpa [aC] using hr
 | x :: xs,us,vs,h,hr=>by
  simp only [eo] at h
  split at h
  ·rename_i v0 vs0 h1 h2
   cases h
   simp only [aC] at hr
   obtain ⟨v,fQ,rfl,h3,h4⟩:=hr
   rw [sy h1 h3,qB h2 h4]
  ·cases h
theorem oq {c:Cx} {x:LV} {u v:Value} (h:iH x=some u) (hr:av c x v):v=u:=by
 cases x
 case agg cs =>
  simp only [iH,Option.map_eq_some_iff] at h
  obtain ⟨vs,h1,rfl⟩:=h
  simp only [av] at hr
  obtain ⟨us,rfl,h2⟩:=hr
  rw [qB h1 h2]
 all_goals (simp only [iH] at h; exact sy h hr)
theorem sx {x y:LV} {u:Value} (h:j9 x=some u) (h':j9 y=some u):x=y:=by
 cases x <;> simp [j9] at h <;> subst h <;> cases y <;> simp [j9] at h' <;> simp [h']
theorem sz:∀ {xs ys:List LV} {us:List Value},eo xs=some us→eo ys=some us→xs=ys
 | [],ys,us,h,h'=>by
  simp [eo] at h; subst h
  cases ys with
  | nil=>rfl
  | cons y ys=>simp only [eo] at h'; split at h' <;> cases h'
 | x :: xs,ys,us,h,h'=>by
  simp only [eo] at h
  split at h
  ·rename_i v0 vs0 h1 h2
   cases h
   cases ys with
   | nil=>simp [eo] at h'
   | cons y ys =>
    simp only [eo] at h'
    split at h'
    ·rename_i v1 vs1 h3 h4
     cases h'
     rw [sx h1 h3,sz h2 h4]
    ·cases h'
  ·cases h
theorem sA {x y:LV} {u:Value} (h:iH x=some u) (h':iH y=some u):x=y:=by
 have a1:∀ cs v,(eo cs).map (fun vs:List Value=>Value.agg vs.toArray)=some v→∃ us,eo cs=some us∧v=.agg us.toArray:=fun cs v hv=>by
  simp only [Option.map_eq_some_iff] at hv
  obtain ⟨us,h1,h2⟩:=hv; exact ⟨us,h1,h2.symm⟩
 cases x
 case agg cs =>
  obtain ⟨us,h1,rfl⟩:=a1 cs u h
  cases y
  case agg ds =>
   obtain ⟨Rg,h2,h3⟩:=a1 ds _ h'
   have:us=Rg:=by simpa using h3
   subst this
   rw [sz h1 h2]
  all_goals simp [iH,j9] at h'
 all_goals
  cases y
  case agg ds =>
   obtain ⟨Rg,h2,h3⟩:=a1 ds _ h'
   subst h3
   simp [iH,j9] at h
  all_goals (simp only [iH] at h h'; exact sx h h')
structure IN (P:Program) (k:TypeId) (S:Value→Prop):Prop where
 check:∀ (w:World) (em:Bool) (v:Value),S v→(Instr.checkKey em 10000 k v).run P w=.ok () w
 find:∀ (w:World) (x:Value),S x→∀ es:List MapEntry,(∀ e ∈ es,S e.key)→((Instr.findKey k x es).run P w=.ok .none w∧∀ e ∈ es,e.key ≠ x) ∨ ∃ j e,(Instr.findKey k x es).run P w=.ok (some (j,e.val)) w∧es[j]?=some e∧e.key=x
 stays:∀ (w:World) (v:Value),S v→(Instr.keyThatStays v v).run P w=.ok v w
def zg (P:Program) (t:TypeId):Option (Nat × Nat):=match P.underlying t with | some (.map k v)=>some (k,v) | _=>.none
theorem lM {t k v:Nat} (h:zg P t=some (k,v)):P.underlying t=some (.map k v):=by
 unfold zg at h; split at h <;> simp_all
def gR {α β:Type} [DecidableEq α]:List (α × β)→α→Option β
 | [],_=>.none
 | (a,b) :: r,k=>if a=k then some b else gR r k
def ed {α β:Type} [DecidableEq α]:List (α × β)→α→β→List (α × β)
 | [],k,v=>[(k,v)]
 | (a,b) :: r,k,v=>if a=k then (k,v) :: r else (a,b) :: ed r k v
variable {α β:Type} [DecidableEq α] {f:α→LV} {g:β→LV}
abbrev ec (f:α→LV) (g:β→LV) (xs:List (α × β)):List (LV × LV):=xs.map fun p=>(f p.1,g p.2)
def xf (f:α→LV) (S:Value→Prop):Prop:=(∀ x,∃ v,iH (f x)=some v∧S v∧(f x).pure=true)∧∀ x y,f x=f y→x=y
theorem C6 {xs:List (α × β)} {k:α} (h:∀ p ∈ xs,p.1 ≠ k):gR xs k=.none:=by
 induction xs with
 | nil=>rfl
 | cons p r ih =>
  obtain ⟨a,b⟩:=p
  simp only [gR]
  rw [if_neg (h (a,b) (by simp)),ih fun q hq=>h q (by simp [hq])]
theorem H8 {xs:List (α × β)} {k:α} {b:β} {j:Nat} (hn:(xs.map (·.1)).Nodup) (h:xs[j]?=some (k,b)):gR xs k=some b:=by
 induction xs generalizing j with
 | nil=>simp at h
 | cons p r ih =>
  obtain ⟨a,b'⟩:=p
  simp only [List.map_cons,List.nodup_cons] at hn
  simp only [gR]
  cases j with
  | zero=>simp at h; rw [if_pos h.1,h.2]
  | succ j =>
   simp at h
   have:a ≠ k:=fun he=>hn.1 (by subst he; exact List.mem_map.2 ⟨_,List.mem_of_getElem? h,rfl⟩)
   rw [if_neg this]; exact ih hn.2 h
theorem C8 {xs:List (α × β)} {k:α} {v:β} (h:∀ p ∈ xs,p.1 ≠ k):ed xs k v=xs++[(k,v)]:=by
 induction xs with
 | nil=>rfl
 | cons p r ih =>
  obtain ⟨a,b⟩:=p
  simp only [ed]
  rw [if_neg (h (a,b) (by simp)),ih fun q hq=>h q (by simp [hq])]; rfl
theorem FO {xs:List (α × β)} {k:α} {b v:β} {j:Nat} (hn:(xs.map (·.1)).Nodup) (h:xs[j]?=some (k,b)):ed xs k v=xs.set j (k,v):=by
 induction xs generalizing j with
 | nil=>simp at h
 | cons p r ih =>
  obtain ⟨a,b'⟩:=p
  simp only [List.map_cons,List.nodup_cons] at hn
  simp only [ed]
  cases j with
  | zero=>simp at h; rw [if_pos h.1]; rfl
  | succ j =>
   simp at h
   have:a ≠ k:=fun he=>hn.1 (by subst he; exact List.mem_map.2 ⟨_,List.mem_of_getElem? h,rfl⟩)
   rw [if_neg this,ih hn.2 h]; rfl
omit [DecidableEq α] in
theorem BY {c:Cx} {id kt vt:Nat} {S:Value→Prop} {xs:List (α × β)} {v:Value} (hm:bZ c m) (bE:m id=some (.map kt vt (ec f g xs))) (hv:av c (.mp id) v) (hf:xf f S) :
  ∃ b jw ck,c.B id=some (.mp b)∧v=.map (some b)∧c.w.heap[b]?=some (.map jw ck)∧jw.toList.length=xs.length∧(∀ (j:Nat) (x:α) (y:β),xs[j]?=some (x,y)→∃ (en:MapEntry) (u:Value),jw.toList[j]?=some en∧iH (f x)=some en.key∧S en.key∧u=en.val∧av c (g y) u)∧(xs.map (·.1)).Nodup∧LV.bk (xs.map fun p=>g p.2)=true:=by
 have he:=hm.gD id
 rw [bE] at he
 simp only [bt] at he
 obtain ⟨b,jw,ck,h1,h2,h3,h4,h5,h6,h7,_⟩:=he
 simp only [av] at hv
 obtain ⟨b',il,rfl⟩:=hv
 rw [h1] at il; cases il
 have l3:=h3.length
 simp only [ec,List.map_map,List.length_map] at l3
 refine ⟨b,jw,ck,h1,rfl,h2,l3.symm,fun j x y hj=>?_,?_,?_⟩
 ·have hk:((ec f g xs).map (·.1))[j]?=some (f x):=by simp [ec,hj]
  have Lh:((ec f g xs).map (·.2))[j]?=some (g y):=by simp [ec,hj]
  obtain ⟨k1,Uq,VK⟩:=h3.get hk
  obtain ⟨u,Ja,K6⟩:=h4.get Lh
  simp only [List.getElem?_map,Option.map_eq_some_iff] at Uq Ja
  obtain ⟨en,Uk,rfl⟩:=Uq
  obtain ⟨QL,Ul,rfl⟩:=Ja
  rw [Uk] at Ul; cases Ul
  obtain ⟨kv,e1,e2,_⟩:=hf.1 x
  have:=oq e1 VK
  exact ⟨en,en.val,Uk,by rw [e1,this],by rw [this]; exact e2,rfl,K6⟩
 ·simp only [ec,List.map_map] at h7
  rw [List.nodup_iff_pairwise_ne] at h7 ⊢
  rw [List.pairwise_map] at h7 ⊢
  exact h7.imp fun {p q} h he=>h (congrArg f he)
 ·simp only [ec,List.map_map] at h6; exact h6
omit [DecidableEq α] in
theorem xP {c:Cx} {S:Value→Prop} {xs:List (α × β)} {jw:List MapEntry} (hl:jw.length=xs.length) (h:∀ (j:Nat) (x:α) (y:β),xs[j]?=some (x,y)→∃ (en:MapEntry) (u:Value),jw[j]?=some en∧iH (f x)=some en.key∧S en.key∧u=en.val∧av c (g y) u):(∀ en ∈ jw,S en.key)∧∀ (j:Nat) en,jw[j]?=some en→∃ x y,xs[j]?=some (x,y)∧iH (f x)=some en.key∧av c (g y) en.val:=by
 have key:∀ (j:Nat) en,jw[j]?=some en→∃ x y,xs[j]?=some (x,y)∧iH (f x)=some en.key∧S en.key∧av c (g y) en.val:=fun j en hj=>by
  have dY:j<xs.length:=by rw [← hl]; exact (List.getElem?_eq_some_iff.1 hj).1
  obtain ⟨QL,u,h1,h2,h3,rfl,h5⟩:=h j xs[j].1 xs[j].2 (by simp [dY])
  rw [hj] at h1; cases h1
  exact ⟨xs[j].1,xs[j].2,by simp [dY],h2,h3,h5⟩
 refine ⟨fun en Vx=>?_,fun j en hj=>?_⟩
 ·obtain ⟨j,hj⟩:=List.mem_iff_getElem?.1 Vx
  obtain ⟨_,_,_,_,h3,_⟩:=key j en hj; exact h3
 ·obtain ⟨x,y,h1,h2,_,h4⟩:=key j en hj; exact ⟨x,y,h1,h2,h4⟩
theorem Hh {vt:TypeId} {z:LV} (h:tzero P vt=some z) (w:World):∃ zv,(zeroValue vt).run P w=.ok zv w∧∀ c,av c z zv:=by
 unfold tzero at h
 split at h
 ·rename_i i hi
  split at h
  ·rename_i zv hz
   split at h
   ·cases h
    exact ⟨zv,by simp [zeroValue,typeInfo,Sem.run,hi,hz],fun c=>pQ c zv⟩
   ·cases h
  ·cases h
 ·cases h
theorem look {c:Cx} {id kt vt:Nat} {t:TypeId} {S:Value→Prop} {xs:List (α × β)} {key:α} {z:β} {v kv:Value} (ht:zg P t=some (kt,vt)) (K:IN P kt S) (hf:xf f S) (hm:bZ c m) (bE:m id=some (.map kt vt (ec f g xs))) (hv:av c (.mp id) v) (hk:av c (f key) kv) (hz:tzero P vt=some (g z)) (ok:Bool) :
  ∃ u,(Instr.lookup t v kv ok).run P c.w=.ok (if ok then .tuple #[u,.bool (gR xs key).isSome] else u) c.w∧av c (g ((gR xs key).getD z)) u:=by
 obtain ⟨b,jw,ck,hB,rfl,hh,hlen,rm,hnd,_⟩:=BY hm bE hv hf
 obtain ⟨hS,EM⟩:=xP hlen rm
 obtain ⟨k0,e1,e2,_⟩:=hf.1 key
 obtain rfl:k0=kv:=(oq e1 hk).symm
 rcases K.find c.w k0 e2 jw.toList hS with ⟨h1,h2⟩ | ⟨j,en,h1,h2,h3⟩
 ·have kz:gR xs key=.none:=C6 fun p hp he=>by
   obtain ⟨j,hj⟩:=List.mem_iff_getElem?.1 hp
   obtain ⟨en,u,h4,h5,_⟩:=rm j p.1 p.2 hj
   rw [he,e1] at h5
   exact h2 en (List.mem_of_getElem? h4) (Option.some.inj h5).symm
  obtain ⟨zv,D7,Lr⟩:=Hh hz c.w
  refine ⟨zv,?_,by rw [kz]; exact Lr c⟩
  simp [Instr.lookup,run_underlying (lM ht),MapKept.run_getObj_map hh,K.check c.w _ _ e2,h1,D7,Result.andThen,kz]
 ·obtain ⟨x,y,h4,h5,h6⟩:=EM j en h2
  have hx:x=key:=hf.2 x key (sA h5 (by rw [h3]; exact e1))
  subst hx
  have I9:gR xs x=some y:=H8 hnd h4
  refine ⟨en.val,?_,by rw [I9]; exact h6⟩
  simp [Instr.lookup,run_underlying (lM ht),MapKept.run_getObj_map hh,K.check c.w _ _ e2,h1,Result.andThen,I9]
theorem tl {id kt vt:Nat} {t:TypeId} {d:Option Nat} {x k:Operand} {ty:TypeId} {pos:String} {af:Array Edge} {gd:Option (Nat × Bool)} {S:Value→Prop} {xs:List (α × β)} {key:α} {z:β} (ht:zg P t=some (kt,vt)) (K:IN P kt S) (hf:xf f S) (hx:ev x=.mp id) (bE:m id=some (.map kt vt (ec f g xs))) (hk:ev k=f key) (hz:tzero P vt=some (g z)) :
  bl P pr ⟨d,.lookup t x k true,ty,pos,af,gd⟩ ev m (.cX [g ((gR xs key).getD z),.bool (gR xs key).isSome]) m :=
 bl.value fun c a bA hm=>by
  have h1:=bA x (by simp [Op.operands])
  have h2:=bA k (by simp [Op.operands])
  rw [hx] at h1; rw [hk] at h2
  obtain ⟨u,hr,hu⟩:=look ht K hf hm bE h1 h2 hz true
  refine ⟨_,c,by simp [execOp,hr,Result.andThen]; rfl,?_,hm,Step.refl pr c⟩
  simp only [av,aC]
  exact ⟨[u,.bool (gR xs key).isSome],rfl,u,_,rfl,hu,_,_,rfl,rfl,rfl⟩
theorem H9 {xs:List (α × β)} {k:α} {v:β}:(ed xs k v).map (·.1)=if k ∈ xs.map (·.1) then xs.map (·.1) else xs.map (·.1)++[k]:=by
 induction xs with
 | nil=>simp [ed]
 | cons p r ih =>
  obtain ⟨a,b⟩:=p
  simp only [ed]
  by_cases h:a=k
  ·simp [h]
  ·simp only [h,if_false,List.map_cons,ih,List.mem_cons]
   have:¬ k=a:=fun h'=>h h'.symm
   simp only [this,false_or]
   split <;> simp
theorem iR {id kt vt:Nat} {t:TypeId} {x k y:Operand} {ty:TypeId} {pos:String} {af:Array Edge} {gd:Option (Nat × Bool)} {S:Value→Prop} {xs:List (α × β)} {key:α} {val:β} {op:Op} (D2:op=.mapUpdate t x k y ∨ op=.insert t x k y) (ht:zg P t=some (kt,vt)) (K:IN P kt S) (hf:xf f S) (hg:∀ y,(g y).pure=true) (hx:ev x=.mp id) (bE:m id=some (.map kt vt (ec f g xs))) (hk:ev k=f key) (hy:ev y=g val) :
  bl P pr ⟨.none,op,ty,pos,af,gd⟩ ev m .eF (m.put id (.map kt vt (ec f g (ed xs key val)))) :=
 bl.skip rfl fun c a bA hm=>by
  have KS:op.operands=#[x,k,y]:=by rcases D2 with rfl | rfl <;> rfl
  have h1:=bA x (by simp [KS])
  have h2:=bA k (by simp [KS])
  have h3:=bA y (by simp [KS])
  rw [hx] at h1; rw [hk] at h2; rw [hy] at h3
  obtain ⟨b,jw,ck,hB,pE,hh,hlen,rm,hnd,WS⟩:=BY hm bE h1 hf
  obtain ⟨hS,EM⟩:=xP hlen rm
  obtain ⟨k0,e1,e2,_⟩:=hf.1 key
  have I3:=oq e1 h2
  have hb:b<c.w.heap.size:=(Array.getElem?_eq_some_iff.1 hh).1
  -- a new table of entries
  have fin : ∀ Hj IT, (∀ w' : World, w' = { c.w with heap := c.w.heap.setIfInBounds b (.map Hj IT) } → (Instr.mapUpdate t (.map (some b)) k0 (a.eval y)).run P c.w = .ok () w') →
    (∀ c':Cx,c.Le c'→(∀ i,js (c.B i) (c'.B i))→aC c' ((ec f g (ed xs key val)).map (·.1)) (Hj.toList.map (·.key))∧aC c' ((ec f g (ed xs key val)).map (·.2)) (Hj.toList.map (·.val)))→zN Hj IT →
    ∃ c',(execOp a.eval ⟨.none,op,ty,pos,af,gd⟩).run P c.w=.ok .skip c'.w∧bZ c' (m.put id (.map kt vt (ec f g (ed xs key val))))∧Step pr c c':=by
   intro Hj IT dL bV DY
   obtain ⟨c',hw,il,h4,h5⟩:=hm.Bo (pr:=pr) id (.map kt vt (ec f g (ed xs key val))) (.mp b) { c.w with heap:=c.w.heap.setIfInBounds b (.map Hj IT) } rfl rfl rfl (Nat.le_refl _) (by simp)
    (fun q hq ew=>by simp only; rw [Array.getElem?_setIfInBounds_ne]; intro he; subst he; exact ew _ hB rfl)
    (fun q hq=>.inl ⟨_,hB,hq⟩) (by rw [hB]; exact js.refl _) (fun _ dn h0=>by rw [hB] at h0; cases h0; exact .refl _)
    (fun c' hw hle dA=>by
     simp only [bt]
     obtain ⟨r1,r2⟩:=bV c' hle dA
     refine ⟨b,Hj,IT,rfl,by rw [hw]; simp [hb],r1,r2,?_,?_,?_,DY⟩
     ·refine cK.2 fun q hq=>?_
      simp only [ec,List.map_map,List.mem_map] at hq
      obtain ⟨p,_,rfl⟩:=hq
      obtain ⟨_,_,_,h⟩:=hf.1 p.1; exact h
     ·refine cK.2 fun q hq=>?_
      simp only [ec,List.map_map,List.mem_map] at hq
      obtain ⟨p,_,rfl⟩:=hq
      exact hg p.2
     ·have:(ec f g (ed xs key val)).map (·.1)=((ed xs key val).map (·.1)).map f:=by simp [ec]
      rw [this,H9]
      rw [List.nodup_iff_pairwise_ne,List.pairwise_map,← List.nodup_iff_pairwise_ne.trans ⟨fun h=>h.imp fun {p q} h' he=>h' (hf.2 p q he),fun h=>h.imp fun {p q} h' he=>h' (congrArg f he)⟩]
      split
      ·exact hnd
      ·rename_i Uw
       rw [List.nodup_append]
       refine ⟨hnd,by simp,fun p hp q hq=>?_⟩
       simp at hq; subst hq; exact fun he=>Uw (he ▸ hp))
   refine ⟨c',?_,h4,h5⟩
   rw [hw]
   rcases D2 with rfl | rfl <;> simp [execOp,pE,I3,dL _ rfl,Result.andThen]
  have DY:zN jw ck:=by
   have he:=hm.gD id
   rw [bE] at he
   simp only [bt] at he
   obtain ⟨b2,Hj,IT,g1,g2,g3,g4,g5,g6,g7,g8⟩:=he
   rw [hB] at g1; cases g1
   rw [hh] at g2; cases g2
   exact g8
  have H7:∀ l:List (α × β),(ec f g l).map (·.1)=l.map fun p=>f p.1:=fun l=>by simp [ec]
  have Mf:∀ l:List (α × β),(ec f g l).map (·.2)=l.map fun p=>g p.2:=fun l=>by simp [ec]
  rcases K.find c.w k0 e2 jw.toList hS with ⟨q1,q2⟩ | ⟨j,en,q1,q2,q3⟩
  ·have KW:ed xs key val=xs++[(key,val)]:=C8 fun p hp he=>by
    obtain ⟨j,hj⟩:=List.mem_iff_getElem?.1 hp
    obtain ⟨en,u,h4,h5,_⟩:=rm j p.1 p.2 hj
    rw [he,e1] at h5
    exact q2 en (List.mem_of_getElem? h4) (Option.some.inj h5).symm
   refine fin (jw.push ⟨k0,a.eval y,ck⟩) (ck+1) (fun w' Hq=>?_) (fun c' hle dA=>?_) ⟨?_,?_⟩
   rotate_left 2
   ·rw [Array.toList_push,List.map_append,List.nodup_append]
    refine ⟨DY.1,by simp,fun p hp q hq=>?_⟩
    simp only [List.map_cons,List.map_nil,List.mem_singleton] at hq
    subst hq
    obtain ⟨x,hx,rfl⟩:=List.mem_map.1 hp
    exact Nat.ne_of_lt (DY.2 x hx)
   ·intro x hx
    rw [Array.toList_push,List.mem_append] at hx
    rcases hx with hx | hx
    ·exact Nat.lt_succ_of_lt (DY.2 x hx)
    ·simp only [List.mem_singleton] at hx; subst hx; exact Nat.lt_succ_self _
   ·subst Hq
    simp [Instr.mapUpdate,run_underlying (lM ht),MapKept.run_getObj_map hh,K.check c.w _ _ e2,q1,MapKept.run_setObj_map _ hh,Result.andThen]
   ·rw [KW,H7,Mf]
    simp only [List.map_append,List.map_cons,List.map_nil,Array.toList_push]
    have he:=hm.gD id
    rw [bE] at he
    simp only [bt] at he
    obtain ⟨b2,Hj,IT,g1,g2,g3,g4,g5,g6,g7⟩:=he
    rw [hB] at g1; cases g1
    rw [hh] at g2; cases g2
    rw [H7] at g3 g5; rw [Mf] at g4 g6
    refine ⟨aC.append (aC.mono hle _ _ (fun q hq=>by rw [az _ g5] at hq; cases hq) g3) ?_,aC.append (aC.mono hle _ _ (fun q hq=>by rw [az _ g6] at hq; cases hq) g4) ?_⟩
    ·simp only [aC]
     refine ⟨_,_,rfl,av.mono hle _ _ (fun q _=>dA q) (by rw [← I3]; exact h2),rfl⟩
    ·simp only [aC]
     exact ⟨_,_,rfl,av.mono hle _ _ (fun q _=>dA q) h3,rfl⟩
  ·obtain ⟨x0,y0,h4,h5,h6⟩:=EM j en q2
   have Je:x0=key:=hf.2 x0 key (sA h5 (by rw [q3]; exact e1))
   subst Je
   have KW:ed xs x0 val=xs.set j (x0,val):=FO hnd h4
   have iC:j<xs.length:=(List.getElem?_eq_some_iff.1 h4).1
   have EZ:jw[j]?=some en:=by simpa using q2
   have QV:∀ (l:List MapEntry),(l.modify j fun e'=>{ e' with key:=k0,val:=a.eval y }).map (·.born)=l.map (·.born):=fun l=>by
    apply List.ext_getElem?
    intro i
    simp only [List.getElem?_map,List.getElem?_modify]
    cases l[i]? with
    | none=>simp
    | some z=>by_cases rI:j=i <;> simp [rI]
   refine fin (jw.modify j fun e'=>{ e' with key:=k0,val:=a.eval y }) ck (fun w' Hq=>?_) (fun c' hle dA=>?_) ⟨by rw [Array.toList_modify,QV]; exact DY.1,fun x hx=>?_⟩
   rotate_left 2
   ·rw [Array.toList_modify] at hx
    have:x.born ∈ jw.toList.map (·.born):=by rw [← QV]; exact List.mem_map.2 ⟨x,hx,rfl⟩
    obtain ⟨z,hz,he⟩:=List.mem_map.1 this
    rw [← he]; exact DY.2 z hz
   ·subst Hq
    simp [Instr.mapUpdate,run_underlying (lM ht),MapKept.run_getObj_map hh,K.check c.w _ _ e2,q1,EZ,q3,K.stays c.w _ e2,MapKept.run_setObj_map _ hh,Result.andThen]
   ·rw [KW,H7,Mf]
    have Uv:(jw.modify j fun e'=>{ e' with key:=k0,val:=a.eval y }).toList.length=jw.toList.length:=by simp
    constructor
    ·refine aC.of (by simp; simpa using hlen.symm) fun i lx v I5 hv=>?_
     simp only [List.getElem?_map,List.getElem?_set,Array.toList_modify,List.getElem?_modify,Option.map_eq_some_iff] at I5
     obtain ⟨p,hp,rfl⟩:=I5
     obtain ⟨CB,QX,rfl⟩:∃ CB,jw.toList[i]?=some CB∧(if j=i then { CB with key:=k0,val:=a.eval y } else CB:MapEntry).key=v:=by
      simp only [List.getElem?_map,Array.toList_modify,List.getElem?_modify] at hv
      cases hq:jw.toList[i]? with
      | none=>rw [hq] at hv; simp at hv
      | some CB=>rw [hq] at hv; simp at hv; exact ⟨CB,rfl,hv⟩
     by_cases rI:j=i
     ·subst rI
      rw [if_pos rfl,if_pos iC] at hp; cases hp
      simp only [if_true]
      exact av.mono hle _ _ (fun q _=>dA q) (by rw [← I3]; exact h2)
     ·rw [if_neg rI] at hp
      simp only [rI,if_false]
      obtain ⟨U9,u,r1,r2,r3,r4,r5⟩:=rm i p.1 p.2 hp
      rw [QX] at r1; cases r1
      have he:=hm.gD id
      rw [bE] at he
      simp only [bt] at he
      obtain ⟨b2,Hj,IT,g1,g2,g3,g4,g5,g6,g7⟩:=he
      rw [hB] at g1; cases g1
      rw [hh] at g2; cases g2
      rw [H7] at g3
      obtain ⟨v2,s1,s2⟩:=g3.get (i:=i) (x:=f p.1) (by simp [hp])
      simp only [List.getElem?_map,QX,Option.map_some,Option.some.injEq] at s1
      subst s1
      exact av.mono hle _ _ (fun q _=>dA q) s2
    ·refine aC.of (by simp; simpa using hlen.symm) fun i lx v I5 hv=>?_
     simp only [List.getElem?_map,List.getElem?_set,Array.toList_modify,List.getElem?_modify,Option.map_eq_some_iff] at I5
     obtain ⟨p,hp,rfl⟩:=I5
     obtain ⟨CB,QX,rfl⟩:∃ CB,jw.toList[i]?=some CB∧(if j=i then { CB with key:=k0,val:=a.eval y } else CB:MapEntry).val=v:=by
      simp only [List.getElem?_map,Array.toList_modify,List.getElem?_modify] at hv
      cases hq:jw.toList[i]? with
      | none=>rw [hq] at hv; simp at hv
      | some CB=>rw [hq] at hv; simp at hv; exact ⟨CB,rfl,hv⟩
     by_cases rI:j=i
     ·subst rI
      rw [if_pos rfl,if_pos iC] at hp; cases hp
      simp only [if_true]
      exact av.mono hle _ _ (fun q _=>dA q) h3
     ·rw [if_neg rI] at hp
      simp only [rI,if_false]
      obtain ⟨U9,u,r1,r2,r3,rfl,r5⟩:=rm i p.1 p.2 hp
      rw [QX] at r1; cases r1
      exact av.mono hle _ _ (fun q _=>dA q) r5
theorem tm {i id kt vt:Nat} {t:TypeId} {ty:TypeId} {pos:String} {af:Array Edge} {gd:Option (Nat × Bool)} (bE:m id=.none):bl P pr ⟨some i,.makeMap t .none,ty,pos,af,gd⟩ ev m (.mp id) (m.put id (.map kt vt [])) :=
 bl.value fun c a bA hm=>by
  have hB:=hm.fresh bE
  obtain ⟨c',hw,hb,h2,h3⟩:=hm.Bo (pr:=pr) id (.map kt vt []) (.mp c.w.heap.size) (c.w.alloc (.map #[] 0)) rfl rfl rfl (Nat.le_refl _) (by simp)
   (fun b hb _=>pA c.w _ b hb) (fun b hb=>by simp [BE.has] at hb; subst hb; exact .inr (Nat.le_refl _)) (by rw [hB]; trivial) (fun _ dn h0=>by rw [hB] at h0; cases h0)
   (fun c' hw hle dA=>by
    simp only [bt]
    exact ⟨c.w.heap.size,#[],0,rfl,by rw [hw]; show (c.w.heap.push _)[c.w.heap.size]?=_; simp,by simp [aC],by simp [aC],rfl,rfl,by simp,⟨by simp,by simp⟩⟩)
  refine ⟨.map (some c.w.heap.size),c',?_,?_,h2,h3⟩
  ·rw [hw]; rfl
  ·simp only [av]; exact ⟨_,hb,rfl⟩
end
theorem qD {kd:IntKind} {a:Int}:∀ (es:List MapEntry) (i:Nat),(∀ e ∈ es,∃ n,e.key=.int kd n)→(Instr.findNow (.int kd) (.int kd a) es i=some .none∧∀ e ∈ es,e.key ≠ .int kd a) ∨ ∃ j e,Instr.findNow (.int kd) (.int kd a) es i=some (some (i+j,e.val))∧es[j]?=some e∧e.key=.int kd a
 | [],i,_=>.inl ⟨rfl,by simp⟩
 | e :: es,i,h=>by
  obtain ⟨n,hn⟩:=h e (by simp)
  by_cases he:a=n
  ·subst he
   exact .inr ⟨0,e,by simp [Instr.findNow,hn,Instr.sameNow],rfl,hn⟩
  ·have hs:Instr.sameNow (.int kd) (.int kd a) e.key=some false:=by simp [hn,Instr.sameNow,he]
   rcases qD (a:=a) es (i+1) (fun e' Aj=>h e' (by simp [Aj])) with ⟨h1,h2⟩ | ⟨j,e',h1,h2,h3⟩
   ·refine .inl ⟨by simp [Instr.findNow,hs,h1],fun e' Aj=>?_⟩
    rcases List.mem_cons.1 Aj with rfl | Aj
    ·rw [hn]; intro h'; cases h'; exact he rfl
    ·exact h2 e' Aj
   ·exact .inr ⟨j+1,e',by simp only [Instr.findNow,hs,h1,Option.some.injEq,Prod.mk.injEq,and_true]; omega,by simpa using h2,h3⟩
theorem Cz {P:Program} {k:TypeId} {kd:IntKind} (hk:P.underlying k=some (.int kd)) (w:World) (em:Bool) (a:Int) (n:Nat):(Instr.checkKey em (n+1) k (.int kd a)).run P w=.ok () w:=by
 simp only [Instr.checkKey]; simp [run_underlying hk]
theorem Ts {P:Program} {k:TypeId} {kd:IntKind} (hk:P.underlying k=some (.int kd)):IN P k (fun v=>∃ n,v=.int kd n) where
 check:=fun w em v ⟨n,hn⟩=>by subst hn; exact Cz hk w em n 9999
 find:=fun w x ⟨a,ha⟩ es CQ=>by
  subst ha
  rcases qD (a:=a) es 0 CQ with ⟨h1,h2⟩ | ⟨j,e,h1,h2,h3⟩
  ·exact .inl ⟨by simp [Instr.findKey,run_underlying hk,h1],h2⟩
  ·exact .inr ⟨j,e,by simp [Instr.findKey,run_underlying hk,h1],h2,h3⟩
 stays:=fun w v ⟨n,hn⟩=>by subst hn; simp [Instr.keyThatStays,Instr.sameBits]
theorem Wo {kd:IntKind}:xf (LV.int kd) (fun v=>∃ n,v=.int kd n):=⟨fun x=>⟨.int kd x,rfl,⟨x,rfl⟩,rfl⟩,fun x y h=>by cases h; rfl⟩
theorem BI {P:Program} {k:TypeId} {α:Type} [DecidableEq α] {enc:α→Value} (heq:∀ x y w,(Op.equal k (enc x) (enc y)).run P w=.ok (decide (x=y)) w) (w:World) (x:α):∀ (es:List MapEntry) (i:Nat),(∀ e ∈ es,∃ y,e.key=enc y)→((Instr.findAsking k (enc x) es i).run P w=.ok .none w∧∀ e ∈ es,e.key ≠ enc x) ∨ ∃ j e,(Instr.findAsking k (enc x) es i).run P w=.ok (some (i+j,e.val)) w∧es[j]?=some e∧e.key=enc x
 | [],i,_=>.inl ⟨by simp [Instr.findAsking],by simp⟩
 | e :: es,i,h=>by
  obtain ⟨y,hy⟩:=h e (by simp)
  by_cases he:x=y
  ·subst he
   exact .inr ⟨0,e,by simp [Instr.findAsking,hy,heq],rfl,hy⟩
  ·have ew:¬ e.key=enc x:=fun h'=>by
    have h1:=heq x y w
    rw [← hy,h',heq x x w] at h1
    simp [he] at h1
   rcases BI heq w x es (i+1) (fun e' Aj=>h e' (by simp [Aj])) with ⟨h1,h2⟩ | ⟨j,e',h1,h2,h3⟩
   ·refine .inl ⟨by simp [Instr.findAsking,hy,heq,he,h1],fun e' Aj=>?_⟩
    rcases List.mem_cons.1 Aj with rfl | Aj
    ·exact ew
    ·exact h2 e' Aj
   ·exact .inr ⟨j+1,e',by simp [Instr.findAsking,hy,heq,he,h1]; omega,by simpa using h2,h3⟩
theorem Tt {P:Program} {k:TypeId} {ds:TypeDesc} {α:Type} [DecidableEq α] {enc:α→Value} (hk:P.underlying k=some ds) (kz:∀ x y,Instr.sameNow ds (enc x) (enc y)=.none) (zy:∀ w em x,(Instr.checkKey em 10000 k (enc x)).run P w=.ok () w) (heq:∀ x y w,(Op.equal k (enc x) (enc y)).run P w=.ok (decide (x=y)) w) (kA:∀ x,Instr.sameBits 10000 (enc x) (enc x)=true):IN P k (fun v=>∃ x,v=enc x) where
 check:=fun w em v ⟨x,hx⟩=>by subst hx; exact zy w em x
 find:=fun w v ⟨x,hx⟩ es CQ=>by
  subst hx
  cases es with
  | nil=>exact .inl ⟨by simp [Instr.findKey,run_underlying hk,Instr.findNow],by simp⟩
  | cons e es =>
   obtain ⟨y,hy⟩:=CQ e (by simp)
   have hn:Instr.findNow ds (enc x) (e :: es) 0=.none:=by simp [Instr.findNow,hy,kz]
   have dL:(Instr.findKey k (enc x) (e :: es)).run P w=(Instr.findAsking k (enc x) (e :: es) 0).run P w:=by simp [Instr.findKey,run_underlying hk,hn]
   rcases BI heq w x (e :: es) 0 CQ with ⟨h1,h2⟩ | ⟨j,e',h1,h2,h3⟩
   ·exact .inl ⟨by rw [dL,h1],h2⟩
   ·exact .inr ⟨j,e',by rw [dL,h1]; simp,h2,h3⟩
 stays:=fun w v ⟨x,hx⟩=>by subst hx; simp [Instr.keyThatStays,kA]
theorem RD {P:Program} {t:TypeId} {xs ys:List LV} {us vs:List Value} {b:Bool} (h:nQ P t xs ys b) (hx:eo xs=some us) (hy:eo ys=some vs) (w:World):(Op.equal t (.agg us.toArray) (.agg vs.toArray)).run P w=.ok b w:=by
 obtain ⟨_,Rg,fQ,h1,h2,h3⟩:=h
 rw [hx] at h1; rw [hy] at h2; cases h1; cases h2
 exact h3 w
end Go.L
namespace Go.L
section
variable {P:Program}
theorem iY (w:World) (dT sT ty elem:TypeId) (k g o HB Rz:Nat) (a:Addr) (lr tQ:Nat) (cur:Array Value) (t:TypeId) (cs:List Value)
  (hu:P.underlying dT=some (.slice elem)) (hs:∀ w,(sizeOf elem).run P w=.ok k w)
  (hg:w.heap[g]?=some (.cells cur t (0,0))) (hn:cs.length=Nat.min lr HB * k)
  (Fl:∀ j v,cs[j]?=some v→w.cell? (a.add j)=some v) (xz:o+cs.length≤cur.size) (h1:∀ v ∈ cs,v.oneCell'=true) :
  (Builtin.copy_ #[dT,sT] ty #[.slice (some ⟨g,o,none⟩) HB Rz,.slice (some a) lr tQ]).run P w =
   .ok (goInt (Nat.min lr HB)) (w.setRow g (cur.toList.take o++cs++cur.toList.drop (o+cs.length)).toArray):=by
 have hl:=run_firstCells_some (P:=P) w k (Nat.min lr HB) a lr tQ cs hn Fl
 have kA:=run_storeCells_at P g o t cs 0 cur w hg (by simpa using xz) h1
 simp only [Nat.add_zero] at kA
 simp [Builtin.copy_,run_underlying hu,Builtin.lenOf,hs,hl,kA]
theorem mn (w:World) (t tn ty e:TypeId) (i:TypeInfo) (z:Value) (kk kn:IntKind) (ht:P.underlying t=some (.slice e)) (SO:P.underlying tn=some (.int kn)) (hi:P.info? e=some i) (hz:i.zero=some z)
  (b:Addr) (lr tQ:Nat) (Ik:List Value) (rJ:Ik.length=lr * i.size) (holds:∀ j v,Ik[j]?=some v→w.cell? (b.add j)=some v)
  (n:Nat) (h0:0<n) (hs:0<i.size) (KF:tQ<lr+n) (MY:((lr+n:Nat):Int)≤9223372036854775807) (WJ:n * i.bytes≤281474976710656) (xz:Builtin.nextslicecap (lr+n) tQ * i.bytes≤281474976710656) :
  (Builtin.append_ #[t,tn] ty #[.slice (some b) lr tQ,.int kk n]).run P w =
   .ok (.slice (some ⟨w.heap.size,0,none⟩) (lr+n) (grownCap w (lr+n) tQ e)) (w.drew.alloc (.cells (Ik.toArray++Builtin.zeroCells z.cells n++Builtin.zeroCells z.cells (grownCap w (lr+n) tQ e - (lr+n))) e)):=by
 have hn:¬ (lr+n≤tQ):=by omega
 have hw:IntKind.i64.wrap (n:Int)=n:=by rw [IntKind.wrap_i64]; omega
 have RH:¬ (9223372036854775807<((lr:Int)+(n:Int))):=by omega
 have RF:¬ (281474976710656<Builtin.nextslicecap (lr+n) tQ * i.bytes):=by omega
 have RG:¬ (281474976710656<(n:Int) * (i.bytes:Int)):=by
  rw [← Int.natCast_mul]
  omega
 have KP:¬ ((n:Int)<0):=by omega
 have Hp:n ≠ 0:=by omega
 have VT:¬ (n * i.size=0):=Nat.mul_ne_zero Hp (by omega)
 have VA:=run_firstCells_some (P:=P) w.drew i.size lr b lr tQ Ik rJ (by simpa using holds)
 simp [Builtin.append_,run_underlying ht,run_underlying SO,sizeOf,typeInfo,zeroValue,hi,hz,asInt,asIntOf,hw,hn,Hp,KP,VT,RH,RF,RG,Question.forced,VA,newRow,grownCap]
theorem mJ {ops:Array Oper} {o:Oper} {a:Act} {w:World} {K:Act→World→Prop} {Q:Exit→Act→World→Prop} {E:Prop}
  (hg:o.guard=none) (d x:Operand) (dT sT:TypeId) (D2:o.op=Op.call { callee:=Callee.builtin Builtin.copy,args:=#[d,x],argTypes:=#[dT,sT] })
  (v u:Value) (hd:a.eval d=v) (hx:a.eval x=u) {v':Value} {w':World} (hr:(Builtin.copy_ #[dT,sT] o.type #[v,u]).run P w=.ok v' w') (hK:K (a.put o.dst v') w') :
  if Region.wanted o (yielded ops a.tmps)=true then Oper.wp P o a w K Q else E:=by
 have hw:Region.wanted o (yielded ops a.tmps)=true:=by simp [Region.wanted,hg]
 rw [if_pos hw]
 unfold Oper.wp
 simp [execOp,D2,resolve,invoke,builtin,hd,hx,hr,Result.andThen]
 exact hK
structure lP (w w':World) (e k:Nat) (u u':Value) (n':Nat) (ub:List Value):Prop where
 own:w'.ownsRow 0 e k u' n' ub
 grown:w.grownBy w' u.ownBlock
 nd:∀ b,u'.ownBlock=some b→u.ownBlock=some b ∨ w.heap.size≤b
 drawn:w.drawn≤w'.drawn
theorem k5 {t t' ty WE:TypeId} {vs:Array Value}:Builtin.append_ #[t,t'] ty vs=Builtin.append_ #[t,t'] WE vs:=rfl
end
end Go.L
namespace Go.L
section
variable {P:Program} {N:Nat} {pr:Nat→Prop} {ops:Array Oper} {e:Env} {m m':Mem} {ev:Operand→LV} {o:Oper} {lv:LV} {l:List Oper} {KE:Env→Mem→Prop}
def Env.drop (e:Env) (id:Nat):Env:=fun i=>if (e i).a8 id=true then e i else .eF
theorem uQ {k:Nat}:∀ {vs:List Value} (h:∀ v ∈ vs,v.cells.size=k) (i:Nat),(flat vs).take (i * k)=flat (vs.take i)
 | [],_,i=>by simp [flat]
 | v :: vs,h,0=>by simp [flat]
 | v :: vs,h,i+1=>by
  have hv:=h v (by simp)
  rw [gm,List.take_succ_cons,gm,List.take_append,Nat.succ_mul]
  have e1:(i * k+k) - v.cells.toList.length=i * k:=by simp [hv]
  rw [e1,uQ (fun u hu=>h u (by simp [hu])) i,List.take_of_length_le (by simp [hv])]
theorem uP {k:Nat}:∀ {vs:List Value} (h:∀ v ∈ vs,v.cells.size=k) (i:Nat),(flat vs).drop (i * k)=flat (vs.drop i)
 | [],_,i=>by simp [flat]
 | v :: vs,h,0=>by simp [flat]
 | v :: vs,h,i+1=>by
  have hv:=h v (by simp)
  rw [gm,List.drop_succ_cons,List.drop_append,Nat.succ_mul]
  have e1:(i * k+k) - v.cells.toList.length=i * k:=by simp [hv]
  rw [e1,uP (fun u hu=>h u (by simp [hu])) i,List.drop_of_length_le (by simp [hv])]
  rfl
theorem sE {vs:List Value} (h:∀ v ∈ vs,∀ y ∈ v.cells,y.oneCell'=true):∀ y ∈ flat vs,y.oneCell'=true:=by
 intro y hy
 simp only [flat,List.mem_flatMap] at hy
 obtain ⟨v,hv,hy⟩:=hy
 exact h v hv y (by simpa using hy)
def MI (P:Program) (f e k:Nat):Prop:=∀ (u:Value) (n i:Nat) (xs:List Value) (v:Value) (vs:List Value) (w:World),w.ownsRow 0 e k u n xs→(∀ y ∈ xs,y.oneCell'=true)→i≤n→n≤549755813887→w.ownsRow 0 e k v 1 vs→(∀ y ∈ vs,y.oneCell'=true)→(∀ b,v.ownBlock=some b→u.ownBlock ≠ some b) →
 Calls P f #[u,.int .i64 i,v] w fun en w'=>∃ u',en=.returned u'∧lP w w' e k u u' (n+1) (xs.take (i * k)++vs++xs.drop (i * k))
def rV (P:Program) (f e k:Nat):Prop:=∀ (a:Option Addr) (n cap:Nat) (news:List Value) (w:World),news.length=n * k→(a=none→n=0)→(∀ ad,a=some ad→∀ j u,news[j]?=some u→w.cell? (ad.add j)=some u)→(∀ u ∈ news,u.oneCell'=true)→n≤549755813888 →
 Calls P f #[.slice a n cap] w fun en w'=>∃ u',en=.returned u'∧lP w w' e k (.slice none 0 0) u' n news
def H5 {α:Type} (xs:List α) (i:Int) (z:α):Option (List α):=if 0≤i∧i≤xs.length∧xs.length≤549755813887 then some (xs.take i.toNat++[z]++xs.drop i.toNat) else .none
theorem J9 {f : Nat} {xs : Array Operand} {ts : Array TypeId} {d : Option Nat} {ty : TypeId} {pos : String} {af : Array Edge} {gd : Option (Nat × Bool)} (hf : ∃ fn, P.funcs[f]? = some fn ∧ (fn.name == "runtime.NumGoroutine") = false ∧ fn.body.isNone = false) (a : Act) (w : World) :
  (execOp a.eval ⟨d,.call ⟨.value (.func f),xs,ts⟩,ty,pos,af,gd⟩).run P w=.ok (.enter f (xs.map a.eval)) w:=by
 obtain ⟨fn,hf,E5,xu⟩:=hf
 have Ap : ¬ fn.name = "runtime.NumGoroutine" := by simpa using E5
 have Ac:¬ fn.body=.none:=fun hn=>by rw [hn] at xu; cases xu
 simp [execOp,resolve,Deferred.ofValue,Act.eval,invoke,callFunc,hf,Ap,Ac]
theorem AO {d id kk len:Nat} {t el:TypeId} {ty:TypeId} {pos:String} {af:Array Edge} {gd:Option (Nat × Bool)} {α:Type} {g:α→LV} {ys:List α} {ps:List (Nat × Operand)} (he:telem P t=some el) (oD:gI P el=true) (hk:tsize P el=kk) (K5:Nat.ble (len * kk) 16777216=true) (Nl:ps.map (·.1)=List.range len) (Mx:(ps.map fun p=>ev p.2)=ys.map g) (gM:p5 kk g) (bE:m id=.none) :
  cr P pr ⟨some d,.buildSlice t len ps.toArray,ty,pos,af,gd⟩ ev m (.arr id ys.length) (m.put id (.arr el kk (ys.map g))):=by
 subst hk
 have NK:=Nat.le_of_ble_eq_true K5
 have hu:=fO he
 obtain ⟨i,zv,hi,D8,zD,D7,e5,DZ,qI⟩:=qg oD
 obtain ⟨parts,BQ⟩:∃ parts:Array (Nat × Operand),parts=ps.toArray:=⟨_,rfl⟩
 have NB:parts.toList=ps:=by rw [BQ]
 have EX:parts.toList.map (·.1)=List.range len:=by rw [NB]; exact Nl
 have EU:qK (tsize P el) (parts.toList.map fun p=>ev p.2):=by rw [NB,Mx]; exact gM.T4 ys
 obtain ⟨o,Ux⟩:∃ o:Oper,o=⟨some d,.buildSlice t len ps.toArray,ty,pos,af,gd⟩:=⟨_,rfl⟩
 have ho:o.op=.buildSlice t len parts:=by rw [Ux,BQ]
 rw [← Ux]
 refine cr.value fun c a bA hm=>?_
 have mE:parts.toList.length=len:=by have:=congrArg List.length EX; simpa using this
 let vs:=parts.toList.map fun p=>a.eval p.2
 have hl:aC c (parts.toList.map fun p=>ev p.2) vs:=aC.of (by simp [vs]) fun j x v hx hv=>by
  simp only [vs,List.getElem?_map,Option.map_eq_some_iff] at hx hv
  obtain ⟨p,hp,rfl⟩:=hx
  obtain ⟨p',As,rfl⟩:=hv
  rw [hp] at As; cases As; exact bA _
 have hcell:∀ v ∈ vs,v.cells.size=i.size∧∀ y ∈ v.cells,y.oneCell'=true:=by
  intro v hv
  simp only [vs,List.mem_map] at hv
  obtain ⟨p,hp,rfl⟩:=hv
  obtain ⟨_,e1,e2⟩:=EU (ev p.2) (List.mem_map.2 ⟨p,hp,rfl⟩)
  obtain ⟨e3,e4⟩:=(bA p.2).cellsOf e2
  refine ⟨?_,e4⟩
  have:=e3.length
  rw [e1,qI] at this
  simpa using this.symm
 have Fa:LV.bk (parts.toList.map fun p=>ev p.2)=true:=cK.2 fun x hx=>(EU x hx).1
 have Au:(parts.map fun (p:Nat × Operand)=>(p.1,a.eval p.2)).toList=(vs.zipIdx 0).map fun x=>(x.2,x.1):=by
  apply List.ext_getElem?
  intro j
  have hj:=congrArg (fun l=>l[j]?) EX
  simp only [List.getElem?_map,List.getElem?_range] at hj
  simp only [Array.toList_map,List.getElem?_map,List.getElem?_zipIdx,vs,Nat.zero_add]
  cases hp:parts.toList[j]? with
  | none=>simp
  | some p =>
   rw [hp] at hj
   have iC:j<len:=by
    rw [← mE]; exact (List.getElem?_eq_some_iff.1 hp).1
   rw [List.getElem?_range iC] at hj
   simp at hj
   simp [hj]
 obtain ⟨cells,xy,xA⟩:∃ cells,Instr.fill (fun i'=>some (i' * i.size,i.size)) ((Array.range (len * i.size)).map (zv.cells[· % zv.cells.size]!)) (parts.map fun (p:Nat × Operand)=>(p.1,a.eval p.2)).toList=some cells∧cells.toList=flat vs:=by
  have nk:vs.length=len:=by simp [vs,mE]
  obtain ⟨r,hr,UB,NI⟩:=Great.fill_dense e5 vs 0 ((Array.range (len * i.size)).map (zv.cells[· % zv.cells.size]!)) (fun v hv=>(hcell v hv).1) (by simp [nk])
  refine ⟨r,by rw [Au]; exact hr,?_⟩
  apply List.ext_getElem?
  intro j
  rw [flat_get e5 (fun v hv=>(hcell v hv).1),Array.getElem?_toList,NI j]
  simp only [Nat.zero_mul,Nat.zero_le,true_and,Nat.zero_add,Nat.sub_zero,nk]
  by_cases hj:j<len * i.size
  ·rw [if_pos hj]
  ·rw [if_neg hj]
   have h1:¬ j / i.size<len:=fun hh=>hj ((Nat.div_lt_iff_lt_mul e5).1 hh)
   rw [List.getElem?_eq_none (by omega:vs.length≤j / i.size)]
   simp; omega
 have ow:cells=(flat vs).toArray:=by rw [← xA]
 subst ow
 have dL:(execOp a.eval o).run P c.w=.ok (.value (.slice (some ⟨c.w.heap.size,0,.none⟩) len len)) (c.w.alloc (.cells (flat vs).toArray el)):=by
  by_cases I4:len=0
  ·subst I4
   have CZ:parts=#[]:=by apply Array.ext'; simpa using mE
   subst CZ
   simp [execOp,ho,Instr.buildSlice,run_underlying hu,sizeOf,typeInfo,hi,Instr.fill,newRow,vs,flat,Array.range_zero']
  ·have HW:¬ len * i.size=0:=by
    intro h0
    rcases Nat.mul_eq_zero.1 h0 with h0 | h0 <;> omega
   have hb:=run_buildSlice (P:=P) c.w t el len (parts.map fun (p:Nat × Operand)=>(p.1,a.eval p.2)) (flat vs).toArray i zv hu hi D8 (by rw [qI] at NK; omega) HW xy
   simp [execOp,ho,hb]
 have hlen:ys.length=len:=by rw [← mE,NB]; have:=congrArg List.length Mx; simpa using this.symm
 have hB:=hm.fresh bE
 have iL:aC c (ys.map g) vs:=by rw [← Mx,← NB]; exact hl
 have BN:(flat vs).length=len * i.size:=by
  rw [dw (fun v hv=>(hcell v hv).1)]; congr 1; rw [← mE]; simp [vs]
 have bf:(c.w.alloc (.cells (flat vs).toArray el)).ownsRow 0 el i.size (.slice (some ⟨c.w.heap.size,0,.none⟩) len len) len (flat vs) :=
  ⟨BN,.inr ⟨c.w.heap.size,len,(flat vs).toArray,rfl,Nat.zero_le _,heap_alloc_new c.w _,Nat.le_refl _,by
   have:len≤len * tsize P el:=Nat.le_mul_of_pos_right _ (by rw [qI]; exact e5)
   simp only [maxLen]; omega,by simp [BN],by rw [← BN]; simp⟩⟩
 obtain ⟨c',hw,hb,h2,h3⟩:=hm.Bo (pr:=pr) id (.arr el (tsize P el) (ys.map g)) (.arr (.slice (some ⟨c.w.heap.size,0,.none⟩) len len) (tsize P el) len []) (c.w.alloc (.cells (flat vs).toArray el)) rfl rfl rfl (Nat.le_refl _) (by simp)
  (fun b hb _=>pA c.w _ b hb) (fun b hb=>by simp [BE.has,Value.ownBlock] at hb; exact .inr (by omega)) (by rw [hB]; trivial) (fun _ dn h0=>by rw [hB] at h0; cases h0)
  (fun c' hw hle dA=>by
   simp only [bt]
   refine ⟨.slice (some ⟨c.w.heap.size,0,.none⟩) len len,vs,by simp [hlen],by rw [qI]; exact e5,?_,aC.mono hle _ _ (fun j _=>dA j) iL,fun u hu=>by rw [qI]; exact hcell u hu,by rw [← Mx,← NB]; exact Fa⟩
   rw [hw,qI]; simpa [hlen] using bf)
 refine ⟨_,c',by rw [hw]; exact dL,?_,h2,h3⟩
 simp only [av]
 exact ⟨rfl,_,_,_,_,hb,by omega,fun _=>rfl⟩
theorem pf {f e0 k:Nat} (W:rV P f e0 k) (hk:Nat.ble 1 k=true) {α:Type} {g:α→LV} {xs r:List α} (id:Nat) (h:app [] xs=some r):aM P f [.ak k (xs.map g)] (Mem.of []) (.arr id r.length) (Mem.of [(id,.arr e0 k (r.map g))]):=by
 unfold app at h
 split at h
 ·rename_i hb
  obtain rfl:xs=r:=by simpa using h
  intro c vs hm ha
  simp only [aC] at ha
  obtain ⟨v,fQ,rfl,hv,rfl⟩:=ha
  simp only [av] at hv
  obtain ⟨a,cap,rfl,mB,nH,hp,hx⟩:=hv
  have nY:∃ us,(flat us).length=xs.length * k∧(a=none→xs.length=0)∧(∀ ad,a=some ad→∀ j u,(flat us)[j]?=some u→c.w.cell? (ad.add j)=some u)∧aC c (xs.map g) us∧∀ u ∈ us,u.cells.size=k∧∀ y ∈ u.cells,y.oneCell'=true:=by
   rcases hx with hx | ⟨b,off,us,rfl,Uf,hX,hl,hc,gb⟩
   ·have Je:xs=[]:=by simpa using hx
    subst Je
    exact ⟨[],by simp [flat],fun _=>rfl,by simp [flat],by simp [aC],by simp⟩
   ·refine ⟨us,?_,(fun h=>by cases h),fun ad Vs j u hu=>?_,hl,hc⟩
    ·rw [dw (fun v hv=>(hc v hv).1)]; congr 1; have:=hl.length; simpa using this.symm
    ·cases Vs; rw [Addr.add_lit]; exact gb j u hu
  obtain ⟨us,h1,h2,h3,hl,hc⟩:=nY
  have hlen:(xs.map g).length=xs.length:=by simp
  have:=W a xs.length cap (flat us) c.w h1 h2 h3 (sE fun v hv=>(hc v hv).2) (by simpa using hb)
  rw [hlen]
  refine this.mono ?_
  rintro en w' ⟨u',rfl,hr⟩
  have hB:=hm.fresh (id:=id) rfl
  obtain ⟨c',hw,il,h4,h5⟩:=hm.Bo (pr:=fun id=>Mem.of [] id ≠ .none) id (.arr e0 k (xs.map g)) (.arr u' k xs.length []) w' hr.grown.os hr.grown.tape hr.grown.output hr.drawn hr.grown.size
   (fun b hb _=>hr.grown.block b hb (by simp [Value.ownBlock])) (fun b hb=>.inr (hb.elim (fun hb=>(hr.nd b hb).elim (fun h=>by simp [Value.ownBlock] at h) (fun h=>h)) (fun hh=>by cases hh))) (by rw [hB]; trivial) (fun _ dn h0=>by rw [hB] at h0; cases h0)
   (fun c' hw hle dA=>by
    simp only [bt]
    exact ⟨u',us,by simp,Nat.le_of_ble_eq_true hk,by rw [hw]; simpa using hr.own,aC.mono hle _ _ (fun j _=>dA j) hl,hc,hp⟩)
  refine ⟨u',c',rfl,hw,h4,?_,h5.grow⟩
  simp only [av]
  refine ⟨?_,_,_,_,_,il,Nat.le_refl _,fun _=>rfl⟩
  rcases hr.own.2 with ⟨rfl,_⟩ | ⟨g,cap,cur,rfl,_⟩ <;> rfl
 ·cases h
def oW (k:IntKind) (u w:Int):Int:=u.fdiv (2 ^ min w.toNat k.bits)
theorem LS {d:Option Nat} {x y:Operand} {t t' ty:TypeId} {pos:String} {af:Array Edge} {gd:Option (Nat × Bool)} {k yk:IntKind} {u w:Int} (hx:ev x=.int k u) (hy:ev y=.int yk w) (hw:0≤w):bl P pr ⟨d,.binOp .shr t x y t',ty,pos,af,gd⟩ ev m (.int k (oW k u w)) m :=
 bl.value fun c a bA hm=>by
  have h1:=bA x (by simp [Op.operands])
  have h2:=bA y (by simp [Op.operands])
  rw [hx] at h1; rw [hy] at h2
  simp only [av] at h1 h2
  refine ⟨.int k (oW k u w),c,?_,by simp [av],hm,Step.refl pr c⟩
  have hn:¬ w<0:=by omega
  simp [execOp,h1,h2,binOp,Op.shift,hn,oW,eqGuard]
theorem LX {c:List LV} (hc:LV.bk c=true):∀ {l:List LV},LV.bk l=true→LV.bk (l++c)=true:=fun h=>jS h hc
theorem Ev {cs:Array Value} (h:∀ y ∈ cs.toList,(∃ k n,y=.int k n) ∨ ∃ b,y=.bool b) (n:Nat):Instr.sameBits (n+1) (.agg cs) (.agg cs)=true:=by
 simp only [Instr.sameBits,beq_self_eq_true,Bool.true_and,List.all_eq_true]
 intro p hp
 have Uz:p.1=p.2∧p.1 ∈ cs.toList:=by
  obtain ⟨i,hi,rfl⟩:=List.mem_iff_getElem.1 hp
  simp [List.getElem_zip]
 obtain ⟨a,b⟩:=p
 simp only at Uz ⊢
 obtain ⟨he,hm⟩:=Uz
 subst he
 rcases h _ hm with ⟨k,m,h⟩ | ⟨b,h⟩ <;> subst h <;> cases n <;> simp [Instr.sameBits]
mutual
theorem DF:∀ (x:LV),x.pure=true→x.refs=[]
 | .eF,_ | .int _ _,_ | .bool _,_ | .nil,_ | .pS _,_ | .full _ _,_ | .str _,_ | .it _,_ | .mj,_ | .fh,_ | .ak _ _,_ | .aI _ _ _ _,_=>by simp [LV.refs]
 | .ag cs,h=>by simp only [LV.pure] at h; simp only [LV.refs]; exact fk cs h
 | .fS _ cs,h=>by simp only [LV.pure] at h; simp only [LV.refs]; exact fk cs h
 | .arr _ _,h | .ptr _ _,h | .bJ _ _ _ _,h | .mp _,h=>by simp [LV.pure] at h
 | .agg cs,h=>by simp only [LV.pure] at h; simp only [LV.refs]; exact fk cs h
 | .cX cs,h=>by simp only [LV.pure] at h; simp only [LV.refs]; exact fk cs h
 | .fn _ cs,h=>by simp only [LV.pure] at h; simp only [LV.refs]; exact fk cs h
 | .vE _ cs,h=>by simp only [LV.pure] at h; simp only [LV.refs]; exact fk cs h
theorem fk:∀ (xs:List LV),LV.bk xs=true→LV.bK xs=[]
 | [],_=>by simp [LV.bK]
 | x :: xs,h=>by
  simp only [LV.bk,Bool.and_eq_true] at h
  simp only [LV.bK,DF x h.1,fk xs h.2,List.append_nil]
end
theorem gh {xs:List LV} (h:LV.bk xs=true):LV.bK xs=[]:=fk xs h
end
end Go.L
namespace Go.L
section
variable {P:Program} {N:Nat} {pr:Nat→Prop} {ops:Array Oper} {e:Env} {m m':Mem} {ev:Operand→LV} {o:Oper} {lv:LV} {l:List Oper} {KE:Env→Mem→Prop}
end
end Go.L
namespace Go.L
mutual
/-- RA the value not Qu of memory IA AL UP -/
def LV.kG:LV→Bool
 | .ak _ _=>false
 | .full _ _=>false
 | .ag _=>false
 | .fS _ _=>false
 | .aI _ _ _ _=>false
 | .agg cs=>LV.kh cs
 | .cX cs=>LV.kh cs
 | .fn _ cs=>LV.kh cs
 | .vE _ cs=>LV.kh cs
 | _=>true
def LV.kh:List LV→Bool
 | []=>true
 | x :: xs=>x.kG && LV.kh xs
end
mutual
theorem av.jk {c c':Cx}:∀ (x:LV) (v:Value),x.kG=true→(∀ id,x.a8 id=false→c'.B id=c.B id)→av c x v→av c' x v
 | .eF,v,_,_,h=>by simp only [av]
 | .int _ _,v,_,_,h=>by simpa only [av] using h
 | .bool _,v,_,_,h=>by simpa only [av] using h
 | .nil,v,_,_,h=>by simpa only [av] using h
 | .pS _,v,_,_,h=>by simpa only [av] using h
 | .str _,v,_,_,h=>by simpa only [av] using h
 | .it _,v,_,_,h=>by simpa only [av] using h
 | .full _ _,v,hn,_,h=>by simp [LV.kG] at hn
 | .mj,v,_,_,h=>by simpa only [av] using h
 | .fh,v,_,_,h=>by simpa only [av] using h
 | .ak _ _,v,hn,_,h=>by simp [LV.kG] at hn
 | .ag _,v,hn,_,h=>by simp [LV.kG] at hn
 | .fS _ _,v,hn,_,h=>by simp [LV.kG] at hn
 | .aI _ _ _ _,v,hn,_,h=>by simp [LV.kG] at hn
 | .arr id n,v,_,hB,h=>by simp only [av] at h ⊢; rw [hB id (by simp [LV.a8])]; exact h
 | .ptr id o,v,_,hB,h=>by simp only [av] at h ⊢; rw [hB id (by simp [LV.a8])]; exact h
 | .bJ id n i o,v,_,hB,h=>by simp only [av] at h ⊢; rw [hB id (by simp [LV.a8])]; exact h
 | .mp id,v,_,hB,h=>by simp only [av] at h ⊢; rw [hB id (by simp [LV.a8])]; exact h
 | .agg cs,v,hn,hB,h=>by
  simp only [av] at h ⊢
  obtain ⟨vs,h1,h2⟩:=h
  exact ⟨vs,h1,aC.jk cs vs (by simpa [LV.kG] using hn) (fun id bE=>hB id (by simpa [LV.a8] using bE)) h2⟩
 | .cX cs,v,hn,hB,h=>by
  simp only [av] at h ⊢
  obtain ⟨vs,h1,h2⟩:=h
  exact ⟨vs,h1,aC.jk cs vs (by simpa [LV.kG] using hn) (fun id bE=>hB id (by simpa [LV.a8] using bE)) h2⟩
 | .fn f cs,v,hn,hB,h=>by
  simp only [av] at h ⊢
  obtain ⟨vs,h1,h2⟩:=h
  exact ⟨vs,h1,aC.jk cs vs (by simpa [LV.kG] using hn) (fun id bE=>hB id (by simpa [LV.a8] using bE)) h2⟩
 | .vE f cs,v,hn,hB,h=>by
  simp only [av] at h ⊢
  obtain ⟨vs,h1,h2⟩:=h
  exact ⟨vs,h1,aC.jk cs vs (by simpa [LV.kG] using hn) (fun id bE=>hB id (by simpa [LV.a8] using bE)) h2⟩
theorem aC.jk {c c':Cx}:∀ (xs:List LV) (vs:List Value),LV.kh xs=true→(∀ id,LV.cu id xs=false→c'.B id=c.B id)→aC c xs vs→aC c' xs vs
 | [],vs,_,_,h=>by simpa only [aC] using h
 | x :: xs,vs,hn,hB,h=>by
  simp only [aC] at h ⊢
  obtain ⟨v,fQ,rfl,h1,h2⟩:=h
  simp only [LV.kh,Bool.and_eq_true] at hn
  exact ⟨v,fQ,rfl,av.jk x v hn.1 (fun id bE=>hB id (by simp [LV.cu,bE])) h1,aC.jk xs fQ hn.2 (fun id bE=>hB id (by simp [LV.cu,bE])) h2⟩
end
def LE.plain (id:Nat):LE→Prop
 | .box cs=>LV.kh cs=true∧LV.cu id cs=true
 | .arr _ _ xs=>LV.kh xs=true
 | .map _ _ es=>LV.kh (es.map (·.1))=true∧LV.kh (es.map (·.2))=true
 | .nest _ _ _ _=>False
 | .cW _ _ _ _ _ _ _ _=>False
 | .dead=>True
theorem bt.jk {c c':Cx} {id:Nat} (hw:c'.w=c.w) (hB:∀ i,i ≠ id→c'.B i=c.B i) {x:LE} (hx:x.plain id) {y:Option BE} (h:bt c (some x) y):bt c' (some x) y:=by
 cases x with
 | box cs =>
  simp only [bt] at h ⊢
  obtain ⟨b,vs,e,h1,h2,h3,h4⟩:=h
  exact ⟨b,vs,e,h1,by rw [hw]; exact h2,aC.jk cs vs hx.1 (fun i hi=>hB i (fun he=>by subst he; rw [hx.2] at hi; cases hi)) h3,h4⟩
 | arr e k xs =>
  simp only [bt] at h ⊢
  obtain ⟨u,vs,h1,h0,h2,h3,h4,h5⟩:=h
  exact ⟨u,vs,h1,h0,by rw [hw]; exact h2,aC.jk xs vs hx (fun i hi=>by rw [az xs h5] at hi; cases hi) h3,h4,h5⟩
 | nest e k os xs=>exact hx.elim
 | cW _ _ _ _ _ _ _ _=>exact hx.elim
 | dead=>simpa only [bt] using h
 | map kt vt es =>
  simp only [bt] at h ⊢
  obtain ⟨b,jw,ck,h1,h2,h3,h4,h5,h6,h7⟩:=h
  exact ⟨b,jw,ck,h1,by rw [hw]; exact h2,aC.jk _ _ hx.1 (fun i hi=>by rw [az _ h5] at hi; cases hi) h3,aC.jk _ _ hx.2 (fun i hi=>by rw [az _ h6] at hi; cases hi) h4,h5,h6,h7⟩
inductive pa (id k:Nat) (xs:List LV):List LV→List LV→Prop
 | nil:pa id k xs [] []
 | row {n:Nat} {l l':List LV} (hn:n=xs.length) (h:pa id k xs l l'):pa id k xs (.arr id n :: l) (.ak k xs :: l')
 | jA {x:LV} {l l':List LV} (hx:x.a8 id=true) (h:pa id k xs l l'):pa id k xs (x :: l) (x :: l')
theorem pa.rep {id k:Nat} {xs:List LV} {c c':Cx} (hV:∀ x v,x.a8 id=true→av c x v→av c' x v) (hR:∀ v,av c (.arr id xs.length) v→av c' (.ak k xs) v):∀ {l l':List LV} (h:pa id k xs l l') {vs:List Value},aC c l vs→aC c' l' vs
 | _,_,.nil,vs,hr=>by simpa only [aC] using hr
 | _,_,.row hn h,vs,hr=>by
  subst hn
  simp only [aC] at hr ⊢
  obtain ⟨v,fQ,rfl,h1,h2⟩:=hr
  exact ⟨v,fQ,rfl,hR v h1,h.rep hV hR h2⟩
 | _,_,.jA hx h,vs,hr=>by
  simp only [aC] at hr ⊢
  obtain ⟨v,fQ,rfl,h1,h2⟩:=hr
  exact ⟨v,fQ,rfl,hV _ v hx h1,h.rep hV hR h2⟩
def zR (id:Nat) (ml:List (Nat × LE)):Prop:=∀ i le,Mem.of ml i=some le→le.plain id
theorem UQ {id:Nat}:zR id []:=fun i le h=>by simp [Mem.of] at h
theorem aM.Tu {P:Program} {f:Nat} {args gw:List LV} {ml de:List (Nat × LE)} {r:LV} (id e k:Nat) {xs:List LV} (h:aM P f gw (Mem.of ml) r (Mem.of de)) (ha:pa id k xs args gw)
  (h1:Mem.of ml id=.none) (h2:Mem.of de id=.none) (kf:sG id ml=true) (hr:r.kG=true) (SK:r.a8 id=true) (wV:zR id de) (vZ:Mem.of ml dp=.none:=by exact rfl) :
  aM P f args (Mem.of ((id,.arr e k xs) :: ml)) r (Mem.of ((id,.arr e k xs) :: de)):=by
 intro c vs hm hargs
 have bE:Mem.of ((id,LE.arr e k xs) :: ml) id=some (.arr e k xs):=by simp [Mem.of]
 obtain ⟨u,us,hB,hk,bf,hl,hc,hp⟩:=j7 hm bE
 have pq:∀ i le,i ≠ id→Mem.of ((id,LE.arr e k xs) :: ml) i=some le→le.kU id=true:=fun i cs hi xE=>by
  simp only [Mem.of,hi,if_false] at xE
  exact mA kf i cs hi xE
 obtain ⟨c1,hw,hO,iD,hV,gZ,hX,HI⟩:=hm.del id pq
 have KA:(Mem.of ((id,LE.arr e k xs) :: ml)).del id=Mem.of ml:=by
  funext i
  unfold Mem.del
  by_cases hi:i=id
  ·subst hi; simp [h1]
  ·simp [hi,Mem.of]
 rw [KA] at iD
 have E2:c.Le c1:=Cx.sub_le hw hO gZ
 have hR:∀ v,av c (.arr id xs.length) v→av c1 (.ak k xs) v:=by
  intro v hv
  obtain ⟨fQ,zw,D1,iu,iL,wU,As⟩:=gl hm hv bE rfl
  simp only [av]
  have KI:=aC.mono E2 xs fQ (fun j hj=>by rw [az xs As] at hj; cases hj) iL
  rcases iu.2 with ⟨rfl,h0⟩ | ⟨g,cap,cur,rfl,_,hg,kq,_⟩
  ·exact ⟨.none,0,by rw [h0],by omega,fun _=>rfl,As,.inl (List.eq_nil_of_length_eq_zero h0)⟩
  ·refine ⟨some ⟨g,0,.none⟩,cap,rfl,kq,by simp,As,.inr ⟨g,0,fQ,rfl,by rw [hw]; exact (Array.getElem?_eq_some_iff.1 hg).1,hX g _ zw (.inl rfl),KI,wU,?_⟩⟩
   rw [hw]; exact cU iu rfl
 have nU:=h c1 vs iD (ha.rep hV hR hargs)
 rw [hw] at nU
 refine nU.mono ?_
 rintro en w' ⟨v,c2,rfl,rfl,jj,wY,hg⟩
 have vP:c2.B id=.none:=jj.fresh h2
 have CZ:¬ (fun i=>Mem.of ml i ≠ .none) dp:=fun h'=>h' vZ
 have lT:gX c c2:=fun b n hb=>by
  have:=hg.keeps CZ iD b n (by rw [hO.2]; exact hb)
  rw [hw] at this; exact this
 -- the block of the row
 have hblk:∀ b,u.ownBlock=some b→b<c.w.heap.size∧c2.w.heap[b]?=c.w.heap[b]?∧¬ c2.own b∧¬ c2.O b:=by
  intro b hb
  have dY:=(hm.gD id).lt hB (show (BE.arr u k xs.length []).has b from .inl hb)
  have Ny:¬ c1.X b:=hX b _ hB (.inl hb)
  have kz:¬ c1.own b:=fun ho=>Ny (.inr ho)
  refine ⟨dY,?_,?_,?_⟩
  ·have:=hg.jA b (by rw [hw]; exact dY) kz (.inr CZ); rw [hw] at this; exact this
  ·intro ho
   rcases hg.own b ho with h' | h'
   ·exact kz h'
   ·rw [hw] at h'; omega
  ·rw [hg.O]; exact fun ho=>Ny (.inl (.inl ho))
 let c3:Cx:=⟨c2.w,fun i=>if i=id then c.B id else c2.B i,c2.O,c2.Q⟩
 have vQ:∀ i,i ≠ id→c3.B i=c2.B i:=fun i hi=>by simp [c3,hi]
 have sI:c3.B id=c.B id:=by simp [c3]
 have pz:∀ b,c3.own b→c2.own b ∨ u.ownBlock=some b:=by
  rintro b ⟨i,be,g1,g2⟩
  by_cases hi:i=id
  ·subst hi; rw [sI,hB] at g1; cases g1; exact .inr (g2.elim (fun h=>h) (fun h=>by cases h))
  ·rw [vQ i hi] at g1; exact .inl ⟨i,be,g1,g2⟩
 have M0:c3.O=c.O:=by show c2.O=c.O; rw [hg.O,hO.1]
 have E3:c.Le c3:=by
  refine ⟨by have:=hg.size; rw [hw] at this; exact this,fun b hb hx=>⟨?_,?_⟩,lT⟩
  ·have:=hg.jA b (by rw [hw]; exact hb) (fun ho=>hx (.inr (gZ b ho))) (.inr CZ); rw [hw] at this; exact this
  ·rintro ((ho | ho) | ho)
   ·rw [M0] at ho; exact hx (.inl (.inl ho))
   ·rcases hg.qn b ho with h' | h' | h'
    ·rw [hO.2] at h'; exact hx (.inl (.inr h'))
    ·exact hx (.inr (gZ b h'))
    ·rw [hw] at h'; omega
   ·rcases pz b ho with h' | h'
    ·rcases hg.own b h' with xr | xr
     ·exact hx (.inr (gZ b xr))
     ·rw [hw] at xr; omega
    ·exact hx (.inr ⟨id,_,hB,.inl h'⟩)
 have Sj:∀ b,c3.Q b ≠ .none→¬ c3.O b∧¬ c3.own b∧b<c3.w.heap.size:=fun b hb=>by
  refine ⟨(jj.cQ b hb).1,fun ho=>?_,(jj.cQ b hb).2.2⟩
  rcases pz b ho with h' | h'
  ·exact (jj.cQ b hb).2.1 h'
  ·rcases hg.qn b hb with q | q | q
   ·rw [hO.2] at q; exact (hm.cQ b q).2.1 ⟨id,_,hB,.inl h'⟩
   ·exact hX b _ hB (.inl h') (.inr q)
   ·have:=(hblk b h').1; rw [hw] at q; omega
 refine ⟨v,c3,rfl,rfl,⟨fun i=>?_,?_,?_,?_,Sj⟩,?_,?_⟩
 ·by_cases hi:i=id
  ·subst hi
   rw [sI,hB]
   simp only [Mem.of,if_true,bt]
   exact ⟨u,us,rfl,hk,dN bf (fun b hb=>(hblk b hb).2.1),aC.mono E3 xs us (fun j hj=>by rw [az xs hp] at hj; cases hj) hl,hc,hp⟩
  ·rw [vQ i hi]
   simp only [Mem.of,hi,if_false]
   have he:=jj.gD i
   cases xE:Mem.of de i with
   | none=>rw [xE] at he; simpa only [bt] using he
   | some le=>rw [xE] at he; exact bt.jk (c:=c2) (c':=c3) rfl vQ (wV i le xE) he
 ·intro i j be eD b g1 g2 g3 g4
  by_cases hi:i=id
  ·by_cases hj:j=id
   ·rw [hi,hj]
   ·subst hi
    rw [sI,hB] at g1; cases g1
    rw [vQ j hj] at g2
    exact absurd ⟨j,eD,g2,g4⟩ (hblk b (g3.elim (fun h=>h) (fun h=>by cases h))).2.2.1
  ·by_cases hj:j=id
   ·subst hj
    rw [sI,hB] at g2; cases g2
    rw [vQ i hi] at g1
    exact absurd ⟨i,be,g1,g3⟩ (hblk b (g4.elim (fun h=>h) (fun h=>by cases h))).2.2.1
   ·rw [vQ i hi] at g1; rw [vQ j hj] at g2
    exact jj.inj i j be eD b g1 g2 g3 g4
 ·intro b ho
  rcases pz b ho with h' | h'
  ·exact jj.jQ b h'
  ·exact (hblk b h').2.2.2
 ·intro b ho; exact jj.pb b ho
 ·exact av.jk r v hr (fun i hi=>vQ i (fun he=>by subst he; rw [SK] at hi; cases hi)) wY
 ·refine ⟨M0,?_,?_,?_,?_,?_,?_,fun _ b n hb=>(lT b n hb).2,fun b hb=>?_,?_,?_⟩
  ·have:=hg.os; rw [hw] at this; exact this
  ·have:=hg.tape; rw [hw] at this; exact this
  ·have:=hg.output; rw [hw] at this; exact this
  ·have:=hg.drawn; rw [hw] at this; exact this
  ·have:=hg.size; rw [hw] at this; exact this
  ·intro b hb ho _
   have:=hg.jA b (by rw [hw]; exact hb) (fun rp=>ho (gZ b rp)) (.inr CZ); rw [hw] at this; exact this
  ·rcases hg.qn b hb with q | q | q
   ·rw [hO.2] at q; exact .inl q
   ·exact .inr (.inl (gZ b q))
   ·rw [hw] at q; exact .inr (.inr q)
  ·intro b ho
   rcases pz b ho with h' | h'
   ·rcases hg.own b h' with xr | xr
    ·exact .inl (gZ b xr)
    ·rw [hw] at xr; exact .inr xr
   ·exact .inl ⟨id,_,hB,.inl h'⟩
  ·intro i be Av M3
   by_cases hi:i=id
   ·subst hi; exact ⟨be,by rw [sI]; exact M3,.refl be⟩
   ·rw [vQ i hi]
    have Ki:c1.B i=some be:=by rw [HI i hi]; exact M3
    exact hg.AT i be (by simpa [Mem.of,hi] using Av) Ki
end Go.L
namespace Go.L
section
variable {P:Program} {N:Nat} {pr:Nat→Prop} {ops:Array Oper} {e:Env} {m m':Mem} {ev:Operand→LV} {o:Oper} {lv:LV} {l:List Oper} {KE:Env→Mem→Prop}
theorem dU.at {c:Cx} {os:List (Nat × Nat × Nat)}:∀ {xs:List LV} {vs:List Value} {bs:List Nat},dU c os xs vs bs→∀ {i:Nat} {x:LV},xs[i]?=some x →
  ∃ v bp b bq,vs[i]?=some v∧bs=bp++(b++bq)∧J4 c os x v b∧∀ {c':Cx} {x':LV} {v':Value} {b':List Nat},c.Le c'→(∀ q ∈ bp++bq,c'.w.heap[q]?=c.w.heap[q]?)→J4 c' os x' v' b'→dU c' os (xs.set i x') (vs.set i v') (bp++(b'++bq))
 | [],_,_,h,i,x,hx=>by simp at hx
 | y :: ys,vs,bs,h,i,x,hx=>by
  simp only [dU] at h
  obtain ⟨v,fQ,b1,b2,rfl,rfl,h1,h2⟩:=h
  cases i with
  | zero =>
   simp at hx; subst hx
   refine ⟨v,[],b1,b2,by simp,by simp,h1,fun {c' x' v' b'} hle hh he=>?_⟩
   simp only [List.set_cons_zero,dU,List.nil_append]
   exact ⟨v',fQ,b',b2,rfl,rfl,he,h2.mono hle (fun q hq=>hh q (by simp [hq]))⟩
  | succ i =>
   simp at hx
   obtain ⟨u,bp,b,bq,g1,rfl,g3,g4⟩:=h2.at hx
   refine ⟨u,b1++bp,b,bq,by simpa using g1,by simp,g3,fun {c' x' v' b'} hle hh he=>?_⟩
   simp only [List.set_cons_succ,dU]
   refine ⟨v,fQ.set i v',b1,bp++(b'++bq),rfl,by simp,?_,g4 hle (fun q hq=>hh q (by simp at hq ⊢; rcases hq with h | h <;> simp [h])) he⟩
   obtain ⟨cs,ws,rfl,hv,hc⟩:=h1
   exact ⟨cs,ws,rfl,hv,hc.mono hle (fun q hq=>hh q (by simp [hq]))⟩
theorem xm {k i:Nat} {vs:List Value} (h:∀ v ∈ vs,v.cells.size=k) (hi:i<vs.length) {v':Value} (hv:v'.cells.size=k):flat (vs.set i v')=(flat vs).take (i * k)++v'.cells.toList++(flat vs).drop (i * k+k):=by
 have e1:vs.set i v'=vs.take i++v' :: vs.drop (i+1):=by rw [List.set_eq_take_append_cons_drop,if_pos hi]
 obtain ⟨f1,f2⟩:=fW h (i:=i) (u:=vs[i]) (by simp [hi])
 have hu:vs[i].cells.toList.length=k:=by simpa using h _ (List.getElem_mem hi)
 rw [e1,eH,gm,f1,← f2]
 rw [List.take_left' rfl]
 have:(flat (vs.take i)).length+k=(flat (vs.take i)).length+vs[i].cells.toList.length:=by omega
 have hd:∀ (A B C:List Value),(A++(B++C)).drop (A.length+B.length)=C:=fun A B C=>by
  rw [← List.append_assoc,← List.length_append,List.drop_left' rfl]
 rw [this,hd]
 simp
theorem bZ.tc {c:Cx} (hm:bZ c m) {id e0 k:Nat} {os:List (Nat × Nat × Nat)} {xs:List LV} (bE:m id=some (.nest e0 k os xs)) {i:Nat} {x:LV} (hx:xs[i]?=some x) :
  ∃ g cap cur v bs ins,c.B id=some (.arr (.slice (some ⟨g,0,.none⟩) xs.length cap) k xs.length ins)∧c.w.heap[g]?=some (.cells cur e0 (0,0))∧cur.size=cap * k∧xs.length≤cap∧0<k ∧
   v.cells.size=k∧(∀ y ∈ v.cells,y.oneCell'=true)∧(cur.toList.drop (i * k)).take k=v.cells.toList∧J4 c os x v bs∧bs.Nodup∧g ∉ bs∧(∀ b ∈ bs,b ∈ ins) ∧
   ∀ (w':World) (x':LV) (v':Value) (By:List Nat),w'.os=c.w.os→w'.tape=c.w.tape→w'.output=c.w.output→c.w.drawn≤w'.drawn→c.w.heap.size≤w'.heap.size →
    (∀ b,b<c.w.heap.size→b ≠ g→b ∉ bs→w'.heap[b]?=c.w.heap[b]?) →
    w'.heap[g]?=some (.cells (cur.toList.take (i * k)++v'.cells.toList++cur.toList.drop (i * k+k)).toArray e0 (0,0))→v'.cells.size=k→(∀ y ∈ v'.cells,y.oneCell'=true) →
    (∀ b ∈ By,b ∈ bs ∨ c.w.heap.size≤b)→By.Nodup→(∀ c':Cx,c'.w=w'→c.Le c'→J4 c' os x' v' By) →
    ∃ c':Cx,c'.w=w'∧bZ c' (m.put id (.nest e0 k os (xs.set i x')))∧Step pr c c':=by
 have he:=hm.gD id
 rw [bE] at he
 simp only [bt] at he
 obtain ⟨u,vs,ins,hB,hk,bf,hn,hc,hnd,kz⟩:=he
 have hi:i<xs.length:=(List.getElem?_eq_some_iff.1 hx).1
 obtain ⟨v,bp,bs,bq,hv,rfl,rm,iN⟩:=hn.at hx
 have Lf:=List.mem_of_getElem? hv
 have nk:=hn.length
 rcases bf.2 with ⟨_,h0⟩ | ⟨g,cap,cur,rfl,vU,hg,kq,zA,hcs,wX⟩
 ·omega
 ·have qH : g ∉ bp ++ (bs ++ bq) := kz g rfl
  have Uh:xs.length * k≤cap * k:=Nat.mul_le_mul_right k kq
  have KG:i * k+k≤xs.length * k:=by
   have:=Nat.mul_le_mul_right k (show i+1≤xs.length by omega)
   rw [Nat.add_mul,Nat.one_mul] at this; exact this
  have lA:cur.toList.length=cur.size:=by simp
  have BN:(flat vs).length=xs.length * k:=bf.1
  have ET:(cur.toList.drop (i * k)).take k=v.cells.toList:=by
   obtain ⟨f1,f2⟩:=fW (fun v hv=>(hc v hv).1) hv
   have BR:v.cells.toList.length=k:=by simpa using (hc v Lf).1
   have:(cur.toList.drop (i * k)).take k=((flat vs).drop (i * k)).take k:=by
    rw [← wX,List.drop_take,List.take_take]
    congr 1
    omega
   rw [this,f1,← f2,List.drop_left' rfl,← BR,List.take_left' rfl]
  have oB:=List.nodup_append.1 hnd
  have HT:=List.nodup_append.1 oB.2.1
  refine ⟨g,cap,cur,v,bs,_,hB,hg,hcs,kq,hk,(hc v Lf).1,(hc v Lf).2,ET,rm,HT.1,fun h=>qH (by simp [h]),fun b hb=>by simp [hb],?_⟩
  intro w' x' v' By a1 a2 a3 a4 a5 gx sM sZ K8 HO RV KB
  have dY:∀ b ∈ bp++(bs++bq),b<c.w.heap.size:=hn.lt
  obtain ⟨c',hw,il,h2,h3⟩:=hm.Bo (pr:=pr) id (.nest e0 k os (xs.set i x')) (.arr (.slice (some ⟨g,0,.none⟩) xs.length cap) k xs.length (bp++(By++bq))) w' a1 a2 a3 a4 a5
   (fun b hb ew=>by
    have:=ew _ hB
    refine gx b hb (fun CL=>this (.inl (by rw [CL]; rfl))) (fun qG=>this (.inr (by simp [qG]))))
   (fun b hb=>by
    rcases hb with hb | hb
    ·exact .inl ⟨_,hB,.inl hb⟩
    ·simp only [List.mem_append] at hb
     rcases hb with hb | hb | hb
     ·exact .inl ⟨_,hB,.inr (by simp [hb])⟩
     ·rcases HO b hb with h | h
      ·exact .inl ⟨_,hB,.inr (by simp [h])⟩
      ·exact .inr h
     ·exact .inl ⟨_,hB,.inr (by simp [hb])⟩)
   (by rw [hB]; exact ⟨_,_,_,rfl,Nat.le_refl _,fun _=>rfl⟩) (fun _ dn h0=>by rw [hB] at h0; cases h0; exact ⟨_,_,_,rfl,Nat.le_refl _,fun _=>rfl⟩)
   (fun c' hw hle dA=>by
    simp only [bt,List.length_set]
    refine ⟨.slice (some ⟨g,0,.none⟩) xs.length cap,vs.set i v',bp++(By++bq),rfl,hk,⟨?_,.inr ⟨g,cap,_,rfl,vU,by rw [hw]; exact sM,kq,zA,?_,?_⟩⟩,iN hle (fun q hq=>?_) (KB c' hw hle),?_,?_,?_⟩
    ·rw [dw (k:=k) (fun y hy=>?_)]
     ·simp [nk]
     ·rcases List.mem_or_eq_of_mem_set hy with h | h
      ·exact (hc y h).1
      ·rw [h]; exact sZ
    ·have:v'.cells.toList.length=k:=by simpa using sZ
     simp only [List.size_toArray,List.length_append,List.length_take,List.length_drop,lA,this,hcs]
     omega
    ·rw [xm (fun y hy=>(hc y hy).1) (by omega) sZ,← wX]
     have e2:v'.cells.toList.length=k:=by simpa using sZ
     apply List.ext_getElem?
     intro j
     simp only [List.toList_toArray,List.getElem?_take,List.getElem?_append,List.length_append,List.length_take,List.getElem?_drop,e2,lA]
     repeat' split
     all_goals first | rfl | omega | (congr 1; omega) | skip
    ·refine (hw ▸ gx q (dY q (by simp at hq ⊢; rcases hq with h | h <;> simp [h])) (fun NF=>qH (by rw [← NF]; simp at hq ⊢; rcases hq with h | h <;> simp [h])) (fun HX=>?_))
     rcases List.mem_append.1 hq with h | h
     ·exact oB.2.2 q h q (by simp [HX]) rfl
     ·exact HT.2.2 q HX q h rfl
    ·intro y hy
     rcases List.mem_or_eq_of_mem_set hy with h | h
     ·exact hc y h
     ·rw [h]; exact ⟨sZ,K8⟩
    ·refine List.nodup_append.2 ⟨oB.1,List.nodup_append.2 ⟨RV,HT.2.1,fun a ha b hb o4=>?_⟩,fun a ha b hb o4=>?_⟩
     ·subst o4
      rcases HO a ha with h | h
      ·exact HT.2.2 a h a hb rfl
      ·have:=dY a (by simp [hb]); omega
     ·subst o4
      rcases List.mem_append.1 hb with h | h
      ·rcases HO a h with h' | h'
       ·exact oB.2.2 a ha a (by simp [h']) rfl
       ·have:=dY a (by simp [ha]); omega
      ·exact oB.2.2 a ha a (by simp [h]) rfl
    ·intro b hb
     have CL:g=b:=by simpa [Value.ownBlock] using hb
     subst CL
     intro wU
     simp only [List.mem_append] at wU
     rcases wU with h | h | h
     ·exact qH (by simp [h])
     ·rcases HO g h with h' | h'
      ·exact qH (by simp [h'])
      ·have:=(Array.getElem?_eq_some_iff.1 hg).1; omega
     ·exact qH (by simp [h]))
  exact ⟨c',hw,h2,h3⟩
theorem FP {c:Cx} {m:Mem} (hm:bZ c m) {id n e0 k:Nat} {os:List (Nat × Nat × Nat)} {xs:List LV} {v:Value} (hv:av c (.arr id n) v) (bE:m id=some (.nest e0 k os xs)) (hn:n=xs.length) :
  ∃ vs ins,c.B id=some (.arr v k xs.length ins)∧0<k∧c.w.ownsRow 0 e0 k v xs.length (flat vs)∧dU c os xs vs ins∧(∀ v ∈ vs,v.cells.size=k∧∀ y ∈ v.cells,y.oneCell'=true):=by
 have he:=hm.gD id
 rw [bE] at he
 simp only [bt] at he
 obtain ⟨u,vs,ins,hB,hk,bf,hl,hc,_⟩:=he
 simp only [av] at hv
 obtain ⟨_,u',k',len,ll,iB,xD,hv⟩:=hv
 rw [hB] at iB
 cases iB
 have:=hv hn
 subst this
 exact ⟨vs,ins,hB,hk,bf,hl,hc⟩
theorem LN {d:Option Nat} {x y:Operand} {t ty:TypeId} {pos:String} {af:Array Edge} {g:Option (Nat × Bool)} {el kk id n:Nat} {os:List (Nat × Nat × Nat)} {xs:List LV} {k:IntKind} {u:Int} (he:telem P t=some el) (hk:tok P el=true) (hs:tsize P el=kk) (hx:ev x=.arr id n) (hm:m id=some (.nest el kk os xs)) (hn:n=xs.length) (hy:ev y=.int k u) (h0:0≤u) (h1:u.toNat<xs.length) :
  bl P pr ⟨d,.indexAddr t x y,ty,pos,af,g⟩ ev m (.bJ id n u.toNat 0) m:=by
 have hu:=fO he
 refine bl.value fun c a bA hM=>?_
 have Fx:=bA y (by simp [Op.operands])
 rw [hy] at Fx
 simp only [av] at Fx
 have hv:=bA x (by simp [Op.operands])
 rw [hx] at hv
 obtain ⟨vs,ins,hB,I3,bf,hl,hc⟩:=FP hM hv hm hn
 subst hn
 rcases bf.2 with ⟨_,RE⟩ | ⟨g,cap,cur,Lh,_⟩
 ·omega
 ·refine ⟨.pointer (some ⟨g,u.toNat * kk,.none⟩),c,?_,?_,hM,Step.refl pr c⟩
  ·unfold tok at hk
   cases sO:P.info? el with
   | none=>simp [sO] at hk
   | some ie =>
    have lT:kk=ie.size:=by rw [← hs]; simp [tsize,sO]
    have vV:u<(xs.length:Int):=by omega
    simp [execOp,Lh,Fx,Instr.indexAt,asIntOf,run_underlying hu,h0,vV,sizeOf,typeInfo,sO,Addr.add_mid,lT]
  ·simp only [av]
   exact ⟨rfl,_,kk,xs.length,_,hB,by omega,fun _=>⟨g,by rw [Lh]; rfl,by simp⟩⟩
end
theorem se.Aa {c c':Cx} (hle:c.Le c') (hw:c'.w=c.w) {e k:Nat} {x:LV} {v:Value} {bs:List Nat} (hX:∀ b ∈ bs,¬ c'.X b) (h:se c e k x v bs):av c' x v:=by
 rcases h with ⟨rfl,_⟩ | ⟨ys,us,rfl,hk,bf,hl,hc,hp,rfl⟩
 ·simp only [av]
 ·simp only [av]
  have iL:=aC.mono hle ys us (fun j hj=>by rw [az ys hp] at hj; cases hj) hl
  rcases bf.2 with ⟨rfl,h0⟩ | ⟨g,cap,cur,rfl,_,hg,kq,_⟩
  ·exact ⟨.none,0,by rw [h0],by omega,fun _=>rfl,hp,.inl (List.eq_nil_of_length_eq_zero h0)⟩
  ·refine ⟨some ⟨g,0,.none⟩,cap,rfl,kq,by simp,hp,.inr ⟨g,0,us,rfl,by rw [hw]; exact (Array.getElem?_eq_some_iff.1 hg).1,hX g (by simp [Value.ownBlock]),iL,hc,?_⟩⟩
   rw [hw]; exact cU bf rfl
theorem ix.Aa {c c':Cx} (hle:c.Le c') (hw:c'.w=c.w) {os:List (Nat × Nat × Nat)}:∀ {o:Nat} {xs:List LV} {ws:List Value} {bs:List Nat},(∀ b ∈ bs,¬ c'.X b)→ix c os o xs ws bs→aC c' xs ws
 | _,[],_,_,_,h=>by simp only [ix] at h; simp only [aC]; exact h.1
 | o,x :: xs,ws,bs,hX,h=>by
  simp only [ix] at h
  obtain ⟨w,Ed,b1,b2,rfl,rfl,h1,h2⟩:=h
  simp only [aC]
  refine ⟨w,Ed,rfl,?_,ix.Aa hle hw (fun b hb=>hX b (by simp [hb])) h2⟩
  unfold fu at h1
  split at h1
  ·exact se.Aa hle hw (fun b hb=>hX b (by simp [hb])) h1
  ·exact av.mono hle x w (fun id bE=>by rw [eS x h1.2.1] at bE; cases bE) h1.1
theorem dU.Aa {c c':Cx} (hle:c.Le c') (hw:c'.w=c.w) {os:List (Nat × Nat × Nat)}:∀ {xs:List LV} {vs:List Value} {bs:List Nat},(∀ b ∈ bs,¬ c'.X b)→dU c os xs vs bs→aC c' xs vs
 | [],_,_,_,h=>by simp only [dU] at h; simp only [aC]; exact h.1
 | x :: xs,vs,bs,hX,h=>by
  simp only [dU] at h
  obtain ⟨v,fQ,b1,b2,rfl,rfl,⟨cs,ws,rfl,rfl,h1⟩,h2⟩:=h
  simp only [aC]
  refine ⟨_,fQ,rfl,?_,dU.Aa hle hw (fun b hb=>hX b (by simp [hb])) h2⟩
  simp only [av]
  exact ⟨ws,rfl,h1.Aa hle hw (fun b hb=>hX b (by simp [hb]))⟩
theorem mX {P:Program} {pr:Nat→Prop} {ro:List Nat} {ops:Array Oper} {l:List Oper} {ey:List Nat} {KE:Env→Mem→Prop} {e:Env} {m m':Mem} {lv:LV} {i:Nat} {op:Op} {ty:TypeId} {pos:String} {af:Array Edge} (h:bl P pr ⟨some i,op,ty,pos,af,.none⟩ (c9 e) m lv m') (hr:cI P pr ro ops (List.zip l ey) KE (e.put i lv) m'):cI P pr ro ops (List.zip (⟨some i,op,ty,pos,af,.none⟩ :: l) (3 :: ey)) KE e m:=⟨lv,m',h,hr⟩
theorem UM {P:Program} {pr:Nat→Prop} {ro:List Nat} {ops:Array Oper} {l:List Oper} {ey:List Nat} {KE:Env→Mem→Prop} {e:Env} {m m':Mem} {lv:LV} {op:Op} {ty:TypeId} {pos:String} {af:Array Edge} (h:bl P pr ⟨.none,op,ty,pos,af,.none⟩ (c9 e) m lv m') (hr:cI P pr ro ops (List.zip l ey) KE e m'):cI P pr ro ops (List.zip (⟨.none,op,ty,pos,af,.none⟩ :: l) (3 :: ey)) KE e m:=⟨lv,m',h,hr⟩
end Go.L
namespace Go.L
section
variable {P:Program} {N:Nat} {pr:Nat→Prop} {ops:Array Oper} {ev:Operand→LV} {o:Oper} {lv:LV} {m m':Mem}
theorem bZ.IH {c:Cx} (h:bZ c m) (id id2:Nat) (ew:id ≠ id2) (le UJ:LE) (be Bx:BE) (w':World)
  (D3:w'.os=c.w.os) (pD:w'.tape=c.w.tape) (oC:w'.output=c.w.output) (xw:c.w.drawn≤w'.drawn) (fj:c.w.heap.size≤w'.heap.size)
  (gx:∀ b,b<c.w.heap.size→(∀ dn,c.B id=some dn→¬ dn.has b)→(∀ dn,c.B id2=some dn→¬ dn.has b)→w'.heap[b]?=c.w.heap[b]?)
  (hblk:∀ b,be.has b ∨ Bx.has b→(∃ dn,c.B id=some dn∧dn.has b) ∨ (∃ dn,c.B id2=some dn∧dn.has b) ∨ c.w.heap.size≤b) (CP:∀ b,be.has b→Bx.has b→False)
  (hle:js (c.B id) (some be)) (oz:js (c.B id2) (some Bx)) (mi:pr id→∀ dn,c.B id=some dn→dn.kP be) (sV:pr id2→∀ dn,c.B id2=some dn→dn.kP Bx)
  (iy:∀ c':Cx,c'.w=w'→c.Le c'→(∀ i,js (c.B i) (c'.B i))→c'.B id2=some Bx→bt c' (some le) (some be)) (xx:∀ c':Cx,c'.w=w'→c.Le c'→(∀ i,js (c.B i) (c'.B i))→bt c' (some UJ) (some Bx)) :
  ∃ c':Cx,c'.w=w'∧c'.B id=some be∧c'.B id2=some Bx∧bZ c' ((m.put id le).put id2 UJ)∧Step pr c c':=by
 let c':Cx:=⟨w',fun i=>if i=id2 then some Bx else if i=id then some be else c.B i,c.O,c.Q⟩
 have e1:c'.B id=some be:=by simp [c',ew]
 have e2:c'.B id2=some Bx:=by simp [c']
 have e3:∀ i,i ≠ id→i ≠ id2→c'.B i=c.B i:=fun i h1 h2=>by simp [c',h1,h2]
 have key:∀ i b1 b,c'.B i=some b1→b1.has b→(∃ j dn,c.B j=some dn∧dn.has b∧(j=i ∨ (i=id ∨ i=id2)∧(j=id ∨ j=id2))) ∨ c.w.heap.size≤b:=by
  intro i b1 b g1 g2
  by_cases hi:i=id
  ·subst hi; rw [e1] at g1; cases g1
   rcases hblk b (.inl g2) with ⟨dn,q1,q2⟩ | ⟨dn,q1,q2⟩ | q
   ·exact .inl ⟨i,dn,q1,q2,.inl rfl⟩
   ·exact .inl ⟨id2,dn,q1,q2,.inr ⟨.inl rfl,.inr rfl⟩⟩
   ·exact .inr q
  ·by_cases lB:i=id2
   ·subst lB; rw [e2] at g1; cases g1
    rcases hblk b (.inr g2) with ⟨dn,q1,q2⟩ | ⟨dn,q1,q2⟩ | q
    ·exact .inl ⟨id,dn,q1,q2,.inr ⟨.inr rfl,.inl rfl⟩⟩
    ·exact .inl ⟨i,dn,q1,q2,.inl rfl⟩
    ·exact .inr q
   ·rw [e3 i hi lB] at g1; exact .inl ⟨i,b1,g1,g2,.inl rfl⟩
 have bf:∀ b,c'.own b→c.own b ∨ c.w.heap.size≤b:=by
  rintro b ⟨i,eD,h1,h2⟩
  rcases key i eD b h1 h2 with ⟨j,dn,q1,q2,_⟩ | q
  ·exact .inl ⟨j,dn,q1,q2⟩
  ·exact .inr q
 have jH:Grow pr c c':=by
  refine ⟨rfl,D3,pD,oC,xw,fj,fun b hb ho _=>gx b hb (fun dn h0 h1=>ho ⟨id,dn,h0,h1⟩) (fun dn h0 h1=>ho ⟨id2,dn,h0,h1⟩),fun _ _ _ h=>h,fun _ h=>.inl h,bf,fun i eD hp hb=>?_⟩
  by_cases hi:i=id
  ·subst hi; exact ⟨be,e1,mi hp eD hb⟩
  ·by_cases lB:i=id2
   ·subst lB; exact ⟨Bx,e2,sV hp eD hb⟩
   ·exact ⟨eD,by rw [e3 i hi lB]; exact hb,.refl eD⟩
 have lT:gX c c':=h.FI ⟨rfl,rfl⟩ fun b hb ho=>gx b hb (fun dn h0 h1=>ho ⟨id,dn,h0,h1⟩) (fun dn h0 h1=>ho ⟨id2,dn,h0,h1⟩)
 have mh:=jH.le lT
 have dA:∀ i,js (c.B i) (c'.B i):=by
  intro i
  by_cases hi:i=id
  ·subst hi; rw [e1]; exact hle
  ·by_cases lB:i=id2
   ·subst lB; rw [e2]; exact oz
   ·rw [e3 i hi lB]; exact js.refl _
 refine ⟨c',rfl,e1,e2,⟨fun i=>?_,?_,?_,?_,h.UN ⟨rfl,rfl⟩ fj bf⟩,jH,dA,lT⟩
 ·by_cases lB:i=id2
  ·subst lB; rw [e2]; simp only [Mem.put,if_true]; exact xx c' rfl mh dA
  ·by_cases hi:i=id
   ·subst hi; rw [e1]; simp only [Mem.put,lB,if_false,if_true]; exact iy c' rfl mh dA e2
   ·rw [e3 i hi lB]
    simp only [Mem.put,hi,lB,if_false]
    refine (h.gD i).mono mh dA fun eD b hb qG=>?_
    refine gx b ((h.gD i).lt hb qG) (fun dn h0 h1=>?_) (fun dn h0 h1=>?_)
    ·exact hi (h.inj i id eD dn b hb h0 qG h1)
    ·exact lB (h.inj i id2 eD dn b hb h0 qG h1)
 ·intro i i' b1 b2 b h1 h2 h3 h4
  rcases key i b1 b h1 h3 with ⟨j,dn,q1,q2,q3⟩ | q
  ·rcases key i' b2 b h2 h4 with ⟨j',ML,TH,TI,zE⟩ | q'
   ·have hj := h.inj j j' dn ML b q1 TH q2 TI
    subst hj
    by_cases hi:i=id
    ·by_cases gn:i'=id
     ·rw [hi,gn]
     ·by_cases lB:i'=id2
      ·rw [hi,e1] at h1; rw [lB,e2] at h2; cases h1; cases h2; exact (CP b h3 h4).elim
      ·rcases zE with zE | ⟨q,_⟩
       ·subst zE
        rcases q3 with q3 | ⟨_,q3⟩
        ·exact q3.symm
        ·rcases q3 with q3 | q3
         ·exact absurd q3 gn
         ·exact absurd q3 lB
       ·rcases q with q | q
        ·exact absurd q gn
        ·exact absurd q lB
    ·by_cases lB:i=id2
     ·by_cases gn:i'=id
      ·rw [lB,e2] at h1; rw [gn,e1] at h2; cases h1; cases h2; exact (CP b h4 h3).elim
      ·by_cases CS:i'=id2
       ·rw [lB,CS]
       ·rcases zE with zE | ⟨q,_⟩
        ·subst zE
         rcases q3 with q3 | ⟨_,q3⟩
         ·exact q3.symm
         ·rcases q3 with q3 | q3
          ·exact absurd q3 gn
          ·exact absurd q3 CS
        ·rcases q with q | q
         ·exact absurd q gn
         ·exact absurd q CS
     ·rcases q3 with q3 | ⟨q,_⟩
      ·subst q3
       rcases zE with zE | ⟨_,zE⟩
       ·exact zE
       ·rcases zE with zE | zE
        ·exact absurd zE hi
        ·exact absurd zE lB
      ·rcases q with q | q
       ·exact absurd q hi
       ·exact absurd q lB
   ·have:=(h.gD j).lt q1 q2; omega
  ·rcases key i' b2 b h2 h4 with ⟨j',ML,TH,TI,zE⟩ | q'
   ·have:=(h.gD j').lt TH TI; omega
   ·by_cases hi:i=id
    ·by_cases gn:i'=id
     ·rw [hi,gn]
     ·by_cases lB:i'=id2
      ·rw [hi,e1] at h1; rw [lB,e2] at h2; cases h1; cases h2; exact (CP b h3 h4).elim
      ·rw [e3 i' gn lB] at h2; have:=(h.gD i').lt h2 h4; omega
    ·by_cases lB:i=id2
     ·by_cases gn:i'=id
      ·rw [lB,e2] at h1; rw [gn,e1] at h2; cases h1; cases h2; exact (CP b h4 h3).elim
      ·by_cases CS:i'=id2
       ·rw [lB,CS]
       ·rw [e3 i' gn CS] at h2; have:=(h.gD i').lt h2 h4; omega
     ·rw [e3 i hi lB] at h1; have:=(h.gD i).lt h1 h3; omega
 ·intro b ho hO
  rcases bf b ho with ho | hs
  ·exact h.jQ b ho hO
  ·have:=h.pb b hO; omega
 ·intro b hO; exact Nat.lt_of_lt_of_le (h.pb b hO) fj
theorem ix.at {c:Cx} {os:List (Nat × Nat × Nat)}:∀ {q:Nat} {xs:List LV} {ws:List Value} {bs:List Nat},ix c os q xs ws bs→∀ {j:Nat} {x:LV},xs[j]?=some x →
  ∃ w bp b bq,ws[j]?=some w∧bs=bp++(b++bq)∧fu c os (q+j) x w b∧∀ {c':Cx} {x':LV} {w':Value} {b':List Nat},c.Le c'→(∀ r ∈ bp++bq,c'.w.heap[r]?=c.w.heap[r]?)→fu c' os (q+j) x' w' b'→ix c' os q (xs.set j x') (ws.set j w') (bp++(b'++bq))
 | _,[],_,_,h,j,x,hx=>by simp at hx
 | q,y :: ys,ws,bs,h,j,x,hx=>by
  simp only [ix] at h
  obtain ⟨w,Ed,b1,b2,rfl,rfl,h1,h2⟩:=h
  cases j with
  | zero =>
   simp at hx; subst hx
   refine ⟨w,[],b1,b2,by simp,by simp,h1,fun {c' x' w' b'} hle hh he=>?_⟩
   simp only [List.set_cons_zero,ix,List.nil_append]
   exact ⟨w',Ed,b',b2,rfl,rfl,he,h2.mono hle (fun r hr=>hh r (by simp [hr]))⟩
  | succ j =>
   simp at hx
   obtain ⟨u,bp,b,bq,g1,rfl,g3,g4⟩:=ix.at h2 hx
   have hq:q+1+j=q+(j+1):=by omega
   rw [hq] at g3
   refine ⟨u,b1++bp,b,bq,by simpa using g1,by simp,g3,fun {c' x' w' b'} hle hh he=>?_⟩
   simp only [List.set_cons_succ,ix]
   refine ⟨w,Ed.set j w',b1,bp++(b'++bq),rfl,by simp,h1.mono hle (fun r hr=>hh r (by simp [hr])),g4 hle (fun r hr=>hh r (by simp at hr ⊢; rcases hr with h | h <;> simp [h])) (by rw [hq]; exact he)⟩
theorem nv {w:World} {g i k o0 e0:Nat} {cur:Array Value} {ws:List Value} {x:Value} (hg:w.heap[g]?=some (.cells cur e0 (0,0))) (uc:(cur.toList.drop (i * k)).take k=ws) (hw:ws[o0]?=some x):w.cell? ⟨g,i * k+o0,.none⟩=some x:=by
 rw [← uc,List.getElem?_take] at hw
 split at hw
 ·rw [List.getElem?_drop] at hw
  simp [World.cell?,hg]
  simpa using hw
 ·cases hw
theorem qS {cur ws:List Value} {ik k o0:Nat} {w':Value} (uc:(cur.drop ik).take k=ws) (hk:ik+k≤cur.length) (ho:o0<k):cur.take (ik+o0)++[w']++cur.drop (ik+o0+1)=cur.take ik++ws.set o0 w'++cur.drop (ik+k):=by
 have BS:ws.length=k:=by rw [← uc]; simp; omega
 have e1:cur.take (ik+o0)++[w']++cur.drop (ik+o0+1)=cur.set (ik+o0) w':=by
  rw [List.set_eq_take_append_cons_drop,if_pos (by omega)]; simp
 have e2:cur=cur.take ik++(ws++cur.drop (ik+k)):=by
  rw [← uc]
  have:cur.drop (ik+k)=(cur.drop ik).drop k:=by rw [List.drop_drop]
  rw [this,List.take_append_drop,List.take_append_drop]
 have hl:(cur.take ik).length=ik:=by simp; omega
 rw [e1]
 conv=>lhs; rw [e2]
 rw [List.set_append_right _ _ (by omega),hl,show ik+o0 - ik=o0 by omega,List.set_append_left _ _ (by omega)]
 simp
theorem jg {c:Cx} {id n i o0 g cap k len:Nat} {ins:List Nat} {v:Value} (hv:av c (.bJ id n i o0) v) (hB:c.B id=some (.arr (.slice (some ⟨g,0,.none⟩) len cap) k len ins)) (hn:n=len):v=.pointer (some ⟨g,i * k+o0,.none⟩):=by
 simp only [av] at hv
 obtain ⟨_,u',k',ln,ll,iB,xD,hv⟩:=hv
 rw [hB] at iB
 cases iB
 obtain ⟨b,hb,he⟩:=hv hn
 have:g=b:=by simpa [Value.ownBlock] using hb
 rw [this]; exact he
section
variable {d:Option Nat} {d1:Nat} {x y:Operand} {t ty:TypeId} {pos:String} {af:Array Edge} {gd:Option (Nat × Bool)} {e0 k id n i o0:Nat} {os:List (Nat × Nat × Nat)} {xs cs:List LV} {z:LV}
theorem fH (hx:ev x=.bJ id n i o0) (hm:m id=some (.nest e0 k os xs)) (hn:n=xs.length) (hz:xs[i]?=some z):bl P pr ⟨d,.nilCheck x,ty,pos,af,gd⟩ ev m (.bJ id n i o0) m:=by
 refine bl.value fun c a bA hM=>?_
 have hv:=bA x (by simp [Op.operands])
 rw [hx] at hv
 obtain ⟨g,cap,cur,v,bs,ins,hB,_⟩:=hM.tc (pr:=pr) hm hz
 have he:=jg hv hB hn
 exact ⟨a.eval x,c,by simp [execOp,he],hv,hM,Step.refl pr c⟩
theorem fG {f off ft kk:Nat} (hf:tfield P t f=some (off,ft)) (hk:tok P ft=true) (hs:tsize P ft=kk+1) (hx:ev x=.bJ id n i o0) (hm:m id=some (.nest e0 k os xs)) (hn:n=xs.length) (hz:xs[i]?=some z):bl P pr ⟨d,.fieldAddr t x f,ty,pos,af,gd⟩ ev m (.bJ id n i (o0+off)) m:=by
  obtain ⟨fs,fd,hu,BM,rfl,rfl⟩:∃ fs fd,P.underlying t=some (.struct fs)∧fs[f]?=some fd∧fd.offset=off∧fd.type=ft:=by
    unfold tfield at hf
    split at hf
    · rename_i fs hu
      cases KD:fs[f]? with
      | none=>simp [KD] at hf
      | some fd=>simp [KD] at hf; exact ⟨fs,fd,hu,KD,hf.1,hf.2⟩
    · cases hf
  refine bl.value fun c a bA hM=>?_
  have hv:=bA x (by simp [Op.operands])
  rw [hx] at hv
  obtain ⟨g,cap,cur,v,bs,ins,hB,_⟩:=hM.tc (pr:=pr) hm hz
  have he:=jg hv hB hn
  have hi:∃ i,P.info? fd.type=some i∧i.size ≠ 0:=by
    unfold tok at hk
    cases hi:P.info? fd.type with
    | none=>simp [hi] at hk
    | some i => exact ⟨i, rfl, by have : tsize P fd.type = i.size := by simp [tsize, hi]
                                  omega⟩
  obtain ⟨ii,hi,Nj⟩:=hi
  refine ⟨.pointer (some ⟨g,i * k+(o0+fd.offset),.none⟩),c,?_,?_,hM,Step.refl pr c⟩
  · simp [execOp,he,Instr.fieldAt,run_underlying hu,BM,Instr.sureAddr,fieldPlace,sizeOf,typeInfo,hi,Nj,Addr.add_mid,Nat.add_assoc]
  · simp only [av]
    exact ⟨rfl,_,k,xs.length,_,hB,by omega,fun _=>⟨g,rfl,rfl⟩⟩
theorem u0 {c:Cx} (hM:bZ c m) (hm:m id=some (.nest e0 k os xs)) (hn:n=xs.length) (hz:xs[i]?=some (.agg cs)) (hc:cs[o0]?=some z) {v:Value} (hv:av c (.bJ id n i o0) v) (ht:tok P t=true) (ha:tagg P t=false) :
  ∃ w b,fu c os o0 z w b∧(Instr.loadAt t v).run P c.w=.ok w c.w:=by
 obtain ⟨g,cap,cur,v0,bs,ins,hB,hg,hcs,kq,hk,BR,kr,uc,rm,_⟩:=hM.tc (pr:=fun _=>False) hm hz
 have he:=jg hv hB hn
 obtain ⟨dr,ws,h1,rfl,hC⟩:=rm
 cases h1
 obtain ⟨w,bp,b,bq,g1,_,g3,_⟩:=hC.at hc
 have sL:(cur.toList.drop (i * k)).take k=ws:=by simpa [Value.cells] using uc
 have hcell:=nv hg sL g1
 rw [Nat.zero_add] at g3
 refine ⟨w,b,g3,?_⟩
 rw [he]
 exact (gi (cs:=[.eF]) (vs:=[w]) (c:=c) ht (by simp [aC,av]) (fun j v hj=>by
  cases j with
  | zero=>simp at hj; subst hj; simpa using hcell
  | succ j=>simp at hj)).2 ha w [] rfl
theorem wh (hx:ev x=.bJ id n i o0) (hm:m id=some (.nest e0 k os xs)) (hn:n=xs.length) (hz:xs[i]?=some (.agg cs)) (hc:cs[o0]?=some z) (hl:os.lookup o0=.none) (ht:tok P t=true) (ha:tagg P t=false):bl P pr ⟨d,.load t x,ty,pos,af,gd⟩ ev m z m:=by
 refine bl.value fun c a bA hM=>?_
 have hv:=bA x (by simp [Op.operands])
 rw [hx] at hv
 obtain ⟨w,b,h1,h2⟩:=u0 hM hm hn hz hc hv ht ha
 unfold fu at h1
 rw [hl] at h1
 exact ⟨w,c,by simp [execOp,h2],h1.1,hM,Step.refl pr c⟩
theorem LO {e' k':Nat} {ys:List LV} (hx:ev x=.bJ id n i o0) (hm:m id=some (.nest e0 k os xs)) (hn:n=xs.length) (hz:xs[i]?=some (.agg cs)) (hc:cs[o0]?=some (.ak k' ys)) (hl:os.lookup o0=some (e',k')) (ht:tok P t=true) (ha:tagg P t=false):bl P pr ⟨d,.load t x,ty,pos,af,gd⟩ ev m (.pS ys.length) m:=by
 refine bl.value fun c a bA hM=>?_
 have hv:=bA x (by simp [Op.operands])
 rw [hx] at hv
 obtain ⟨w,b,h1,h2⟩:=u0 hM hm hn hz hc hv ht ha
 unfold fu at h1
 rw [hl] at h1
 refine ⟨w,c,by simp [execOp,h2],?_,hM,Step.refl pr c⟩
 rcases h1 with ⟨h,_⟩ | ⟨U2,us,h,_,bf,_⟩
 ·cases h
 ·cases h
  obtain ⟨ad,cp,he⟩:=dx bf
  simp only [av]; exact ⟨ad,cp,he⟩
theorem wi {el nn:Nat} (he:telem P t=some el) (hx:ev x=.pS nn):bl P pr ⟨d,.call ⟨.builtin .len,#[x],#[t]⟩,ty,pos,af,gd⟩ ev m (.int .i64 nn) m:=by
 have hu:=fO he
 refine bl.value fun c a bA hM=>?_
 have hv:=bA x (by simp [Op.operands,Call.operands])
 rw [hx] at hv
 simp only [av] at hv
 obtain ⟨ad,cp,hv⟩:=hv
 exact ⟨.int .i64 nn,c,by simp [execOp,resolve,invoke,builtin,Builtin.len_,hv,run_underlying hu,goInt],by simp [av],hM,Step.refl pr c⟩
theorem LR {z':LV} (hx:ev x=.bJ id n i o0) (hm:m id=some (.nest e0 k os xs)) (hn:n=xs.length) (hz:xs[i]?=some (.agg cs)) (hc:cs[o0]?=some z) (hl:os.lookup o0=.none) (hy:ev y=z') (wW:z'.scalar=true) (hp:z'.pure=true) (ht:tok P t=true) (hs:tsize P t=1) :
  bl P pr ⟨.none,.store t x y,ty,pos,af,gd⟩ ev m .eF (m.put id (.nest e0 k os (xs.set i (.agg (cs.set o0 z'))))):=by
 refine bl.skip rfl fun c a bA hM=>?_
 have hv:=bA x (by simp [Op.operands])
 rw [hx] at hv
 have o6:=bA y (by simp [Op.operands])
 rw [hy] at o6
 obtain ⟨g,cap,cur,v0,bs,ins,hB,hg,hcs,kq,hk,BR,kr,uc,rm,hnd,Nd,VH,ox⟩:=hM.tc (pr:=pr) hm hz
 have he:=jg hv hB hn
 obtain ⟨dr,ws,h1,rfl,hC⟩:=rm
 cases h1
 have BS:ws.length=k:=by simpa [Value.cells] using BR
 have sL:(cur.toList.drop (i * k)).take k=ws:=by simpa [Value.cells] using uc
 obtain ⟨w,bp,b,bq,g1,rfl,g3,g4⟩:=hC.at hc
 have gM:o0<k:=by rw [← BS]; exact (List.getElem?_eq_some_iff.1 g1).1
 have hi:i<xs.length:=(List.getElem?_eq_some_iff.1 hz).1
 have KG:i * k+k≤cur.size:=by
  have h1:=Nat.mul_le_mul_right k (show i+1≤cap by omega)
  rw [Nat.add_mul,Nat.one_mul] at h1; omega
 have uq:=eJ wW o6
 have C3:=dq uq
 have dL:=iZ (P:=P) (t:=t) (v:=a.eval y) (off:=i * k+o0) ht (by rw [hs,C3]; rfl) hg (by rw [C3]; simp; omega) (by rw [C3]; simpa using uq)
 rw [C3] at dL
 have iN:=qS (w':=a.eval y) sL (by simpa using KG) gM
 have oD:(cur.toList.take (i * k+o0)++[a.eval y]++cur.toList.drop (i * k+o0+1))=cur.toList.take (i * k)++(Value.agg (ws.set o0 (a.eval y)).toArray).cells.toList++cur.toList.drop (i * k+k):=by rw [iN]; simp [Value.cells]
 have HL:b=[]:=by unfold fu at g3; rw [Nat.zero_add,hl] at g3; exact g3.2.2
 subst HL
 obtain ⟨c',hw,h2,h3⟩:=ox (c.w.setRow g (cur.toList.take (i * k+o0)++[a.eval y]++cur.toList.drop (i * k+o0+1)).toArray) (.agg (cs.set o0 z')) (.agg (ws.set o0 (a.eval y)).toArray) (bp++([]++bq)) rfl rfl rfl (Nat.le_refl _) (by simp)
  (fun b hb ew _=>setRow_other _ _ _ _ ew) (by rw [oD]; exact setRow_heap c.w g _ _ e0 _ hg) (by simp [Value.cells,BS]) (fun q hq=>by
   simp only [Value.cells] at hq kr
   have o5:q ∈ ws.set o0 (a.eval y):=by simpa using hq
   rcases List.mem_or_eq_of_mem_set o5 with h | h
   ·exact kr q (by simpa using h)
   ·rw [h]; exact uq) (fun b hb=>.inl hb) hnd (fun c' hw hle=>⟨_,_,rfl,rfl,g4 hle (fun r hr=>by rw [hw]; exact setRow_other _ _ _ _ (fun NH=>Nd (by rw [← NH]; simp at hr ⊢; exact hr)))
   (by unfold fu; rw [Nat.zero_add,hl]; exact ⟨av.mono hle z' _ (fun q hq=>by rw [eS z' hp] at hq; cases hq) o6,hp,rfl⟩)⟩)
 refine ⟨c',?_,h2,h3⟩
 rw [hw]
 simp [execOp,he,dL]
end
end
end Go.L
namespace Go.L
theorem pH {c:Cx} {e0 k:Nat} {os:List (Nat × Nat × Nat)} {xs:List LV} {y:Option BE} (he:bt c (some (.nest e0 k os xs)) y) {i:Nat} {x:LV} (hx:xs[i]?=some x) :
  ∃ g cap cur v bp bs bq,y=some (.arr (.slice (some ⟨g,0,.none⟩) xs.length cap) k xs.length (bp++(bs++bq)))∧c.w.heap[g]?=some (.cells cur e0 (0,0))∧cur.size=cap * k∧xs.length≤cap∧0<k ∧
   v.cells.size=k∧(∀ y ∈ v.cells,y.oneCell'=true)∧(cur.toList.drop (i * k)).take k=v.cells.toList∧J4 c os x v bs∧(bp++(bs++bq)).Nodup∧g ∉ bp++(bs++bq) ∧
   ∀ (c':Cx) (x':LV) (v':Value) (By:List Nat),c.Le c'→c'.w.heap[g]?=some (.cells (cur.toList.take (i * k)++v'.cells.toList++cur.toList.drop (i * k+k)).toArray e0 (0,0))→(∀ q ∈ bp++bq,c'.w.heap[q]?=c.w.heap[q]?) →
    v'.cells.size=k→(∀ y ∈ v'.cells,y.oneCell'=true)→J4 c' os x' v' By→(bp++(By++bq)).Nodup→g ∉ By→bt c' (some (.nest e0 k os (xs.set i x'))) (some (.arr (.slice (some ⟨g,0,.none⟩) xs.length cap) k xs.length (bp++(By++bq)))):=by
 simp only [bt] at he
 obtain ⟨u,vs,ins,rfl,hk,bf,hn,hc,hnd,kz⟩:=he
 have hi:i<xs.length:=(List.getElem?_eq_some_iff.1 hx).1
 obtain ⟨v,bp,bs,bq,hv,rfl,rm,iN⟩:=hn.at hx
 have Lf:=List.mem_of_getElem? hv
 have nk:=hn.length
 rcases bf.2 with ⟨_,h0⟩ | ⟨g,cap,cur,rfl,vU,hg,kq,zA,hcs,wX⟩
 ·omega
 ·have qH:g ∉ bp++(bs++bq):=kz g rfl
  have Uh:xs.length * k≤cap * k:=Nat.mul_le_mul_right k kq
  have KG:i * k+k≤xs.length * k:=by
   have:=Nat.mul_le_mul_right k (show i+1≤xs.length by omega)
   rw [Nat.add_mul,Nat.one_mul] at this; exact this
  have lA:cur.toList.length=cur.size:=by simp
  have ET:(cur.toList.drop (i * k)).take k=v.cells.toList:=by
   obtain ⟨f1,f2⟩:=fW (fun v hv=>(hc v hv).1) hv
   have BR:v.cells.toList.length=k:=by simpa using (hc v Lf).1
   have:(cur.toList.drop (i * k)).take k=((flat vs).drop (i * k)).take k:=by
    rw [← wX,List.drop_take,List.take_take]
    congr 1
    omega
   rw [this,f1,← f2,List.drop_left' rfl,← BR,List.take_left' rfl]
  refine ⟨g,cap,cur,v,bp,bs,bq,rfl,hg,hcs,kq,hk,(hc v Lf).1,(hc v Lf).2,ET,rm,hnd,qH,?_⟩
  intro c' x' v' By hle sM gx sZ K8 KB oB Nd
  simp only [bt,List.length_set]
  refine ⟨.slice (some ⟨g,0,.none⟩) xs.length cap,vs.set i v',bp++(By++bq),rfl,hk,⟨?_,.inr ⟨g,cap,_,rfl,vU,sM,kq,zA,?_,?_⟩⟩,iN hle gx KB,?_,oB,?_⟩
  ·rw [dw (k:=k) (fun y hy=>?_)]
   ·simp [nk]
   ·rcases List.mem_or_eq_of_mem_set hy with h | h
    ·exact (hc y h).1
    ·rw [h]; exact sZ
  ·have:v'.cells.toList.length=k:=by simpa using sZ
   simp only [List.size_toArray,List.length_append,List.length_take,List.length_drop,lA,this,hcs]
   omega
  ·rw [xm (fun y hy=>(hc y hy).1) (by omega) sZ,← wX]
   have e2:v'.cells.toList.length=k:=by simpa using sZ
   apply List.ext_getElem?
   intro j
   simp only [List.toList_toArray,List.getElem?_take,List.getElem?_append,List.length_append,List.length_take,List.getElem?_drop,e2,lA]
   repeat' split
   all_goals first | rfl | omega | (congr 1; omega) | skip
  ·intro y hy
   rcases List.mem_or_eq_of_mem_set hy with h | h
   ·exact hc y h
   ·rw [h]; exact ⟨sZ,K8⟩
  ·intro b hb
   have CL:g=b:=by simpa [Value.ownBlock] using hb
   subst CL
   intro wU
   simp only [List.mem_append] at wU qH
   rcases wU with h | h | h
   ·exact qH (.inl h)
   ·exact Nd h
   ·exact qH (.inr (.inr h))
section
variable {P:Program} {N:Nat} {pr:Nat→Prop} {ev:Operand→LV} {m:Mem} {d:Option Nat} {x y:Operand} {t ty:TypeId} {pos:String} {af:Array Edge} {gd:Option (Nat × Bool)} {e0 k id n i o0 id2 e' k':Nat} {os:List (Nat × Nat × Nat)} {xs cs ys:List LV}
theorem F5 (hx:ev x=.bJ id n i o0) (hm:m id=some (.nest e0 k os xs)) (hn:n=xs.length) (hz:xs[i]?=some (.agg cs)) (hc:cs[o0]?=some (.ak k' ys)) (hl:os.lookup o0=some (e',k')) (bE:m id2=.none) (ht:tok P t=true) (ha:tagg P t=false) :
  bl P pr ⟨d,.load t x,ty,pos,af,gd⟩ ev m (.arr id2 ys.length) ((m.put id (.nest e0 k os (xs.set i (.agg (cs.set o0 .eF))))).put id2 (.arr e' k' ys)):=by
 have ew:id ≠ id2:=fun h=>by rw [h,bE] at hm; cases hm
 refine bl.value fun c a bA hM=>?_
 have hv:=bA x (by simp [Op.operands])
 rw [hx] at hv
 have iy:=hM.gD id
 rw [hm] at iy
 obtain ⟨g,cap,cur,v,bp,bs,bq,hB,hg,hcs,kq,hk,BR,kr,uc,rm,hnd,qH,ox⟩:=pH iy hz
 have he:=jg hv hB hn
 obtain ⟨dr,ws,h1,rfl,hC⟩:=rm
 cases h1
 have sL:(cur.toList.drop (i * k)).take k=ws:=by simpa [Value.cells] using uc
 obtain ⟨w,cp,cb,cq,g1,rfl,g3,g4⟩:=hC.at hc
 have hcell:=nv hg sL g1
 rw [Nat.zero_add] at g3 g4
 unfold fu at g3
 rw [hl] at g3
 obtain ⟨us,D1,bf,zC,K7,Fc,rfl⟩:∃ us,0<k'∧c.w.ownsRow 0 e' k' w ys.length (flat us)∧aC c ys us∧(∀ u ∈ us,u.cells.size=k'∧∀ y ∈ u.cells,y.oneCell'=true)∧LV.bk ys=true∧cb=w.ownBlock.toList:=by
  rcases g3 with ⟨h,_⟩ | ⟨U2,us,h,q0,q1,q2,q3,q4,q5⟩
  ·cases h
  ·cases h; exact ⟨us,q0,q1,q2,q3,q4,q5⟩
 have dL:(Instr.loadAt t (a.eval x)).run P c.w=.ok w c.w:=by
  rw [he]
  exact (gi (cs:=[.eF]) (vs:=[w]) (c:=c) ht (by simp [aC,av]) (fun j v hj=>by
   cases j with
   | zero=>simp at hj; subst hj; simpa using hcell
   | succ j=>simp at hj)).2 ha w [] rfl
 have vP:=hM.fresh bE
 have oE:∀ b,b ∈ bp++((cp++([]++cq))++bq)→b ∈ bp++((cp++(w.ownBlock.toList++cq))++bq):=fun b hb=>by
  simp only [List.mem_append,List.nil_append] at hb ⊢
  rcases hb with h | (h | h) | h <;> simp [h]
 have oB:(bp++((cp++([]++cq))++bq)).Nodup:=by
  refine List.Nodup.sublist ?_ hnd
  refine List.Sublist.append (List.Sublist.refl _) (List.Sublist.append (List.Sublist.append (List.Sublist.refl _) ?_) (List.Sublist.refl _))
  exact List.Sublist.append (List.nil_sublist _) (List.Sublist.refl _)
 have pC:ws.set o0 w=ws:=by
  obtain ⟨dY,hw⟩:=List.getElem?_eq_some_iff.1 g1
  rw [← hw]; exact List.set_getElem_self dY
 obtain ⟨c',hw,RB,MQ,h2,h3⟩:=hM.IH (pr:=pr) id id2 ew (.nest e0 k os (xs.set i (.agg (cs.set o0 .eF)))) (.arr e' k' ys) (.arr (.slice (some ⟨g,0,.none⟩) xs.length cap) k xs.length (bp++((cp++([]++cq))++bq))) (.arr w k' ys.length []) c.w rfl rfl rfl (Nat.le_refl _) (Nat.le_refl _)
  (fun b _ _ _=>rfl)
  (fun b hb=>by
   rcases hb with hb | hb
   ·rcases hb with hb | hb
    ·exact .inl ⟨_,hB,.inl hb⟩
    ·exact .inl ⟨_,hB,.inr (oE b hb)⟩
   ·rcases hb with hb | hb
    ·exact .inl ⟨_,hB,.inr (by simp [hb])⟩
    ·cases hb)
  (fun b hb cA=>by
   have EN:w.ownBlock=some b:=by
    rcases cA with h | h
    ·exact h
    ·cases h
   rcases hb with hb | hb
   ·have:g=b:=by simpa [Value.ownBlock] using hb
    subst this
    exact qH (by simp [EN])
   ·have n1:=List.nodup_append.1 hnd
    have n2:=List.nodup_append.1 n1.2.1
    have n3:=List.nodup_append.1 n2.1
    have n4:=List.nodup_append.1 n3.2.1
    have D0:b ∈ w.ownBlock.toList:=by simp [EN]
    simp only [List.mem_append,List.nil_append] at hb
    rcases hb with h | (h | h) | h
    ·exact n1.2.2 b h b (by simp [EN]) rfl
    ·exact n3.2.2 b h b (by simp [EN]) rfl
    ·exact n4.2.2 b D0 b h rfl
    ·exact n2.2.2 b (by simp [EN]) b h rfl)
  (by rw [hB]; exact ⟨_,_,_,rfl,Nat.le_refl _,fun _=>rfl⟩) (by rw [vP]; trivial) (fun _ dn h0=>by rw [hB] at h0; cases h0; exact ⟨_,_,_,rfl,Nat.le_refl _,fun _=>rfl⟩) (fun _ dn h0=>by rw [vP] at h0; cases h0)
  (fun c' hw hle dA _=>by
   refine ox c' _ (.agg ws.toArray) _ hle ?_ (fun q _=>by rw [hw]) BR kr ⟨_,ws,rfl,rfl,?_⟩ oB (fun h=>qH (by
    simp only [List.mem_append,List.nil_append] at h ⊢
    rcases h with h | h <;> simp [h]))
   ·rw [hw,hg]
    congr 2
    apply Array.toList_inj.1
    simp only [List.toList_toArray]
    rw [← uc,← List.drop_drop,List.append_assoc,List.take_append_drop,List.take_append_drop]
   ·have:=g4 (c':=c') (x':=.eF) (w':=w) (b':=[]) hle (fun r _=>by rw [hw]) (by unfold fu; rw [hl]; exact .inl ⟨rfl,rfl⟩)
    rw [pC] at this
    exact this)
  (fun c' hw hle dA=>by
   simp only [bt]
   exact ⟨w,us,rfl,D1,by rw [hw]; exact bf,aC.mono hle ys us (fun j hj=>by rw [az ys Fc] at hj; cases hj) zC,K7,Fc⟩)
 refine ⟨w,c',by rw [hw]; simp [execOp,dL],?_,h2,h3⟩
 simp only [av]
 refine ⟨?_,_,_,_,_,MQ,Nat.le_refl _,fun _=>rfl⟩
 obtain ⟨ad,MO,Fz⟩:=dx bf
 rw [Fz]; rfl
theorem Ij {n2:Nat} (hx:ev x=.bJ id n i o0) (hm:m id=some (.nest e0 k os xs)) (hn:n=xs.length) (hz:xs[i]?=some (.agg cs)) (hc:cs[o0]?=some .eF) (hl:os.lookup o0=some (e',k')) (hy:ev y=.arr id2 n2) (jj:m id2=some (.arr e' k' ys)) (HR:n2=ys.length) (sV:¬ pr id2) (ht:tok P t=true) (hs:tsize P t=1) :
  bl P pr ⟨.none,.store t x y,ty,pos,af,gd⟩ ev m .eF ((m.put id (.nest e0 k os (xs.set i (.agg (cs.set o0 (.ak k' ys)))))).put id2 .dead):=by
 have ew:id ≠ id2:=fun h=>by rw [h,jj] at hm; cases hm
 refine bl.skip rfl fun c a bA hM=>?_
 have hv:=bA x (by simp [Op.operands])
 rw [hx] at hv
 have o6:=bA y (by simp [Op.operands])
 rw [hy] at o6
 obtain ⟨us,vP,D1,bf,zC,K7,Fc⟩:=gl hM o6 jj HR
 have iy:=hM.gD id
 rw [hm] at iy
 obtain ⟨g,cap,cur,v,bp,bs,bq,hB,hg,hcs,kq,hk,BR,kr,uc,rm,hnd,qH,ox⟩:=pH iy hz
 have he:=jg hv hB hn
 obtain ⟨dr,ws,h1,rfl,hC⟩:=rm
 cases h1
 have BS:ws.length=k:=by simpa [Value.cells] using BR
 have sL:(cur.toList.drop (i * k)).take k=ws:=by simpa [Value.cells] using uc
 obtain ⟨w0,cp,cb,cq,g1,rfl,g3,g4⟩:=hC.at hc
 rw [Nat.zero_add] at g3 g4
 have M6:cb=[]:=by
  unfold fu at g3
  rw [hl] at g3
  rcases g3 with ⟨_,h⟩ | ⟨_,_,h,_⟩
  ·exact h
  ·cases h
 subst M6
 have gM:o0<k:=by rw [← BS]; exact (List.getElem?_eq_some_iff.1 g1).1
 have hi:i<xs.length:=(List.getElem?_eq_some_iff.1 hz).1
 have KG:i * k+k≤cur.size:=by
  have h1:=Nat.mul_le_mul_right k (show i+1≤cap by omega)
  rw [Nat.add_mul,Nat.one_mul] at h1; omega
 have uq:(a.eval y).oneCell'=true:=by
  obtain ⟨ad,MO,Fz⟩:=dx bf
  rw [Fz]; rfl
 have C3:=dq uq
 have dL:=iZ (P:=P) (t:=t) (v:=a.eval y) (off:=i * k+o0) ht (by rw [hs,C3]; rfl) hg (by rw [C3]; simp; omega) (by rw [C3]; simpa using uq)
 rw [C3] at dL
 have iN:=qS (w':=a.eval y) sL (by simpa using KG) gM
 have oD:(cur.toList.take (i * k+o0)++[a.eval y]++cur.toList.drop (i * k+o0+1))=cur.toList.take (i * k)++(Value.agg (ws.set o0 (a.eval y)).toArray).cells.toList++cur.toList.drop (i * k+k):=by rw [iN]; simp [Value.cells]
 -- the block of the slice is not one of the Qp
 have oy:∀ b,(a.eval y).ownBlock=some b→b ≠ g∧b ∉ bp++((cp++([]++cq))++bq):=fun b hb=>by
  constructor
  ·intro CL
   exact ew (hM.inj id id2 _ _ b hB vP (.inl (by rw [CL]; rfl)) (.inl hb))
  ·intro D0
   exact ew (hM.inj id id2 _ _ b hB vP (.inr D0) (.inl hb))
 have oB:(bp++((cp++((a.eval y).ownBlock.toList++cq))++bq)).Nodup:=by
  cases hb:(a.eval y).ownBlock with
  | none=>simpa [hb] using hnd
  | some b =>
   have hf:=(oy b hb).2
   have hp:(bp++((cp++((some b).toList++cq))++bq)).Perm (b :: (bp++((cp++([]++cq))++bq))):=by
    simp only [Option.toList_some,List.singleton_append,List.nil_append]
    refine (List.Perm.append_left bp ?_).trans (List.perm_middle)
    rw [List.append_assoc,List.append_assoc,List.cons_append]
    exact List.perm_middle
   exact hp.nodup_iff.2 (List.nodup_cons.2 ⟨hf,hnd⟩)
 obtain ⟨c',hw,RB,MQ,h2,h3⟩:=hM.IH (pr:=pr) id id2 ew (.nest e0 k os (xs.set i (.agg (cs.set o0 (.ak k' ys))))) .dead (.arr (.slice (some ⟨g,0,.none⟩) xs.length cap) k xs.length (bp++((cp++((a.eval y).ownBlock.toList++cq))++bq))) (.arr (.slice .none 0 0) k' (ys.length+1) []) (c.w.setRow g (cur.toList.take (i * k+o0)++[a.eval y]++cur.toList.drop (i * k+o0+1)).toArray) rfl rfl rfl (Nat.le_refl _) (by simp)
  (fun b _ h1 _=>setRow_other _ _ _ _ (fun CL=>h1 _ hB (.inl (by rw [CL]; rfl))))
  (fun b hb=>by
   rcases hb with hb | hb
   ·rcases hb with hb | hb
    ·exact .inl ⟨_,hB,.inl hb⟩
    ·simp only [List.mem_append,Option.mem_toList] at hb
     rcases hb with h | (h | h | h) | h
     ·exact .inl ⟨_,hB,.inr (by simp [h])⟩
     ·exact .inl ⟨_,hB,.inr (by simp [h])⟩
     ·exact .inr (.inl ⟨_,vP,.inl h⟩)
     ·exact .inl ⟨_,hB,.inr (by simp [h])⟩
     ·exact .inl ⟨_,hB,.inr (by simp [h])⟩
   ·rcases hb with hb | hb
    ·simp [Value.ownBlock] at hb
    ·cases hb)
  (fun b _ cA=>by
   rcases cA with hb | hb
   ·simp [Value.ownBlock] at hb
   ·cases hb)
  (by rw [hB]; exact ⟨_,_,_,rfl,Nat.le_refl _,fun _=>rfl⟩) (by rw [vP]; exact ⟨_,_,_,rfl,by omega,fun h=>by omega⟩) (fun _ dn h0=>by rw [hB] at h0; cases h0; exact ⟨_,_,_,rfl,Nat.le_refl _,fun _=>rfl⟩) (fun h=>absurd h sV)
  (fun c' hw hle dA _=>by
   have Ar:∀ b,b ≠ g→c'.w.heap[b]?=c.w.heap[b]?:=fun b hb=>by rw [hw]; exact setRow_other _ _ _ _ hb
   refine ox c' _ (.agg (ws.set o0 (a.eval y)).toArray) _ hle (by rw [hw,oD]; exact setRow_heap c.w g _ _ e0 _ hg) (fun q hq=>Ar q (fun NF=>qH (by rw [← NF]; simp at hq ⊢; rcases hq with h | h <;> simp [h]))) (by simp [Value.cells,BS]) (fun q hq=>by
    simp only [Value.cells] at hq kr
    have o5:q ∈ ws.set o0 (a.eval y):=by simpa using hq
    rcases List.mem_or_eq_of_mem_set o5 with h | h
    ·exact kr q (by simpa using h)
    ·rw [h]; exact uq) ⟨_,_,rfl,rfl,?_⟩ oB (fun h=>?_)
   ·refine g4 (c':=c') (x':=.ak k' ys) (w':=a.eval y) (b':=(a.eval y).ownBlock.toList) hle (fun r hr=>Ar r (fun NH=>qH (by rw [← NH]; simp at hr ⊢; rcases hr with h | h <;> simp [h]))) ?_
    unfold fu
    rw [hl]
    exact .inr ⟨ys,us,rfl,D1,dN bf (fun b hb=>Ar b (oy b hb).1),aC.mono hle ys us (fun j hj=>by rw [az ys Fc] at hj; cases hj) zC,K7,Fc,rfl⟩
   ·simp only [List.mem_append,Option.mem_toList] at h
    rcases h with h | h | h
    ·exact qH (by simp [h])
    ·exact (oy g h).1 rfl
    ·exact qH (by simp [h]))
  (fun c' hw hle dA=>by simp only [bt]; exact ⟨_,_,_,rfl,rfl⟩)
 refine ⟨c',?_,h2,h3⟩
 rw [hw]
 simp [execOp,he,dL]
end
end Go.L
namespace Go.L
section
variable {P:Program} {N:Nat} {pr:Nat→Prop} {ev:Operand→LV} {m m':Mem} {d:Option Nat} {x y:Operand} {t ty:TypeId} {pos:String} {af:Array Edge} {gd:Option (Nat × Bool)} {lv:LV}
end
end Go.L
namespace Go.L
section
variable {P:Program} {N:Nat} {pr:Nat→Prop} {ev:Operand→LV} {m m':Mem} {d:Option Nat} {x y:Operand} {t ty:TypeId} {pos:String} {af:Array Edge} {gd:Option (Nat × Bool)} {lv:LV} {α β:Type} {f:α→LV} {g:β→LV} {e0 k id n:Nat} {os:List (Nat × Nat × Nat)} {xs:List α} {u:Int} {z0:α} {cs:List LV} {o0:Nat} {z:LV}
theorem pn (h:idx xs u=some z0):some (LE.nest e0 k os (xs.map f))=some (LE.nest e0 k os ((xs.map f).set u.toNat (f z0))):=by
 obtain ⟨_,h2⟩:=dB h
 obtain ⟨h3,h4⟩:=List.getElem?_eq_some_iff.1 h2
 have:(xs.map f).set u.toNat (f z0)=xs.map f:=by
  rw [← List.map_set,← h4,List.set_getElem_self]
 rw [this]
theorem ca (h:idx xs u=some z0) {w:LV}:((xs.map f).set u.toNat w)[u.toNat]?=some w:=by
 obtain ⟨_,h2⟩:=dB h
 have h3:=(List.getElem?_eq_some_iff.1 h2).1
 rw [List.getElem?_set_self (by simpa using h3)]
theorem IF {z':α} {ys:List α} (hz:f z'=.agg cs) (hy:ys=xs.set u.toNat z'):some (LE.nest e0 k os ((xs.map f).set u.toNat (.agg cs)))=some (LE.nest e0 k os (ys.map f)):=by
 rw [hy,List.map_set,hz]
theorem LQ {z':LV} {ls:List LV} {i:Nat} (hx:ev x=.bJ id n i o0) (hm:m id=some (.nest e0 k os (ls.set i (.agg cs)))) (hn:n=ls.length) (hz:(ls.set i (.agg cs))[i]?=some (.agg cs)) (hc:cs[o0]?=some z) (hl:os.lookup o0=.none) (hy:ev y=z') (wW:z'.scalar=true) (hp:z'.pure=true) (ht:tok P t=true) (hs:tsize P t=1) {dr:List LV} (hcs:cs.set o0 z'=dr) :
  bl P pr ⟨.none,.store t x y,ty,pos,af,gd⟩ ev m .eF (m.put id (.nest e0 k os (ls.set i (.agg dr)))):=by
 subst hcs
 have:=LR (pr:=pr) (ty:=ty) (pos:=pos) (af:=af) (gd:=gd) hx hm (by simpa using hn) hz hc hl hy wW hp ht hs
 rwa [List.set_set] at this
theorem AP {e' k':Nat} {ys:List β} {ls:List LV} {i:Nat} (hx:ev x=.bJ id n i o0) (hm:m id=some (.nest e0 k os ls)) (hn:n=ls.length) (hz:ls[i]?=some (.agg cs)) (hc:cs[o0]?=some (.ak k' (ys.map g))) (hl:os.lookup o0=some (e',k')) (ht:tok P t=true) (ha:tagg P t=false):bl P pr ⟨d,.load t x,ty,pos,af,gd⟩ ev m (.pS ys.length) m:=by
 have:=LO (pr:=pr) (d:=d) (ty:=ty) (pos:=pos) (af:=af) (gd:=gd) hx hm hn hz hc hl ht ha
 rwa [List.length_map] at this
theorem tr {e' k' id2:Nat} {ys:List β} {ls:List LV} {i:Nat} (hx:ev x=.bJ id n i o0) (hm:m id=some (.nest e0 k os (ls.set i (.agg cs)))) (hn:n=ls.length) (hz:(ls.set i (.agg cs))[i]?=some (.agg cs)) (hc:cs[o0]?=some (.ak k' (ys.map g))) (hl:os.lookup o0=some (e',k')) (bE:m id2=.none) (ht:tok P t=true) (ha:tagg P t=false) {dr:List LV} (hcs:cs.set o0 .eF=dr) :
  bl P pr ⟨d,.load t x,ty,pos,af,gd⟩ ev m (.arr id2 ys.length) ((m.put id (.nest e0 k os (ls.set i (.agg dr)))).put id2 (.arr e' k' (ys.map g))):=by
 subst hcs
 have:=F5 (pr:=pr) (d:=d) (ty:=ty) (pos:=pos) (af:=af) (gd:=gd) hx hm (by simpa using hn) hz hc hl bE ht ha
 rwa [List.length_map,List.set_set] at this
theorem wj {e' k' id2 n2:Nat} {ys:List β} {ls:List LV} {i:Nat} (hx:ev x=.bJ id n i o0) (hm:m id=some (.nest e0 k os (ls.set i (.agg cs)))) (hn:n=ls.length) (hz:(ls.set i (.agg cs))[i]?=some (.agg cs)) (hc:cs[o0]?=some .eF) (hl:os.lookup o0=some (e',k')) (hy:ev y=.arr id2 n2) (jj:m id2=some (.arr e' k' (ys.map g))) (HR:n2=ys.length) (sV:¬ pr id2) (ht:tok P t=true) (hs:tsize P t=1) {dr:List LV} (hcs:cs.set o0 (.ak k' (ys.map g))=dr) :
  bl P pr ⟨.none,.store t x y,ty,pos,af,gd⟩ ev m .eF ((m.put id (.nest e0 k os (ls.set i (.agg dr)))).put id2 .dead):=by
 subst hcs
 have:=Ij (pr:=pr) (ty:=ty) (pos:=pos) (af:=af) (gd:=gd) hx hm (by simpa using hn) hz hc hl hy jj (by simpa using HR) sV ht hs
 rwa [List.set_set] at this
theorem LM {el kk:Nat} {kd:IntKind} (he:telem P t=some el) (hk:tok P el=true) (hs:tsize P el=kk) (hx:ev x=.arr id n) (hm:m id=some (.nest el kk os (xs.map f))) (hn:n=xs.length) (hy:ev y=.int kd u) (hz:idx xs u=some z0) :
  bl P pr ⟨d,.indexAddr t x y,ty,pos,af,gd⟩ ev m (.bJ id n u.toNat 0) m:=by
 obtain ⟨h0,h2⟩:=dB hz
 exact LN he hk hs hx hm (by simpa using hn) hy h0 (by simpa using (List.getElem?_eq_some_iff.1 h2).1)
theorem LP {kd Tr:IntKind} {u w:Int} {ts:Array TypeId} (hx:ev x=.int kd u) (hy:ev y=.int Tr w):bl P pr ⟨d,.call ⟨.builtin .min,#[x,y],ts⟩,ty,pos,af,gd⟩ ev m (.int kd (min u w)) m:=by
 refine bl.value fun c a bA hM=>?_
 have hv:=bA x (by simp [Op.operands,Call.operands])
 have hw:=bA y (by simp [Op.operands,Call.operands])
 rw [hx] at hv
 rw [hy] at hw
 simp only [av] at hv hw
 have Sc:(if w<u then w else u)=min u w:=by omega
 exact ⟨.int kd (min u w),c,by simp [execOp,resolve,invoke,builtin,Builtin.min_,Builtin.min2,hv,hw,Sc],by simp [av],hM,Step.refl pr c⟩
theorem F2 {kd Tr:IntKind} {u w:Int} {ts:Array TypeId} (hx:ev x=.int kd u) (hy:ev y=.int Tr w):bl P pr ⟨d,.call ⟨.builtin .max,#[x,y],ts⟩,ty,pos,af,gd⟩ ev m (.int kd (max u w)) m:=by
 refine bl.value fun c a bA hM=>?_
 have hv:=bA x (by simp [Op.operands,Call.operands])
 have hw:=bA y (by simp [Op.operands,Call.operands])
 rw [hx] at hv
 rw [hy] at hw
 simp only [av] at hv hw
 have Sc:(if w > u then w else u)=max u w:=by omega
 exact ⟨.int kd (max u w),c,by simp [execOp,resolve,invoke,builtin,Builtin.max_,Builtin.max2,hv,hw,Sc],by simp [av],hM,Step.refl pr c⟩
end
end Go.L
namespace Go.L
theorem bZ.re {c:Cx} {m:Mem} (h:bZ c m) {kF:Nat} {cs dr:List LV} (hm:m kF=some (.box cs)) {vs:List Value} {b:Nat} {e:TypeId} (hB:c.B kF=some (.box b cs.length)) (hh:c.w.heap[b]?=some (.cells vs.toArray e (0,0))) (hl:aC c dr vs) (h1:∀ v ∈ vs,v.oneCell'=true) (hn:dr.length=cs.length):bZ c (m.put kF (.box dr)):=by
 refine ⟨fun i=>?_,h.inj,h.jQ,h.pb,h.cQ⟩
 by_cases hi:i=kF
 ·subst hi
  simp only [Mem.put,if_true,bt]
  exact ⟨b,vs,e,by rw [hn]; exact hB,hh,hl,h1⟩
 ·simp only [Mem.put,hi,if_false]
  exact h.gD i
theorem tL {c:Cx}:∀ (cs:List LV) (vs:List Value),aC c cs vs→aC c (cs.map fun _=>LV.eF) vs
 | [],vs,h=>by simpa only [aC,List.map_nil] using h
 | x :: xs,vs,h=>by
  simp only [aC,List.map_cons] at h ⊢
  obtain ⟨v,fQ,rfl,h1,h2⟩:=h
  exact ⟨v,fQ,rfl,by simp [av],tL xs fQ h2⟩
theorem oL {id:Nat}:∀ (cs:List LV),LV.cu id (cs.map fun _=>LV.eF)=true
 | []=>by simp [LV.cu]
 | x :: xs=>by simp [LV.cu,LV.a8,oL xs]
theorem po {id k:Nat} {xs:List LV}:∀ (cs:List LV),(LV.fX id k xs cs).length=cs.length
 | []=>by simp [LV.fX]
 | x :: cs=>by simp [LV.fX,po cs]
def EJ (id kF:Nat) (ml:List (Nat × LE)):Bool:=ml.all fun q=>q.1 == id || q.1 == kF || match q.2 with | .box cs=>LV.cu id cs | .arr _ _ _=>true | .map _ _ _=>true | .nest _ _ _ _=>true | .cW _ _ _ _ _ _ id2 _=>id2 != id | .dead=>true
theorem Wk.fY {pr:Nat→Prop} {el:List (Nat × LV)} {ml:List (Nat × LE)} {α:Type} {f:α→LV} (id e k:Nat) (xs:List α) (kF:Nat) {cs dr:List LV} (bE:Mem.of ml id=some (.arr e k (xs.map f))) (hb:Mem.of ml kF=some (.box cs)) (ew:(kF == id)=false) (hcs:LV.fX id k (xs.map f) cs=dr) (kf:EJ id kF ml=true) (Ak:(el.all fun p=>p.2.a8 id)=true) (mi:¬ pr id) :
  Wk pr (Env.of el) (Mem.of ml) (Env.of el) (((Mem.of ml).del id).put kF (.box dr)):=by
 intro N c a bV
 have ew:kF ≠ id:=by simpa using ew
 obtain ⟨b,vs,e1,zw,hh,hl,h1⟩:=jd bV.mem hb
 have iD:=bV.mem.re (dr:=cs.map fun _=>LV.eF) hb zw hh (tL cs vs hl) h1 (by simp)
 obtain ⟨c',hw,hO,iM,hV,bf,hX,hB⟩:=iD.del id (by
  intro i ds hi hd
  by_cases CT:i=kF
  ·subst CT
   simp only [Mem.put,if_true,Option.some.injEq] at hd
   rw [← hd]; exact oL cs
  ·simp only [Mem.put,CT,if_false] at hd
   have:=List.all_eq_true.1 kf _ (fl hd)
   cases ds with
   | box cs=>simpa [hi,CT,LE.kU] using this
   | cW _ _ _ _ _ _ _ _=>simpa [hi,CT,LE.kU] using this
   | _=>rfl)
 have hle:c.Le c':=Cx.sub_le hw hO bf
 have RR:∀ v,av c (.arr id (xs.map f).length) v→av c' (.ak k (xs.map f)) v:=by
  intro v hv
  obtain ⟨us,Vi,hk,iu,hl,hc,hp⟩:=gl bV.mem hv bE rfl
  simp only [av]
  have iL:=aC.mono hle (xs.map f) us (fun j hj=>by rw [az _ hp] at hj; cases hj) hl
  rcases iu.2 with ⟨rfl,h0⟩ | ⟨g,cap,cur,rfl,_,hg,kq,_⟩
  ·exact ⟨.none,0,by rw [h0],by omega,fun _=>rfl,hp,.inl (List.eq_nil_of_length_eq_zero h0)⟩
  ·refine ⟨some ⟨g,0,.none⟩,cap,rfl,kq,by simp,hp,.inr ⟨g,0,us,rfl,by rw [hw]; exact (Array.getElem?_eq_some_iff.1 hg).1,hX g _ Vi (.inl rfl),iL,hc,?_⟩⟩
   rw [hw]; exact cU iu rfl
 have BP:aC c' dr vs:=by rw [← hcs]; exact jX hV RR cs vs hl
 have hlen:dr.length=cs.length:=by rw [← hcs,po]
 have jj:=iM.re (kF:=kF) (cs:=cs.map fun _=>LV.eF) (dr:=dr) (by simp [Mem.del,Mem.put,ew]) (by rw [hB kF ew]; simpa using zw) (by rw [hw]; exact hh) BP h1 (by simpa using hlen)
 have gE:(((Mem.of ml).put kF (.box (cs.map fun _=>LV.eF))).del id).put kF (.box dr)=((Mem.of ml).del id).put kF (.box dr):=by
  funext i
  simp only [Mem.put,Mem.del]
  by_cases CT:i=kF <;> simp [CT]
 rw [gE] at jj
 refine ⟨c',hw,⟨fun i=>hV _ _ ?_ (bV.env i),jj,bV.size,bV.defers⟩,?_⟩
 ·clear bV
  induction el with
  | nil=>simp [Env.of,LV.a8]
  | cons p el ih =>
   simp only [List.all_cons,Bool.and_eq_true] at Ak
   simp only [Env.of]
   split
   ·exact Ak.1
   ·exact ih Ak.2
 ·refine Cx.mK hw hO bf (fun i be Av hb=>?_)
  exact ⟨be,by rw [hB i (fun h=>mi (h ▸ Av))]; exact hb,.refl be⟩
theorem ka {id k:Nat} {ys:List LV}:LV.fX id k ys []=[]:=by simp [LV.fX]
theorem b6 {id k:Nat} {ys:List LV} {x:LV} {cs dr:List LV} (h:x.a8 id=true) (hr:LV.fX id k ys cs=dr):LV.fX id k ys (x :: cs)=x :: dr:=by
 simp only [LV.fX,ot x h,hr]
theorem kb {α:Type} {f:α→LV} {id k:Nat} {ys:List α} {cs dr:List LV} (hr:LV.fX id k (ys.map f) cs=dr):LV.fX id k (ys.map f) (.arr id ys.length :: cs)=.ak k (ys.map f) :: dr:=by
 simp [LV.fX,LV.eI,hr]
section
variable {α β γ:Type} {n:Nat} {v w:Option (α × List β)}
end
end Go.L
namespace Go.L
section
variable {P:Program} {N:Nat} {pr:Nat→Prop} {ev:Operand→LV} {m m':Mem} {d:Option Nat} {x y z:Operand} {t ty:TypeId} {pos:String} {af:Array Edge} {gd:Option (Nat × Bool)} {lv:LV} {α β:Type} {f:α→LV} {g:β→LV} {e0 k id n:Nat} {os:List (Nat × Nat × Nat)} {xs:List α} {u:Int} {z0:α} {cs:List LV} {o0:Nat}
theorem cr.mem {o:Oper} {m2:Mem} (h:cr P pr o ev m lv m') (hs:∀ c,bZ c m'→bZ c m2):cr P pr o ev m lv m2:=by
 intro c a Q bA hm
 refine Oper.wp_mono ?_ (h c a Q bA hm)
 rintro a' w' ⟨v,c',h1,h2,h3,h4,h5⟩
 exact ⟨v,c',h1,h2,h3,hs c' h4,h5⟩
end
theorem bZ.TM {c:Cx} {m:Mem} {id e k:Nat} {xs ys:List LV} (hs:fv xs ys) (hp:LV.bk ys=true) (h:bZ c (m.put id (.arr e k xs))):bZ c (m.put id (.arr e k ys)):=by
 refine ⟨fun i=>?_,h.inj,h.jQ,h.pb,h.cQ⟩
 have he:=h.gD i
 by_cases hi:i=id
 ·subst hi
  simp only [Mem.put,if_true,bt] at he ⊢
  obtain ⟨u,vs,h1,h2,h3,h4,h5,h6⟩:=he
  have hl:ys.length=xs.length:=by rw [h4.length,(hs.rep h4).length]
  exact ⟨u,vs,by rw [hl]; exact h1,h2,by rw [hl]; exact h3,hs.rep h4,h5,hp⟩
 ·simp only [Mem.put,hi,if_false] at he ⊢
  exact he
theorem fv.Qn {x y:LV} (h:Sub x y):∀ n,fv (List.replicate n x) (List.replicate n y)
 | 0=>trivial
 | n+1=>⟨h,fv.Qn h n⟩
end Go.L
namespace Go.L
def zZ:Option BE→Option BE
 | some (.arr u k len _)=>some (.arr (.slice .none 0 0) k (len+1) [])
 | y=>y
def Mem.gone (m:Mem) (id:Nat) (le:LE) (S:List Nat):Mem:=fun i=>if i=id then some le else if i ∈ S then some .dead else m i
theorem bZ.Md {pr:Nat→Prop} {c:Cx} {m:Mem} (h:bZ c m) (id:Nat) (S:List Nat) (hS:id ∉ S) (RL:∀ j ∈ S,∃ u k len ins,c.B j=some (.arr u k len ins)) (RN:∀ j ∈ S,¬ pr j) (le:LE) (be:BE) (w':World)
  (D3:w'.os=c.w.os) (pD:w'.tape=c.w.tape) (oC:w'.output=c.w.output) (xw:c.w.drawn≤w'.drawn) (fj:c.w.heap.size≤w'.heap.size)
  (gx:∀ b,b<c.w.heap.size→(∀ dn,c.B id=some dn→¬ dn.has b)→w'.heap[b]?=c.w.heap[b]?)
  (hblk:∀ b,be.has b→(∃ dn,c.B id=some dn∧dn.has b) ∨ (∃ j ∈ S,∃ dn,c.B j=some dn∧dn.has b) ∨ c.w.heap.size≤b)
  (hle:js (c.B id) (some be)) (mi:pr id→∀ dn,c.B id=some dn→dn.kP be)
  (iy:∀ c':Cx,c'.w=w'→c.Le c'→(∀ i,js (c.B i) (c'.B i))→c'.OQ c→(∀ b,c'.own b→be.has b ∨ ∃ j dn,j ≠ id∧c.B j=some dn∧dn.has b)→bt c' (some le) (some be)) :
  ∃ c':Cx,c'.w=w'∧c'.B id=some be∧bZ c' (m.gone id le S)∧Step pr c c':=by
 let c':Cx:=⟨w',fun i=>if i=id then some be else if i ∈ S then zZ (c.B i) else c.B i,c.O,c.Q⟩
 have e1:c'.B id=some be:=by simp [c']
 have e2:∀ i,i ∈ S→c'.B i=zZ (c.B i):=fun i hi=>by
  have:i ≠ id:=fun h=>hS (h ▸ hi)
  simp [c',this,hi]
 have e3:∀ i,i ≠ id→i ∉ S→c'.B i=c.B i:=fun i h1 h2=>by simp [c',h1,h2]
 have key:∀ i b1 b,c'.B i=some b1→b1.has b→(i=id∧be.has b) ∨ (i ≠ id∧i ∉ S∧c.B i=some b1):=by
  intro i b1 b g1 g2
  by_cases hi:i=id
  ·subst hi; rw [e1] at g1; cases g1; exact .inl ⟨rfl,g2⟩
  ·by_cases hs:i ∈ S
   ·rw [e2 i hs] at g1
    obtain ⟨u,k,len,ins,hB⟩:=RL i hs
    rw [hB] at g1
    simp only [zZ,Option.some.injEq] at g1
    subst g1
    rcases g2 with g2 | g2
    ·simp [Value.ownBlock] at g2
    ·cases g2
   ·rw [e3 i hi hs] at g1; exact .inr ⟨hi,hs,g1⟩
 have bf:∀ b,c'.own b→c.own b ∨ c.w.heap.size≤b:=by
  rintro b ⟨i,eD,h1,h2⟩
  rcases key i eD b h1 h2 with ⟨_,h3⟩ | ⟨_,_,h3⟩
  ·rcases hblk b h3 with ⟨dn,q1,q2⟩ | ⟨j,_,dn,q1,q2⟩ | q
   ·exact .inl ⟨id,dn,q1,q2⟩
   ·exact .inl ⟨j,dn,q1,q2⟩
   ·exact .inr q
  ·exact .inl ⟨i,eD,h3,h2⟩
 have jH:Grow pr c c':=by
  refine ⟨rfl,D3,pD,oC,xw,fj,fun b hb ho _=>gx b hb (fun dn h0 h1=>ho ⟨id,dn,h0,h1⟩),fun _ _ _ h=>h,fun _ h=>.inl h,bf,fun i eD hp hb=>?_⟩
  by_cases hi:i=id
  ·subst hi; exact ⟨be,e1,mi hp eD hb⟩
  ·have hs:i ∉ S:=fun hs=>RN i hs hp
   exact ⟨eD,by rw [e3 i hi hs]; exact hb,.refl eD⟩
 have lT:gX c c':=h.FI ⟨rfl,rfl⟩ fun b hb ho=>gx b hb (fun dn h0 h1=>ho ⟨id,dn,h0,h1⟩)
 have mh:=jH.le lT
 have dA:∀ i,js (c.B i) (c'.B i):=by
  intro i
  by_cases hi:i=id
  ·subst hi; rw [e1]; exact hle
  ·by_cases hs:i ∈ S
   ·rw [e2 i hs]
    obtain ⟨u,k,len,ins,hB⟩:=RL i hs
    rw [hB]
    exact ⟨_,_,_,rfl,by omega,fun h=>by omega⟩
   ·rw [e3 i hi hs]; exact js.refl _
 have uT:∀ b,c'.own b→be.has b ∨ ∃ j dn,j ≠ id∧c.B j=some dn∧dn.has b:=by
  rintro b ⟨i,eD,h1,h2⟩
  rcases key i eD b h1 h2 with ⟨_,h3⟩ | ⟨q1,_,h3⟩
  ·exact .inl h3
  ·exact .inr ⟨i,eD,q1,h3,h2⟩
 refine ⟨c',rfl,e1,⟨fun i=>?_,?_,?_,?_,h.UN ⟨rfl,rfl⟩ fj bf⟩,jH,dA,lT⟩
 ·by_cases hi:i=id
  ·subst hi; rw [e1]; simp only [Mem.gone,if_true]; exact iy c' rfl mh dA ⟨rfl,rfl⟩ uT
  ·by_cases hs:i ∈ S
   ·rw [e2 i hs]
    simp only [Mem.gone,hi,hs,if_true,if_false,bt]
    obtain ⟨u,k,len,ins,hB⟩:=RL i hs
    rw [hB]
    exact ⟨_,_,_,rfl,rfl⟩
   ·rw [e3 i hi hs]
    simp only [Mem.gone,hi,hs,if_false]
    refine (h.gD i).mono mh dA fun eD b hb qG=>?_
    refine gx b ((h.gD i).lt hb qG) (fun dn h0 h1=>?_)
    exact hi (h.inj i id eD dn b hb h0 qG h1)
 ·have one:∀ i b1 b,i ≠ id→i ∉ S→c.B i=some b1→b1.has b→be.has b→False:=by
   intro i b1 b h1 h2 h3 h4 h5
   rcases hblk b h5 with ⟨dn,q1,q2⟩ | ⟨j,hj,dn,q1,q2⟩ | q
   ·exact h1 (h.inj i id b1 dn b h3 q1 h4 q2)
   ·exact h2 (h.inj i j b1 dn b h3 q1 h4 q2 ▸ hj)
   ·have:=(h.gD i).lt h3 h4; omega
  intro i i' b1 b2 b h1 h2 h3 h4
  rcases key i b1 b h1 h3 with ⟨q1,q2⟩ | ⟨q1,q2,q3⟩
  ·rcases key i' b2 b h2 h4 with ⟨r1,r2⟩ | ⟨r1,r2,r3⟩
   ·rw [q1,r1]
   ·exact (one i' b2 b r1 r2 r3 h4 q2).elim
  ·rcases key i' b2 b h2 h4 with ⟨r1,r2⟩ | ⟨r1,r2,r3⟩
   ·exact (one i b1 b q1 q2 q3 h3 r2).elim
   ·exact h.inj i i' b1 b2 b q3 r3 h3 h4
 ·intro b ho hO
  rcases bf b ho with ho | hs
  ·exact h.jQ b ho hO
  ·have:=h.pb b hO; omega
 ·intro b hO; exact Nat.lt_of_lt_of_le (h.pb b hO) fj
theorem Wk.Ha {pr:Nat→Prop} {el:List (Nat × LV)} {ml:List (Nat × LE)} {α:Type} {f:α→LV} (id e k:Nat) (os:List (Nat × Nat × Nat)) (xs:List α) (bE:Mem.of ml id=some (.nest e k os (xs.map f))) (gM:p5 k f) :
  Wk pr (Env.of el) (Mem.of ml) (Env.of el) ((Mem.of ml).gone id (.arr e k (xs.map f)) []):=by
 intro N c a bV
 have he:=bV.mem.gD id
 rw [bE] at he
 simp only [bt] at he
 obtain ⟨u,vs,bs,hB,hk,bf,hn,hc,hnd,kz⟩:=he
 obtain ⟨c',hw,hb,h2,h3⟩:=bV.mem.Md (pr:=pr) id [] (by simp) (by simp) (by simp) (.arr e k (xs.map f)) (.arr u k (xs.map f).length []) c.w rfl rfl rfl (Nat.le_refl _) (Nat.le_refl _)
  (fun b _ _=>rfl) (fun b hb=>.inl ⟨_,hB,hb.elim .inl (fun h=>by cases h)⟩) (by rw [hB]; exact ⟨_,_,_,rfl,Nat.le_refl _,fun _=>rfl⟩) (fun _ dn h0=>by rw [hB] at h0; cases h0; exact ⟨_,_,_,rfl,Nat.le_refl _,fun _=>rfl⟩)
  (fun c' hw hle dA hO uT=>by
   simp only [bt]
   refine ⟨u,vs,rfl,hk,by rw [hw]; exact bf,hn.Aa hle hw (fun b hb=>?_),hc,gM.bk xs⟩
   have DY:c.own b:=⟨id,_,hB,.inr hb⟩
   rintro (h | h)
   ·exact bV.mem.TB DY (hO.U h)
   ·rcases uT b h with h | ⟨j,dn,q1,q2,q3⟩
    ·rcases h with h | h
     ·exact kz b h hb
     ·cases h
    ·exact q1 (bV.mem.inj j id dn _ b q2 hB q3 (.inr hb)))
 exact ⟨c',hw,⟨fun i=>h3.wE (bV.env i),h2,bV.size,bV.defers⟩,h3.grow⟩
theorem Wk.u3 {pr:Nat→Prop} {el:List (Nat × LV)} {ml:List (Nat × LE)} (id e k kF j:Nat) {cs dr:List LV} (bE:Mem.of ml id=.none) (hk:Nat.ble 1 k=true) (hb:Mem.of ml kF=some (.box cs)) (hj:cs[j]?=some .nil) (hcs:cs.set j (.arr id 0)=dr) (mi:¬ pr id) :
  Wk pr (Env.of el) (Mem.of ml) (Env.of el) (((Mem.of ml).put id (.arr e k [])).put kF (.box dr)):=by
 intro N c a bV
 have ew:kF ≠ id:=fun h=>by rw [h,bE] at hb; cases hb
 have hB:=bV.mem.fresh bE
 obtain ⟨c',hw,il,h2,h3⟩:=bV.mem.Bo (pr:=pr) id (.arr e k []) (.arr (.slice .none 0 0) k 0 []) c.w rfl rfl rfl (Nat.le_refl _) (Nat.le_refl _)
  (fun b _ _=>rfl) (fun b hb=>by simp [BE.has,Value.ownBlock] at hb) (by rw [hB]; trivial) (fun h=>absurd h mi)
  (fun c' hw hle dA=>by
   simp only [bt]
   exact ⟨.slice .none 0 0,[],rfl,Nat.le_of_ble_eq_true hk,by rw [hw]; exact World.ownsRow_nil c.w 0 e k,by simp [aC],by simp,by simp [LV.bk]⟩)
 have cA:((Mem.of ml).put id (.arr e k [])) kF=some (.box cs):=by simp only [Mem.put,ew,if_false]; exact hb
 obtain ⟨b,vs,e1,zw,hh,hl,h1⟩:=jd h2 cA
 have iN:∀ (cs:List LV) (vs:List Value) (j:Nat),aC c' cs vs→cs[j]?=some .nil→aC c' (cs.set j (.arr id 0)) vs:=by
  intro cs
  induction cs with
  | nil=>intro vs j _ h; simp at h
  | cons x xs ih =>
   intro vs j hl hj
   simp only [aC] at hl
   obtain ⟨v,fQ,rfl,hv,iL⟩:=hl
   cases j with
   | zero =>
    simp at hj; subst hj
    simp only [av] at hv
    simp only [List.set_cons_zero,aC]
    refine ⟨v,fQ,rfl,?_,iL⟩
    simp only [av]
    exact ⟨by rw [hv]; rfl,_,_,_,_,il,Nat.le_refl _,fun _=>hv⟩
   | succ j =>
    simp only [List.set_cons_succ,aC]
    exact ⟨v,fQ,rfl,hv,ih fQ j iL (by simpa using hj)⟩
 have jj:=h2.re (dr:=dr) cA zw hh (by rw [← hcs]; exact iN cs vs j hl hj) h1 (by rw [← hcs]; simp)
 exact ⟨c',hw,⟨fun i=>h3.wE (bV.env i),jj,bV.size,bV.defers⟩,h3.grow⟩
def l0 (m:Mem) (os:List (Nat × Nat × Nat)):Nat→List LV→List LV→List Nat→Prop
 | _,[],dr,S=>dr=[]∧S=[]
 | o,x :: xs,dr,S=>∃ x' ub S1 S2,dr=x' :: ub∧S=S1++S2∧l0 m os (o+1) xs ub S2 ∧
   match os.lookup o with
   | .none=>x'=x∧x.pure=true∧S1=[]
   | some (e,k)=>(x=.nil∧0<k∧x'=.ak k []∧S1=[]) ∨ ∃ id2 ys,x=.arr id2 ys.length∧m id2=some (.arr e k ys)∧x'=.ak k ys∧S1=[id2]
theorem U4 {m:Mem} {os:List (Nat × Nat × Nat)} {o:Nat}:l0 m os o [] [] []:=⟨rfl,rfl⟩
theorem T2 {m:Mem} {os:List (Nat × Nat × Nat)} {o:Nat} {x:LV} {xs ub:List LV} {S:List Nat} (hl:os.lookup o=.none) (hp:x.pure=true) (h:l0 m os (o+1) xs ub S):l0 m os o (x :: xs) (x :: ub) S :=
 ⟨x,ub,[],S,rfl,rfl,h,by rw [hl]; exact ⟨rfl,hp,rfl⟩⟩
theorem U5 {m:Mem} {os:List (Nat × Nat × Nat)} {o e k:Nat} {xs ub:List LV} {S:List Nat} (hl:os.lookup o=some (e,k)) (hk:Nat.ble 1 k=true) (h:l0 m os (o+1) xs ub S):l0 m os o (.nil :: xs) (.ak k [] :: ub) S :=
 ⟨.ak k [],ub,[],S,rfl,rfl,h,by rw [hl]; exact .inl ⟨rfl,Nat.le_of_ble_eq_true hk,rfl,rfl⟩⟩
theorem T1 {α:Type} {g:α→LV} {ys:List α} {m:Mem} {os:List (Nat × Nat × Nat)} {o e k id2:Nat} {xs ub:List LV} {S:List Nat} (hl:os.lookup o=some (e,k)) (hm:m id2=some (.arr e k (ys.map g))) (h:l0 m os (o+1) xs ub S):l0 m os o (.arr id2 ys.length :: xs) (.ak k (ys.map g) :: ub) (id2 :: S) :=
 ⟨.ak k (ys.map g),ub,[id2],S,rfl,rfl,h,by rw [hl]; exact .inr ⟨id2,ys.map g,by simp,hm,rfl,rfl⟩⟩
def lQ:Option BE→List Nat
 | some (.arr u _ _ _)=>u.ownBlock.toList
 | _=>[]
def jt (c:Cx) (S:List Nat):List Nat:=S.flatMap fun j=>lQ (c.B j)
theorem pe {c:Cx} {S:List Nat} {b:Nat} (h:b ∈ jt c S):∃ j ∈ S,∃ be,c.B j=some be∧be.has b:=by
 simp only [jt,List.mem_flatMap] at h
 obtain ⟨j,hj,hb⟩:=h
 refine ⟨j,hj,?_⟩
 cases hB:c.B j with
 | none=>simp [lQ,hB] at hb
 | some be =>
  cases be with
  | box _ _=>simp [lQ,hB] at hb
  | mp _=>simp [lQ,hB] at hb
  | arr u k len ins=>rw [hB] at hb; exact ⟨_,rfl,.inl (by simpa [lQ] using hb)⟩
theorem sm {c:Cx} {m:Mem} (hM:bZ c m):∀ {S:List Nat},S.Nodup→(jt c S).Nodup
 | [],_=>by simp [jt]
 | j :: S,h=>by
  have h':=List.nodup_cons.1 h
  have:jt c (j :: S)=lQ (c.B j)++jt c S:=by simp [jt]
  rw [this,List.nodup_append]
  refine ⟨?_,sm hM h'.2,?_⟩
  ·cases hB:c.B j with
   | none=>simp [lQ]
   | some be =>
    cases be with
    | box _ _=>simp [lQ]
    | mp _=>simp [lQ]
    | arr u k len ins=>cases hu:u.ownBlock <;> simp [lQ,hu]
  ·intro a ha b hb o4
   subst o4
   obtain ⟨j1,Mt,QJ,q1,q2⟩:=pe (c:=c) (S:=[j]) (b:=a) (by simpa [jt] using ha)
   obtain ⟨j2,EZ,Bx,q3,q4⟩:=pe hb
   have VJ:=hM.inj j1 j2 QJ Bx a q1 q3 q2 q4
   simp at Mt
   rw [← Mt,VJ] at h'
   exact h'.1 EZ
theorem l0.ids {m:Mem} {os:List (Nat × Nat × Nat)}:∀ {o:Nat} {cs dr:List LV} {S:List Nat},l0 m os o cs dr S→∀ j ∈ S,∃ e k ys,m j=some (.arr e k ys)
 | _,[],_,_,h=>by simp only [l0] at h; rw [h.2]; simp
 | o,x :: xs,dr,S,h=>by
  simp only [l0] at h
  obtain ⟨x',ub,S1,S2,rfl,rfl,h1,h2⟩:=h
  intro j hj
  rcases List.mem_append.1 hj with hj | hj
  ·split at h2
   ·rw [h2.2.2] at hj; cases hj
   ·rename_i e k _
    rcases h2 with ⟨_,_,_,rfl⟩ | ⟨id2,ys,_,hm,_,rfl⟩
    ·cases hj
    ·simp at hj; subst hj; exact ⟨e,k,ys,hm⟩
  ·exact h1.ids j hj
theorem l0.rep {c c':Cx} {m:Mem} (hM:bZ c m) (hle:c.Le c') {os:List (Nat × Nat × Nat)}:∀ {o:Nat} {cs dr:List LV} {S:List Nat} {ws:List Value},l0 m os o cs dr S→aC c cs ws→(∀ b ∈ jt c S,c'.w.heap[b]?=c.w.heap[b]?)→ix c' os o dr ws (jt c S)
 | _,[],_,_,ws,h,hl,_=>by
  simp only [l0] at h
  obtain ⟨rfl,rfl⟩:=h
  simp only [aC] at hl
  simp only [ix]; exact ⟨hl,by simp [jt]⟩
 | o,x :: xs,dr,S,ws,h,hl,hh=>by
  simp only [l0] at h
  obtain ⟨x',ub,S1,S2,rfl,rfl,h1,h2⟩:=h
  simp only [aC] at hl
  obtain ⟨w,Ed,rfl,hw,iL⟩:=hl
  have hb:jt c (S1++S2)=jt c S1++jt c S2:=by simp [jt]
  rw [hb] at hh ⊢
  simp only [ix]
  refine ⟨w,Ed,jt c S1,jt c S2,rfl,rfl,?_,l0.rep hM hle h1 iL (fun b hb=>hh b (by simp [hb]))⟩
  unfold fu
  split at h2
  ·rename_i Sa
   obtain ⟨rfl,hp,rfl⟩:=h2
   rw [Sa]
   exact ⟨av.mono hle _ w (fun id bE=>by rw [eS _ hp] at bE; cases bE) hw,hp,by simp [jt]⟩
  ·rename_i e k Sa
   rw [Sa]
   rcases h2 with ⟨rfl,hk,rfl,rfl⟩ | ⟨id2,ys,rfl,hm,rfl,rfl⟩
   ·simp only [av] at hw
    subst hw
    exact .inr ⟨[],[],rfl,hk,World.ownsRow_nil c'.w 0 e k,by simp [aC],by simp,rfl,by simp [jt,Value.ownBlock]⟩
   ·obtain ⟨us,hB,hk,bf,zC,hc,hp⟩:=gl hM hw hm rfl
    refine .inr ⟨ys,us,rfl,hk,dN bf (fun b hb=>hh b ?_),aC.mono hle ys us (fun j hj=>by rw [az ys hp] at hj; cases hj) zC,hc,hp,by simp [jt,hB,lQ]⟩
    simp [jt,hB,lQ,hb]
section
variable {P:Program} {N:Nat} {pr:Nat→Prop} {ev:Operand→LV} {m m':Mem} {d:Option Nat} {x y z:Operand} {t ty:TypeId} {pos:String} {af:Array Edge} {gd:Option (Nat × Bool)} {lv:LV} {α β:Type} {f:α→LV} {g:β→LV} {e0 k id n:Nat} {os:List (Nat × Nat × Nat)}
end
end Go.L
namespace Go.L
theorem Sub.ak {k:Nat} {xs ys:List LV} (h:fv xs ys) (hp:LV.bk ys=true):Sub (.ak k xs) (.ak k ys):=fun c v hv=>by
 simp only [av] at hv ⊢
 obtain ⟨a,cap,rfl,h1,h2,h3,h4⟩:=hv
 have hl:∀ {xs ys:List LV},fv xs ys→xs.length=ys.length:=by
  intro xs
  induction xs with
  | nil=>intro ys h; cases ys with
   | nil=>rfl
   | cons y ys=>cases h
  | cons x xs ih=>intro ys h; cases ys with
   | nil=>cases h
   | cons y ys=>simp [ih h.2]
 refine ⟨a,cap,by rw [hl h],by rw [← hl h]; exact h1,h2,hp,?_⟩
 rcases h4 with rfl | ⟨b,off,vs,q1,q2,q3,q4,q5⟩
 ·left; exact List.eq_nil_of_length_eq_zero (by rw [← hl h]; rfl)
 ·exact .inr ⟨b,off,vs,q1,q2,q3,h.rep q4,q5⟩
section
variable {P:Program} {N:Nat} {pr:Nat→Prop} {ev:Operand→LV} {m m':Mem} {d:Option Nat} {x y z:Operand} {t ty:TypeId} {pos:String} {af:Array Edge} {gd:Option (Nat × Bool)} {lv:LV} {α β:Type} {f:α→LV} {g:β→LV} {e0 k id n:Nat} {os:List (Nat × Nat × Nat)} {xs:List α} {u:Int} {z0:α} {cs:List LV} {o0:Nat}
theorem cr.res {o:Oper} {xb:LV} (h:cr P pr o ev m lv m') (hs:Sub lv xb):cr P pr o ev m xb m':=by
 intro c a Q bA hm
 refine Oper.wp_mono ?_ (h c a Q bA hm)
 rintro a' w' ⟨v,c',h1,h2,h3,h4,h5⟩
 exact ⟨v,c',h1,h2,hs c' v h3,h4,h5⟩
theorem Ww {k:Nat}:qK k []:=fun x hx=>by cases hx
theorem TF {k:Nat} {x:LV} {xs:List LV} (h1:x.pure=true) (h2:x.cells.length=k) (h3:x.cells.all LV.scalar=true) (h:qK k xs):qK k (x :: xs):=fun y hy=>by
 rcases List.mem_cons.1 hy with rfl | hy
 ·exact ⟨h1,h2,h3⟩
 ·exact h y hy
theorem LL {nn el kk:Nat} {ps:List (Nat × Operand)} {ls:List LV} {ys:List α} (he:telem P t=some el) (hr:gI P el=true) (hk:tsize P el=kk) (hb:Nat.ble (nn * kk) 16777216=true) (hi:ps.map (·.1)=List.range nn) (hv:(ps.map fun p=>ev p.2)=ls) (gM:qK kk ls) (hs:fv ls (ys.map f)) (hf:p5 kk f) :
  cr P pr ⟨d,.buildSlice t nn ps.toArray,ty,pos,af,gd⟩ ev m (.ak kk (ys.map f)) m:=by
 subst hk
 obtain ⟨lv,m',⟨rfl,rfl⟩,h⟩:=kZ (ro:=[]) (K:=fun lv m'=>lv=.ak (tsize P el) ls∧m'=m) (P:=P) (pr:=pr) (o:=⟨d,.buildSlice t nn ps.toArray,ty,pos,af,gd⟩) (ev:=ev) (m:=m)
  (by rw [LOp_buildSlice,he]; exact ⟨hr,Nat.le_of_ble_eq_true hb,hi,by rw [hv]; exact gM,by rw [hv]; exact ⟨rfl,rfl⟩⟩)
 exact h.res (Sub.ak hs (hf.bk ys))
theorem F3 {i el kk:Nat} {zc:LV} {z:α} {r:List α} (hi:100+i=id) (he:telem P t=some el) (hz:tzero P el=some zc) (hr:gI P el=true) (hk:tsize P el=kk) (hx:ev x=.int .i64 u) (hy:ev y=.int .i64 u) (hp:zc.pure=true) (hs:Sub zc (f z)) (gM:p5 kk f) (hl:C7 z u=some r) (hf:m id=.none) :
  cr P pr ⟨some i,.makeSlice t x y,ty,pos,af,gd⟩ ev m (.arr id r.length) (m.put id (.arr el kk (r.map f))):=by
 have iL:C7 zc u=some (List.replicate r.length zc):=by
  unfold C7 at hl ⊢
  split at hl
  ·rename_i h0; cases hl; simp [h0]
  ·cases hl
 have V2:r=List.replicate r.length z:=by
  unfold C7 at hl
  split at hl
  ·cases hl; simp
  ·cases hl
 obtain ⟨lv,m',⟨rfl,rfl⟩,h⟩:=kZ (ro:=[]) (K:=fun lv m'=>lv=.arr id r.length∧m'=m.put id (.arr el kk ((List.replicate r.length zc).map fun x=>x))) (P:=P) (pr:=pr) (o:=⟨some i,.makeSlice t x y,ty,pos,af,gd⟩) (ev:=ev) (m:=m)
  (Rc (f:=fun x:LV=>x) hi he hz hr hk hx hy hp iL hf ⟨by simp,rfl⟩)
 refine h.mem fun c hc=>?_
 have oE:fv ((List.replicate r.length zc).map fun x=>x) (r.map f):=by
  rw [List.map_id']
  conv=>rhs; rw [V2]
  rw [List.map_replicate]
  exact fv.Qn hs _
 exact bZ.TM oE (gM.bk r) hc
end
theorem aM.Aa {P:Program} {fn:Nat} {args:List LV} {α:Type} {f:α→LV} {id n e k:Nat} {xs:List α} (h:aM P fn args (Mem.of []) (.arr id n) (Mem.of [(id,.arr e k (xs.map f))])) (hn:n=xs.length):aM P fn args (Mem.of []) (.ak k (xs.map f)) (Mem.of []):=by
 intro c vs hM hv
 refine (h c vs hM hv).mono ?_
 rintro en w' ⟨v,c1,rfl,rfl,iD,hr,hg⟩
 obtain ⟨us,hB,hk,bf,hl,hc,hp⟩:=gl (e:=e) (k:=k) (xs:=xs.map f) iD hr (by simp [Mem.of]) (by simpa using hn)
 obtain ⟨c',hw,hO,iM,hV,iu,hX,iB⟩:=iD.del id (by
  intro i ds hi hd
  simp [Mem.of,hi] at hd)
 have hle:c1.Le c':=Cx.sub_le hw hO iu
 have VQ:(Mem.of [(id,.arr e k (xs.map f))]).del id=Mem.of []:=by
  funext i
  simp only [Mem.del,Mem.of]
  by_cases hi:i=id <;> simp [hi]
 rw [VQ] at iM
 refine ⟨v,c',rfl,hw,iM,?_,?_⟩
 ·simp only [av]
  have iL:=aC.mono hle (xs.map f) us (fun j hj=>by rw [az _ hp] at hj; cases hj) hl
  rcases bf.2 with ⟨rfl,h0⟩ | ⟨g,cap,cur,rfl,_,sM,kq,_⟩
  ·exact ⟨.none,0,by rw [h0],by omega,fun _=>rfl,hp,.inl (List.eq_nil_of_length_eq_zero h0)⟩
  ·refine ⟨some ⟨g,0,.none⟩,cap,rfl,kq,by simp,hp,.inr ⟨g,0,us,rfl,by rw [hw]; exact (Array.getElem?_eq_some_iff.1 sM).1,hX g _ hB (.inl rfl),iL,hc,?_⟩⟩
   rw [hw]; exact cU bf rfl
 ·refine hg.trans (Cx.mK hw hO iu (fun i be Av hb=>?_))
  simp [Mem.of] at Av
theorem mD {P:Program} {pr:Nat→Prop} {ro:List Nat} {ops:Array Oper} {l:List Oper} {ey:List Nat} {KE:Env→Mem→Prop} {e:Env} {m:Mem} {lv:LV} {le:LE} {i md id:Nat} {op:Op} {ty:TypeId} {pos:String} {af:Array Edge} (bE:gf md=id) (An:MA md=true) (hm:m id=some le) (h:J2 P pr ro ⟨some i,op,ty,pos,af,.none⟩ (c9 e) id le lv) (hr:cI P pr ro ops (List.zip l ey) KE (e.put i lv) m):cI P pr ro ops (List.zip (⟨some i,op,ty,pos,af,.none⟩ :: l) (md :: ey)) KE e m:=by
 subst bE
 have h1:1000≤md∧md<100000:=by simpa [MA] using An
 show fV P pr ro ops md _ _ e m
 unfold fV
 have hg:Go.L.gd ops ⟨some i,op,ty,pos,af,.none⟩ e=some true:=rfl
 rw [hg]
 simp only
 split
 ·omega
 ·omega
 ·omega
 ·omega
 ·rw [if_neg (by omega),if_pos h1.2]
  exact ⟨lv,le,hm,h,hr⟩
theorem mW {P:Program} {pr:Nat→Prop} {ro:List Nat} {ops:Array Oper} {l:List Oper} {ey:List Nat} {KE:Env→Mem→Prop} {e:Env} {m:Mem} {lv:LV} {le oG:LE} {i md id:Nat} {op:Op} {ty:TypeId} {pos:String} {af:Array Edge} (bE:gf md=id) (An:(Nat.ble 100000 md && Nat.blt md 1000000000)=true) (hm:m id=some le) (h:J3 P pr ro ⟨some i,op,ty,pos,af,.none⟩ (c9 e) id le oG lv) (hr:cI P pr ro ops (List.zip l ey) KE (e.put i lv) (m.over (Mem.of [(id,oG)]))):cI P pr ro ops (List.zip (⟨some i,op,ty,pos,af,.none⟩ :: l) (md :: ey)) KE e m:=by
 subst bE
 have h1:100000≤md∧md<1000000000:=by simpa using An
 show fV P pr ro ops md _ _ e m
 unfold fV
 have hg:Go.L.gd ops ⟨some i,op,ty,pos,af,.none⟩ e=some true:=rfl
 rw [hg]
 simp only
 split
 ·omega
 ·omega
 ·omega
 ·omega
 ·rw [if_neg (by omega),if_neg (by omega),if_pos h1.2]
  exact ⟨lv,le,oG,hm,h,hr⟩
theorem mS {P:Program} {pr:Nat→Prop} {ro:List Nat} {ops:Array Oper} {l:List Oper} {ey:List Nat} {KE:Env→Mem→Prop} {e:Env} {m:Mem} {lv:LV} {le oG:LE} {md id:Nat} {op:Op} {ty:TypeId} {pos:String} {af:Array Edge} (bE:gf md=id) (An:(Nat.ble 100000 md && Nat.blt md 1000000000)=true) (hm:m id=some le) (h:∀ m0:Mem,m0 id=some le→∀ K':LV→Mem→Prop,K' lv (m0.put id oG)→LOp P pr ro ⟨.none,op,ty,pos,af,.none⟩ (c9 e) m0 K') (hr:cI P pr ro ops (List.zip l ey) KE e (m.put id oG)):cI P pr ro ops (List.zip (⟨.none,op,ty,pos,af,.none⟩ :: l) (md :: ey)) KE e m:=by
 subst bE
 have h1:100000≤md∧md<1000000000:=by simpa using An
 show fV P pr ro ops md _ _ e m
 unfold fV
 have hg:Go.L.gd ops ⟨.none,op,ty,pos,af,.none⟩ e=some true:=rfl
 rw [hg]
 simp only
 split
 ·omega
 ·omega
 ·omega
 ·omega
 ·rw [if_neg (by omega),if_neg (by omega),if_pos h1.2]
  refine ⟨lv,le,oG,hm,fun m0 h0 K' hK=>h m0 h0 K' (by rw [← pM]; exact hK),?_⟩
  rw [pM]; exact hr
theorem Ty {P:Program} {pr:Nat→Prop} {ro:List Nat} {ops:Array Oper} {l:List Oper} {ey:List Nat} {KE:Env→Mem→Prop} {e:Env} {m m':Mem} {lv:LV} {i md:Nat} {op:Op} {ty:TypeId} {pos:String} {af:Array Edge} (An:Nat.ble 1000000000 md=true) (h:ra P pr ⟨some i,op,ty,pos,af,.none⟩ (c9 e) (IV md) m lv m') (hr:cI P pr ro ops (List.zip l ey) KE (e.put i lv) m'):cI P pr ro ops (List.zip (⟨some i,op,ty,pos,af,.none⟩ :: l) (md :: ey)) KE e m:=by
 have h1:1000000000≤md:=by simpa using An
 show fV P pr ro ops md _ _ e m
 unfold fV
 have hg:Go.L.gd ops ⟨some i,op,ty,pos,af,.none⟩ e=some true:=rfl
 rw [hg]
 simp only
 split
 ·omega
 ·omega
 ·omega
 ·omega
 ·rw [if_neg (by omega),if_neg (by omega),if_neg (by omega)]
  exact ⟨lv,m',h,hr⟩
theorem mM {P:Program} {pr:Nat→Prop} {ro:List Nat} {ops:Array Oper} {l:List Oper} {ey:List Nat} {KE:Env→Mem→Prop} {e:Env} {m:Mem} {lv:LV} {i:Nat} {op:Op} {ty:TypeId} {pos:String} {af:Array Edge} (h:∀ m0,bl P pr ⟨some i,op,ty,pos,af,.none⟩ (c9 e) m0 lv m0) (hr:cI P pr ro ops (List.zip l ey) KE (e.put i lv) m):cI P pr ro ops (List.zip (⟨some i,op,ty,pos,af,.none⟩ :: l) (4 :: ey)) KE e m:=⟨lv,h,hr⟩
def Env.look (e:Env):List (Nat × LV)→List (Nat × LV)
 | []=>[]
 | (i,_) :: r=>(i,e i) :: Env.look e r
def Mem.look (m:Mem):List (Nat × LE)→List (Nat × Option LE)
 | []=>[]
 | (i,_) :: r=>(i,m i) :: Mem.look m r
def J5:List (Nat × LE)→List (Nat × Option LE)
 | []=>[]
 | (i,x) :: r=>(i,some x) :: J5 r
theorem look_eq {e:Env}:∀ {el:List (Nat × LV)},Env.look e el=el→Eg e el
 | [],_=>trivial
 | (i,v) :: r,h=>by
  simp only [Env.look,List.cons.injEq,Prod.mk.injEq,true_and] at h
  exact ⟨h.1,look_eq h.2⟩
theorem xR {m:Mem}:∀ {ml:List (Nat × LE)},Mem.look m ml=J5 ml→lO m ml
 | [],_=>trivial
 | (i,v) :: r,h=>by
  simp only [Mem.look,J5,List.cons.injEq,Prod.mk.injEq,true_and] at h
  exact ⟨h.1,xR h.2⟩
theorem Wk.eq {nu ml:List (Nat × LE)} {el:List (Nat × LV)} {e:Env} {m:Mem} (he:Env.look e el=el) (hm:Mem.look m ml=J5 ml) (hr:aV (el.map fun p=>(p.1,e p.1)) ml=true) (mi:(nu.all fun p=>ml.any fun q=>q.1 == p.1)=true):Wk (fun id=>Mem.of nu id ≠ .none) e m (Env.of el) (Mem.of ml):=Wk.to (eQ (look_eq he)) (xR hm) hr (aZ mi)
theorem zS {P:Program} {N:Nat} {ops:Array Oper} {nu ml:List (Nat × LE)} {el:List (Nat × LV)} {e:Env} {m:Mem} (he:Env.look e el=el:=by exact rfl) (hm:Mem.look m ml=J5 ml:=by exact rfl) (hr:aV (el.map fun p=>(p.1,e p.1)) ml=true:=by exact rfl) (mi:(nu.all fun p=>ml.any fun q=>q.1 == p.1)=true:=by exact rfl):cV P N (fun id=>Mem.of nu id ≠ .none) ops [] (fun e m=>Wk (fun id=>Mem.of nu id ≠ .none) e m (Env.of el) (Mem.of ml)) e m:=s0 (Wk.eq he hm hr mi)
theorem zM {P:Program} {ro:List Nat} {ops:Array Oper} {nu ml:List (Nat × LE)} {el:List (Nat × LV)} {e:Env} {m:Mem} (he:Env.look e el=el:=by exact rfl) (hm:Mem.look m ml=J5 ml:=by exact rfl) (hr:aV (el.map fun p=>(p.1,e p.1)) ml=true:=by exact rfl) (mi:(nu.all fun p=>ml.any fun q=>q.1 == p.1)=true:=by exact rfl):cI P (fun id=>Mem.of nu id ≠ .none) ro ops (List.zip [] []) (fun e m=>Wk (fun id=>Mem.of nu id ≠ .none) e m (Env.of el) (Mem.of ml)) e m:=m0 (Wk.eq he hm hr mi)
theorem R {α:Type} {a:α}:a=a:=rfl
abbrev eh:List LV:=[.I 0,.I 0,.str (ByteArray.mk #[]),.nil,.nil]
abbrev du (l:List LV):LE:=.nest 49 5 [(1,54,5),(2,4,1),(3,88,3)] l
theorem aS {nu:List (Nat × LE)} {e:Env} {m:Mem} (el:List (Nat × LV)) (ml:List (Nat × LE)) (he:Env.look e el=el:=by exact rfl) (hm:Mem.look m ml=J5 ml:=by exact rfl) (hr:aV (el.map fun p=>(p.1,e p.1)) ml=true:=by exact rfl) (mi:(nu.all fun p=>ml.any fun q=>q.1 == p.1)=true:=by exact rfl):Wk (fun id=>Mem.of nu id ≠ .none) e m (Env.of el) (Mem.of ml):=Wk.eq he hm hr mi
theorem aT {α:Type} {a b:Array α} (h:a=b):a.toList=b.toList:=congrArg Array.toList h
theorem oI {α:Type} {a b:α} (h:some a=some b):a=b:=Option.some.inj h
theorem nT {a b n:Nat} (h:n=b) (h2:Nat.ble a b=true):a≤n:=by rw [h]; exact Nat.le_of_ble_eq_true h2
theorem cB {a b:Bool} (h:a=b):LV.bool a=LV.bool b:=congrArg LV.bool h
theorem bh {pr:Nat→Prop} {I:Nat→Env→Mem→Prop} {n:Nat} {Q:Exit→Env→Mem→Prop} {e e':Env} {m m':Mem} (h:I n e' m') (hw:Wk pr e m e' m'):tN pr I (n+1) Q .normal e m:=L2 hw h
section
variable {P:Program} {N:Nat} {pr:Nat→Prop} {ops:Array Oper} {l:List Oper} {KE:Env→Mem→Prop} {e:Env} {m:Mem} {i:Nat} {x:Operand} {ty:TypeId} {pos:String} {af:Array Edge}
theorem bj {k:IntKind} {n:Int} (h:c9 e x=(.int k n)) (hr:cV P N pr ops l KE (e.put i (.int k n)) m):cV P N pr ops (⟨some i,.move x,ty,pos,af,.none⟩ :: l) KE e m:=sN (oM h hr)
theorem bD {b:Bool} (h:c9 e x=(.bool b)) (hr:cV P N pr ops l KE (e.put i (.bool b)) m):cV P N pr ops (⟨some i,.move x,ty,pos,af,.none⟩ :: l) KE e m:=sN (oM h hr)
theorem Iv  (h:c9 e x=.nil) (hr:cV P N pr ops l KE (e.put i .nil) m):cV P N pr ops (⟨some i,.move x,ty,pos,af,.none⟩ :: l) KE e m:=sN (oM h hr)
theorem fp {k:Nat} {xs:List LV} (h:c9 e x=(.ak k xs)) (hr:cV P N pr ops l KE (e.put i (.ak k xs)) m):cV P N pr ops (⟨some i,.move x,ty,pos,af,.none⟩ :: l) KE e m:=sN (oM h hr)
theorem j0 {id n:Nat} (h:c9 e x=(.arr id n)) (hr:cV P N pr ops l KE (e.put i (.arr id n)) m):cV P N pr ops (⟨some i,.move x,ty,pos,af,.none⟩ :: l) KE e m:=sN (oM h hr)
theorem hZ {id o:Nat} (h:c9 e x=(.ptr id o)) (hr:cV P N pr ops l KE (e.put i (.ptr id o)) m):cV P N pr ops (⟨some i,.move x,ty,pos,af,.none⟩ :: l) KE e m:=sN (oM h hr)
theorem rR {cs:List LV} (h:c9 e x=(.cX cs)) (hr:cV P N pr ops l KE (e.put i (.cX cs)) m):cV P N pr ops (⟨some i,.move x,ty,pos,af,.none⟩ :: l) KE e m:=sN (oM h hr)
theorem bo {k:IntKind} {n:Int} (h:c9 e x=(.int k n)) (hr:cV P N pr ops l KE (e.put i (.int k n)) m):cV P N pr ops (⟨some i,.assign x,ty,pos,af,.none⟩ :: l) KE e m:=sN (oA h hr)
theorem b4 {b:Bool} (h:c9 e x=(.bool b)) (hr:cV P N pr ops l KE (e.put i (.bool b)) m):cV P N pr ops (⟨some i,.assign x,ty,pos,af,.none⟩ :: l) KE e m:=sN (oA h hr)
theorem kX  (h:c9 e x=.nil) (hr:cV P N pr ops l KE (e.put i .nil) m):cV P N pr ops (⟨some i,.assign x,ty,pos,af,.none⟩ :: l) KE e m:=sN (oA h hr)
theorem qR {k:Nat} {xs:List LV} (h:c9 e x=(.ak k xs)) (hr:cV P N pr ops l KE (e.put i (.ak k xs)) m):cV P N pr ops (⟨some i,.assign x,ty,pos,af,.none⟩ :: l) KE e m:=sN (oA h hr)
theorem nM {id n:Nat} (h:c9 e x=(.arr id n)) (hr:cV P N pr ops l KE (e.put i (.arr id n)) m):cV P N pr ops (⟨some i,.assign x,ty,pos,af,.none⟩ :: l) KE e m:=sN (oA h hr)
theorem TL {id o:Nat} (h:c9 e x=(.ptr id o)) (hr:cV P N pr ops l KE (e.put i (.ptr id o)) m):cV P N pr ops (⟨some i,.assign x,ty,pos,af,.none⟩ :: l) KE e m:=sN (oA h hr)
end
section
variable {P:Program} {pr:Nat→Prop} {ro:List Nat} {ops:Array Oper} {l:List Oper} {ey:List Nat} {KE:Env→Mem→Prop} {e:Env} {m:Mem} {i:Nat} {x:Operand} {ty:TypeId} {pos:String} {af:Array Edge}
theorem fF {k:IntKind} {n:Int} (h:c9 e x=(.int k n)) (hr:cI P pr ro ops (List.zip l ey) KE (e.put i (.int k n)) m):cI P pr ro ops (List.zip (⟨some i,.move x,ty,pos,af,.none⟩ :: l) (0 :: ey)) KE e m:=aF (oM h ⟨rfl,hr⟩)
theorem MB {k:IntKind} {n:Int} (h:c9 e x=(.int k n)) (hr:cI P pr ro ops (List.zip l ey) KE (e.put i (.int k n)) m):cI P pr ro ops (List.zip (⟨some i,.assign x,ty,pos,af,.none⟩ :: l) (0 :: ey)) KE e m:=aF (oA h ⟨rfl,hr⟩)
theorem iO {b:Bool} (h:c9 e x=(.bool b)) (hr:cI P pr ro ops (List.zip l ey) KE (e.put i (.bool b)) m):cI P pr ro ops (List.zip (⟨some i,.move x,ty,pos,af,.none⟩ :: l) (0 :: ey)) KE e m:=aF (oM h ⟨rfl,hr⟩)
theorem rM {k:Nat} {xs:List LV} (h:c9 e x=(.ak k xs)) (hr:cI P pr ro ops (List.zip l ey) KE (e.put i (.ak k xs)) m):cI P pr ro ops (List.zip (⟨some i,.move x,ty,pos,af,.none⟩ :: l) (0 :: ey)) KE e m:=aF (oM h ⟨rfl,hr⟩)
theorem Pk {id n:Nat} (h:c9 e x=(.arr id n)) (hr:cI P pr ro ops (List.zip l ey) KE (e.put i (.arr id n)) m):cI P pr ro ops (List.zip (⟨some i,.move x,ty,pos,af,.none⟩ :: l) (0 :: ey)) KE e m:=aF (oM h ⟨rfl,hr⟩)
theorem Ws {id n:Nat} (h:c9 e x=(.arr id n)) (hr:cI P pr ro ops (List.zip l ey) KE (e.put i (.arr id n)) m):cI P pr ro ops (List.zip (⟨some i,.assign x,ty,pos,af,.none⟩ :: l) (0 :: ey)) KE e m:=aF (oA h ⟨rfl,hr⟩)
theorem BX {id o:Nat} (h:c9 e x=(.ptr id o)) (hr:cI P pr ro ops (List.zip l ey) KE (e.put i (.ptr id o)) m):cI P pr ro ops (List.zip (⟨some i,.move x,ty,pos,af,.none⟩ :: l) (0 :: ey)) KE e m:=aF (oM h ⟨rfl,hr⟩)
theorem Wu {cs:List LV} (h:c9 e x=(.cX cs)) (hr:cI P pr ro ops (List.zip l ey) KE (e.put i (.cX cs)) m):cI P pr ro ops (List.zip (⟨some i,.move x,ty,pos,af,.none⟩ :: l) (0 :: ey)) KE e m:=aF (oM h ⟨rfl,hr⟩)
theorem Wt {k:Nat} {cs:List LV} (h:c9 e x=(.fn k cs)) (hr:cI P pr ro ops (List.zip l ey) KE (e.put i (.fn k cs)) m):cI P pr ro ops (List.zip (⟨some i,.move x,ty,pos,af,.none⟩ :: l) (0 :: ey)) KE e m:=aF (oM h ⟨rfl,hr⟩)
end
structure Rn (α:Type) where
 f:Nat
 c:List LV
 m:Option α
 hc:LV.bk c=true
instance {α:Type}:Inhabited (Rn α):=⟨⟨0,[],.none,rfl⟩⟩
theorem Rn.refs {α:Type} (x:Rn α):LV.bK x.c=[]:=gh x.hc
theorem Vb {α:Type} {Q:α→Prop}:∀ x ∈ ([]:List α),Q x:=fun x hx=>by cases hx
theorem T5 {α:Type} {Q:α→Prop} {x:α} {xs:List α} (h:Q x) (hr:∀ y ∈ xs,Q y):∀ y ∈ x :: xs,Q y:=fun y hy=>by
 rcases List.mem_cons.1 hy with rfl | hy
 ·exact h
 ·exact hr y hy
end Go.L
namespace Go.L
variable {P:Program} {d:Nat} {t:TypeId}
def qu (P:Program) (d:Nat) (t:TypeId) (v u:Value) (b:Bool):Prop:=∀ w,(Op.equalIn d t v u).run P w=.ok b w
def Hz (P:Program) (d:Nat) (xs ys:Array Value) (fs:List Field) (b:Bool):Prop:=∀ w,(Op.eqFields d xs ys fs).run P w=.ok b w
theorem BF {k:IntKind} {a b:Int} (h:P.underlying t=some (.int k)):qu P (d+1) t (.int k a) (.int k b) (a == b):=fun w=>run_equalIn_int w d t k k a b h
theorem QN {xs ys:Array Value} {b:Bool} (hS:P.underlying t=some (.struct (P.fieldsOf t))) (hp:P.stoodInHeld t=false) (h:Hz P d xs ys (P.fieldsOf t).toList b):qu P (d+1) t (.agg xs) (.agg ys) b:=fun w=>(run_equalIn_agg w d t xs ys hS hp).trans (h w)
theorem QM {xs ys:Array Value}:Hz P d xs ys [] true:=fun w=>by simp [Op.eqFields]
theorem BD {xs ys : Array Value} {f : Field} {fs : List Field} {v u : Value} {b c : Bool} (hn : (f.name != "_") = true) (hv : ∀ w, (part f.type xs f.offset).run P w = .ok v w) (hu : ∀ w, (part f.type ys f.offset).run P w = .ok u w) (he : qu P d f.type v u b) (hr : Hz P d xs ys fs c) : Hz P d xs ys (f :: fs) (b && c) := fun w => by
 have Se : f.name ≠ "_" := by simpa using hn
 simp only [Op.eqFields,Se,ne_eq,not_false_eq_true,if_true,Sem.run_bind,hv,hu,Result.andThen_ok,he w,Sem.run_ite]
 cases b with
 | false=>simp
 | true=>simp [hr w]
theorem QO {xs ys:List LV} {vs us:List Value} {b c:Bool} (hg:P.eqGuardType P.depth t=false) (hx:eo xs=some vs) (hy:eo ys=some us) (h:qu P Op.maxDepth t (.agg vs.toArray) (.agg us.toArray) b) (hc:b=c):nQ P t xs ys c:=⟨hg,vs,us,hx,hy,fun w=>hc ▸ h w⟩
end Go.L
namespace Go.L
section
variable {P:Program} {pr:Nat→Prop} {m m':Mem} {lv:LV} {o:Oper} {e:Env} {ev:Operand→LV}
def Env.only (e:Env) (sl:List Nat):Env:=fun i=>if sl.contains i then e i else .eF
theorem cr.TP (sl:List Nat) (hs:∀ i ∈ sl,Operand.tmp i ∈ o.op.operands) (h:cr P pr o (c9 (e.only sl)) m lv m'):bl P pr o (c9 e) m lv m':=by
 intro c a Q bA hm
 refine h c a Q (fun x=>?_) hm
 cases x with
 | tmp t =>
  simp only [c9,Env.only]
  by_cases ht:sl.contains t=true
  ·simp only [ht,if_true]; exact bA (.tmp t) (hs t (by simpa using ht))
  ·simp only [ht,if_false,av]; simp [av]
 | const v=>exact pQ c v
 | global g=>simp [c9,av]
 | func f=>simp only [c9,Act.eval,av]; exact ⟨[],rfl,by simp [aC]⟩
theorem bl.Aa {id n k:Nat} {el:TypeId} {α:Type} {f:α→LV} {xs:List α} (hp:∀ x ∈ o.op.operands,(ev x).pure=true) (h:bl P (fun _=>False) o ev Mem.none (.arr id n) (Mem.none.put id (.arr el k (xs.map f)))) (hn:n=xs.length) (m0:Mem):bl P pr o ev m0 (.ak k (xs.map f)) m0:=by
 intro c a Q bA hm
 let c1:Cx:=⟨c.w,fun _=>.none,fun b=>c.O b ∨ c.own b,c.Q⟩
 have kz:∀ b,¬ c1.own b:=by rintro b ⟨i,be,hb,_⟩; cases hb
 have Am:c.Le c1:=⟨Nat.le_refl _,fun b _ hX=>⟨rfl,fun Ab=>Ab.elim (fun h=>h.elim (fun h=>h.elim (fun h=>hX (.inl (.inl h))) (fun h=>hX (.inr h))) (fun h=>hX (.inl (.inr h)))) (kz b)⟩,fun b n hb=>⟨rfl,hb⟩⟩
 have Kf:∀ b,c.X b→b<c.w.heap.size:=fun b hb=>hb.elim (fun h=>h.elim (hm.pb b) (fun h=>(hm.cQ b h).2.2)) (hm.kW)
 have iD:bZ c1 Mem.none:=⟨fun i=>by simp [Mem.none,bt,c1],(fun i i' be eD b h1=>by cases h1),fun b hb=>(kz b hb).elim,fun b hb=>Kf b (hb.elim (fun h=>.inl (.inl h)) .inr),fun b hb=>⟨fun h=>h.elim (hm.cQ b hb).1 (hm.cQ b hb).2.1,kz b,(hm.cQ b hb).2.2⟩⟩
 have KC:∀ x ∈ o.op.operands,av c1 (ev x) (a.eval x):=fun x hx=>av.mono Am _ _ (fun id bE=>by rw [eS _ (hp x hx)] at bE; cases bE) (bA x hx)
 refine Oper.wp_mono ?_ (h c1 a Q KC iD)
 rintro a' w' ⟨v,c',ha,rfl,hv,iM,kA⟩
 obtain ⟨us,hB,hk,bf,hl,hc,E9⟩:=gl (e:=el) (k:=k) (xs:=xs.map f) iM hv (by simp [Mem.put]) (by simpa using hn)
 have hold:∀ b,b<c.w.heap.size→c'.w.heap[b]?=c.w.heap[b]?:=fun b hb=>kA.grow.jA b hb (kz b) (.inr fun h=>h)
 have rn:∀ b,c'.own b→c.w.heap.size≤b:=fun b hb=>(kA.grow.own b hb).elim (fun h=>(kz b h).elim) (fun h=>h)
 let c2:Cx:=⟨c'.w,c.B,c.O,c'.Q⟩
 have lT:gX c c2:=fun b n hb=>kA.q b n hb
 have I8:∀ b,c'.Q b ≠ .none→c.Q b ≠ .none ∨ c.w.heap.size≤b:=fun b hb=>(kA.grow.qn b hb).imp (fun h=>h) (fun h=>h.elim (fun h=>(kz b h).elim) (fun h=>h))
 have oz:c.Le c2:=⟨kA.grow.size,fun b hb hX=>⟨hold b hb,fun Ab=>Ab.elim (fun h=>h.elim (fun h=>hX (.inl (.inl h))) (fun h=>(I8 b h).elim (fun h=>hX (.inl (.inr h))) (fun h=>absurd hb (Nat.not_lt.2 h)))) (fun h=>hX (.inr h))⟩,lT⟩
 have jj:bZ c2 m0:=⟨fun i=>bt.mono oz (fun _=>js.refl _) (fun be b HN hb=>hold b ((hm.gD i).lt HN hb)) (hm.gD i),hm.inj,hm.jQ,fun b hb=>Nat.lt_of_lt_of_le (hm.pb b hb) kA.grow.size,fun b hb=>⟨fun h=>(iM.cQ b hb).1 (by rw [kA.grow.O]; exact .inl h),fun h=>(I8 b hb).elim (fun q=>(hm.cQ b q).2.1 h) (fun q=>absurd (hm.kW h) (Nat.not_lt.2 q)),(iM.cQ b hb).2.2⟩⟩
 have KJ:c'.Le c2:=by
  refine ⟨Nat.le_refl _,fun b _ hX=>⟨rfl,fun Ab=>hX (.inl ?_)⟩,fun b n hb=>⟨rfl,hb⟩⟩
  rcases Ab with (h | h) | h
  ·exact .inl (by rw [kA.grow.O]; exact .inl h)
  ·exact .inr h
  ·exact .inl (by rw [kA.grow.O]; exact .inr h)
 refine ⟨v,c2,ha,rfl,?_,jj,⟨⟨rfl,kA.grow.os,kA.grow.tape,kA.grow.output,kA.grow.drawn,kA.grow.size,fun b hb _ _=>hold b hb,fun _ b n hb=>(lT b n hb).2,fun b hb=>(I8 b hb).imp (fun h=>h) (fun h=>.inr h),fun b hb=>.inl hb,fun i be _ hb=>⟨be,hb,.refl be⟩⟩,fun _=>js.refl _,lT⟩⟩
 simp only [av]
 have iL:=aC.mono KJ (xs.map f) us (fun j hj=>by rw [az _ E9] at hj; cases hj) hl
 rcases bf.2 with ⟨rfl,h0⟩ | ⟨g,cap,cur,rfl,_,sM,kq,_⟩
 ·exact ⟨.none,0,by rw [h0],by omega,fun _=>rfl,E9,.inl (List.eq_nil_of_length_eq_zero h0)⟩
 ·refine ⟨some ⟨g,0,.none⟩,cap,rfl,kq,by simp,E9,.inr ⟨g,0,us,rfl,(Array.getElem?_eq_some_iff.1 sM).1,fun hX=>?_,iL,hc,cU bf rfl⟩⟩
  have h1:=rn g ⟨id,_,hB,.inl rfl⟩
  rcases hX with (h | h) | h
  ·exact absurd (hm.pb g h) (Nat.not_lt.2 h1)
  ·exact (iM.cQ g h).2.1 ⟨id,_,hB,.inl rfl⟩
  ·exact absurd (hm.kW h) (Nat.not_lt.2 h1)
end
section
variable {P:Program} {pr:Nat→Prop} {m:Mem} {ev:Operand→LV} {α β:Type} {f:α→LV} {g:β→LV} {d:Option Nat} {x y:Operand} {t ty:TypeId} {pos:String} {af:Array Edge} {gd:Option (Nat × Bool)}
end
end Go.L
namespace Go.L
section
variable {P:Program} {N:Nat} {pr:Nat→Prop} {ops:Array Oper} {e:Env} {m m':Mem} {ev:Operand→LV} {o:Oper} {lv:LV} {l:List Oper} {KE:Env→Mem→Prop} {T:Bool}
theorem Sub.TO {e k:Nat} {xs:List LV}:Sub (.aI false e k xs) (.ak k xs):=fun c v h=>by simpa only [av] using h
theorem Sub.Tx {e k:Nat} {xs:List LV}:Sub (.ak k xs) (.aI false e k xs):=fun c v h=>by simpa only [av] using h
theorem Sub.TA {e k:Nat} (hk:Nat.ble 1 k=true):Sub .nil (.aI T e k []):=fun c v h=>by
 have hk:=Nat.le_of_ble_eq_true hk
 simp only [av] at h
 subst h
 cases T
 ·simp only [av]; exact ⟨.none,0,by rfl,Nat.le_refl _,fun _=>by rfl,by rfl,.inl trivial⟩
 ·simp only [av]; exact ⟨hk,by rfl,[],World.ownsRow_nil c.w 0 e k,by simp [aC],by simp,fun b hb=>by simp [Value.ownBlock] at hb⟩
theorem vq {e k:Nat} (hk:Nat.ble 1 k=true) {xs ys:List LV} (h:fv xs ys):fv (.nil :: xs) (.aI T e k [] :: ys):=⟨Sub.TA hk,h⟩
theorem DQ {c:Cx} {e k:Nat} {xs:List LV} {v:Value} (h:av c (.aI T e k xs) v):∃ a cap,v=.slice a xs.length cap:=by
 cases T
 ·simp only [av] at h; obtain ⟨a,cap,h,_⟩:=h; exact ⟨a,cap,h⟩
 ·simp only [av] at h; obtain ⟨_,_,_,h,_⟩:=h; exact dx h
theorem L9 {c:Cx} {e k:Nat} {xs:List LV} {v:Value} (h:av c (.aI T e k xs) v) {i:Nat} {y:LV} (hy:xs[i]?=some y) (hs:y.cells.all LV.scalar=true) :
  ∃ b off cap,v=.slice (some ⟨b,off,.none⟩) xs.length cap∧av c (.fS T y.cells) (.pointer (some ⟨b,off+i * k,.none⟩)):=by
 have dY:i<xs.length:=(List.getElem?_eq_some_iff.1 hy).1
 cases T
 ·simp only [av] at h
  obtain ⟨a,cap,he,mB,hn,hp,hr⟩:=h
  rcases hr with rfl | ⟨b,off,vs,rfl,hb,hX,hl,hc,gb⟩
  ·simp at dY
  ·obtain ⟨u,Ja,K6⟩:=hl.get hy
   obtain ⟨f1,f2⟩:=fW (k:=k) (fun v hv=>(hc v hv).1) Ja
   rw [f1] at gb
   have xF:=iv gb
   rw [f2] at xF
   obtain ⟨wa,Fo⟩:=K6.cellsOf hs
   refine ⟨b,off,cap,he,?_⟩
   simp only [av]
   exact ⟨b,_,u.cells.toList,rfl,hb,hX,wa,fun y hy=>Fo y (by simpa using hy),xF⟩
 ·simp only [av] at h
  obtain ⟨hk,hp,vs,ho,hl,hc,hq⟩:=h
  rcases ho.2 with ⟨_,h0⟩ | ⟨g,cap,cur,hv,_⟩
  ·omega
  ·obtain ⟨u,Ja,K6⟩:=hl.get hy
   obtain ⟨f1,f2⟩:=fW (k:=k) (fun v hv=>(hc v hv).1) Ja
   have gb:=cU ho (b:=g) (by rw [hv]; rfl)
   rw [f1] at gb
   have xF:=iv gb
   rw [f2] at xF
   obtain ⟨wa,Fo⟩:=K6.cellsOf hs
   refine ⟨g,0,cap,hv,?_⟩
   simp only [av]
   exact ⟨g,_,u.cells.toList,_,rfl,hq g (by rw [hv]; rfl),wa,fun y hy=>Fo y (by simpa using hy),xF⟩
theorem wS {c:Cx} {cs:List LV} {v:Value} (h:av c (.fS T cs) v):∃ b off vs,v=.pointer (some ⟨b,off,.none⟩)∧aC c cs vs∧c.w.rangeAt b off vs∧∀ n,av c (.fS T (cs.drop n)) (.pointer (some ⟨b,off+n,.none⟩)):=by
 cases T
 ·simp only [av] at h
  obtain ⟨b,off,vs,he,hb,hX,hl,h1,gb⟩:=h
  exact ⟨b,off,vs,he,hl,gb,fun n=>by simp only [av]; exact ⟨b,off+n,vs.drop n,rfl,hb,hX,hl.drop n,fun y hy=>h1 y (List.mem_of_mem_drop hy),fm gb n⟩⟩
 ·simp only [av] at h
  obtain ⟨b,off,vs,q,he,hq,hl,h1,gb⟩:=h
  exact ⟨b,off,vs,he,hl,gb,fun n=>by simp only [av]; exact ⟨b,off+n,vs.drop n,q,rfl,hq,hl.drop n,fun y hy=>h1 y (List.mem_of_mem_drop hy),fm gb n⟩⟩
variable {d:Option Nat} {x y:Operand} {t ty:TypeId} {pos:String} {af:Array Edge} {g:Option (Nat × Bool)} {el kk e0:Nat}
theorem tk {α:Type} {f:α→LV} {xs:List α} (he:telem P t=some el) (hx:ev x=.aI T e0 kk (xs.map f)):bl P pr ⟨d,.call ⟨.builtin .len,#[x],#[t]⟩,ty,pos,af,g⟩ ev m (.int .i64 xs.length) m:=by
 have hu:=fO he
 refine bl.value fun c a bA hM=>?_
 have hv:=bA x (by simp [Op.operands,Call.operands])
 rw [hx] at hv
 obtain ⟨ad,cp,hv⟩:=DQ hv
 exact ⟨.int .i64 xs.length,c,by simp [execOp,resolve,invoke,builtin,Builtin.len_,hv,run_underlying hu,goInt],by simp [av],hM,Step.refl pr c⟩
theorem iQ {α:Type} {f:α→LV} {xs:List α} {z:α} {k:IntKind} {u:Int} {cs:List LV} (he:telem P t=some el) (hk:tok P el=true) (hs:tsize P el=kk) (hx:ev x=.aI T e0 kk (xs.map f)) (hy:ev y=.int k u) (gM:p5 kk f) (hz:idx xs u=some z) (hc:(f z).cells=cs):bl P pr ⟨d,.indexAddr t x y,ty,pos,af,g⟩ ev m (.fS T cs) m:=by
 subst hc
 have hu:=fO he
 obtain ⟨h0,h1⟩:=dB hz
 refine bl.value fun c a bA hM=>?_
 have e1:=bA x (by simp [Op.operands])
 have e2:=bA y (by simp [Op.operands])
 rw [hx] at e1; rw [hy] at e2
 simp only [av] at e2
 obtain ⟨b,off,cap,hv,hr⟩:=L9 e1 (i:=u.toNat) (y:=f z) (by simp [h1]) (gM z).2.2
 have dY:u.toNat<xs.length:=(List.getElem?_eq_some_iff.1 h1).1
 have vV:u<(xs.length:Int):=by omega
 refine ⟨.pointer (some ⟨b,off+u.toNat * kk,.none⟩),c,?_,hr,hM,Step.refl pr c⟩
 unfold tok at hk
 cases sO:P.info? el with
 | none=>simp [sO] at hk
 | some ie =>
  have lT:kk=ie.size:=by rw [← hs]; simp [tsize,sO]
  simp [execOp,hv,e2,Instr.indexAt,asIntOf,run_underlying hu,h0,vV,sizeOf,typeInfo,sO,Addr.add_mid,lT]
theorem oN {z:LV} {cs:List LV} (hx:ev x=.fS T (z :: cs)) (ht:tok P t=true) (ha:tagg P t=false):bl P pr ⟨d,.load t x,ty,pos,af,g⟩ ev m z m:=by
 refine bl.value fun c a bA hM=>?_
 have e1:=bA x (by simp [Op.operands])
 rw [hx] at e1
 obtain ⟨b,off,vs,hv,hl,gb,_⟩:=wS e1
 obtain ⟨lv,rfl,hr⟩:=hD (P:=P) (t:=t) (cs:=z :: cs) (K:=fun l=>l=z) ⟨ht,by rw [if_neg (by simp [ha])]⟩
 obtain ⟨v,ee,fD⟩:=hr c b off vs hl gb
 exact ⟨v,c,by simp [execOp,hv,ee],fD,hM,Step.refl pr c⟩
theorem nz {cs dr:List LV} {n:Nat} (hx:ev x=.fS T cs) (ht:tok P t=true) (ha:tagg P t=true) (hs:tsize P t=n) (hl:Nat.ble n cs.length=true) (hc:cs.take n=dr):bl P pr ⟨d,.load t x,ty,pos,af,g⟩ ev m (.agg dr) m:=by
 subst hc; subst hs
 refine bl.value fun c a bA hM=>?_
 have e1:=bA x (by simp [Op.operands])
 rw [hx] at e1
 obtain ⟨b,off,vs,hv,iL,gb,_⟩:=wS e1
 obtain ⟨lv,rfl,hr⟩:=hD (P:=P) (t:=t) (cs:=cs) (K:=fun l=>l=.agg (cs.take (tsize P t))) ⟨ht,by rw [if_pos ha]; exact ⟨Nat.le_of_ble_eq_true hl,rfl⟩⟩
 obtain ⟨v,ee,fD⟩:=hr c b off vs iL gb
 exact ⟨v,c,by simp [execOp,hv,ee],fD,hM,Step.refl pr c⟩
theorem tj {cs dr:List LV} {n off ft k:Nat} (hf:tfield P t n=some (off,ft)) (hk:tok P ft=true) (hs:tsize P ft=k+1) (hx:ev x=.fS T cs) (hl:Nat.ble off cs.length=true) (hi:cs.drop off=dr):bl P pr ⟨d,.fieldAddr t x n,ty,pos,af,g⟩ ev m (.fS T dr) m:=by
  subst hi
  refine bl.value fun c a bA hM=>?_
  have e1:=bA x (by simp [Op.operands])
  rw [hx] at e1
  obtain ⟨b,q,vs,hv,iL,gb,hd⟩:=wS e1
  obtain ⟨fs,fd,hu,BM,rfl,rfl⟩:∃ fs fd,P.underlying t=some (.struct fs)∧fs[n]?=some fd∧fd.offset=off∧fd.type=ft:=by
    unfold tfield at hf
    split at hf
    · rename_i fs hu
      cases KD:fs[n]? with
      | none=>simp [KD] at hf
      | some fd=>simp [KD] at hf; exact ⟨fs,fd,hu,KD,hf.1,hf.2⟩
    · cases hf
  refine ⟨.pointer (some ⟨b,q+fd.offset,.none⟩),c,?_,hd _,hM,Step.refl pr c⟩
  unfold tok at hk
  cases sO:P.info? fd.type with
  | none=>simp [sO] at hk
  | some i =>
    have Nj : i.size ≠ 0 := by have : tsize P fd.type = i.size := by simp [tsize, sO]
                               omega
    simp [execOp,hv,Instr.fieldAt,run_underlying hu,BM,Instr.sureAddr,fieldPlace,sizeOf,typeInfo,sO,Nj,Addr.add_mid]
theorem FU {α:Type} {f:α→LV} {ys r:List α} {i id:Nat} {K:LV→Mem→Prop} {ro:List Nat} (hi:100+i=id) (he:telem P t=some el) (hr:gI P el=true) (hs:tsize P el=kk) (hx:ev x=.nil) (hy:ev y=.aI T e0 kk (ys.map f)) (hl:app [] ys=some r) (hf:m id=.none) (h:K (.arr id r.length) (m.put id (.arr el kk (r.map f)))):LOp P pr ro ⟨some i,.call ⟨.builtin .append,#[x,y],#[t,t]⟩,ty,pos,af,g⟩ ev m K:=by
 obtain ⟨h0,rfl⟩:=Bw hl
 subst hs; subst hi
 rw [LOp_append,he,hy,hx]
 refine ⟨rfl,hr,rfl,?_⟩
 simp only [qx]
 exact ⟨hf,by simpa using h0,by simpa using h⟩
end
theorem bZ.MP {T:Bool} {c:Cx} {m:Mem} {id e k:Nat} {xs:List LV} (h:bZ c m) (bE:m id=some (.arr e k xs)) (pq:∀ i le,i ≠ id→m i=some le→le.kU id=true) :
  ∃ c':Cx,c'.w=c.w∧c'.O=c.O∧bZ c' (m.del id)∧(∀ x v,x.a8 id=true→av c x v→av c' x v)∧(∀ b,c'.own b→c.own b)∧(∀ v,av c (.arr id xs.length) v→av c' (.aI T e k xs) v)∧(∀ i,i ≠ id→c'.B i=c.B i)∧(∀ b n,c.Q b=some n→c'.Q b=some n)∧(∀ b,c'.Q b ≠ .none→c.Q b ≠ .none ∨ c.own b):=by
 obtain ⟨u,us,hB,hk,bf,hl,hc,hp⟩:=j7 h bE
 obtain ⟨c1,hw,hO,iD,hV,gZ,hX,HI⟩:=h.del id pq
 have hle:c.Le c1:=Cx.sub_le hw hO gZ
 have iL:=aC.mono hle xs us (fun j hj=>by rw [az xs hp] at hj; cases hj) hl
 have Q4:∀ v,av c (.arr id xs.length) v→v=u:=fun v hv=>by
  simp only [av] at hv
  obtain ⟨_,u',k',ln,ll,iB,_,hv⟩:=hv
  rw [hB] at iB; cases iB
  exact hv rfl
 cases T
 ·refine ⟨c1,hw,hO.1,iD,hV,gZ,fun v hv=>?_,HI,fun b n hb=>by rw [hO.2]; exact hb,fun b hb=>.inl (by rw [hO.2] at hb; exact hb)⟩
  rw [Q4 v hv]
  simp only [av]
  rcases bf.2 with ⟨rfl,h0⟩ | ⟨g,cap,cur,rfl,_,hg,kq,_⟩
  ·exact ⟨.none,0,by rw [h0],by omega,fun _=>rfl,hp,.inl (List.eq_nil_of_length_eq_zero h0)⟩
  ·refine ⟨some ⟨g,0,.none⟩,cap,rfl,kq,by simp,hp,.inr ⟨g,0,us,rfl,by rw [hw]; exact (Array.getElem?_eq_some_iff.1 hg).1,hX g _ hB (.inl rfl),iL,hc,?_⟩⟩
   rw [hw]; exact cU bf rfl
 ·let c2:Cx:=⟨c1.w,c1.B,c1.O,fun b=>if u.ownBlock=some b then some (xs.length * k) else c1.Q b⟩
  have hQ:∀ b,u.ownBlock=some b→c.Q b=.none:=fun b hb=>by
   cases hq:c.Q b with
   | none=>rfl
   | some n=>exact absurd ⟨id,_,hB,.inl hb⟩ (h.cQ b (by rw [hq]; simp)).2.1
  have Mv:∀ b n,c1.Q b=some n→c2.Q b=some n:=fun b n hb=>by
   simp only [c2]
   rw [if_neg (fun Fp=>by rw [hO.2,hQ b Fp] at hb; cases hb)]; exact hb
  have We:∀ b,u.ownBlock=some b→¬ c1.X b:=fun b hb=>hX b _ hB (.inl hb)
  -- WH is read at all is not read there
  have uT:∀ b,c2.own b→c1.own b:=fun b hb=>hb
  have hblk:∀ b,u.ownBlock=some b→c.own b:=fun b hb=>⟨id,_,hB,.inl hb⟩
  have oz:c.Le c2:=⟨by rw [show c2.w=c1.w from rfl,hw]; exact Nat.le_refl _,fun b hb hx=>⟨by rw [show c2.w=c1.w from rfl,hw],fun nY=>by
    rcases nY with (h' | h') | h'
    ·exact hx (.inl (.inl (by rw [← hO.1]; exact h')))
    ·simp only [c2] at h'
     by_cases Fp:u.ownBlock=some b
     ·exact hx (.inr (hblk b Fp))
     ·rw [if_neg Fp,hO.2] at h'; exact hx (.inl (.inr h'))
    ·exact hx (.inr (gZ b h'))⟩,fun b n hb=>⟨by rw [show c2.w=c1.w from rfl,hw],Mv b n (by rw [hO.2]; exact hb)⟩⟩
  have IW:∀ i,i ≠ id→c2.B i=c.B i:=fun i hi=>HI i hi
  have vP:∀ x:LV,x.a8 id=true→∀ j,x.a8 j=false→js (c.B j) (c2.B j):=fun x hx j hj=>by
   have:j ≠ id:=fun he=>by rw [he,hx] at hj; cases hj
   rw [IW j this]; exact js.refl _
  refine ⟨c2,hw,hO.1,⟨fun i=>?_,iD.inj,fun b ho=>by have:=iD.jQ b ho; exact this,iD.pb,fun b hb=>?_⟩,fun x v hx hv=>av.mono oz x v (vP x hx) hv,gZ,fun v hv=>?_,IW,fun b n hb=>Mv b n (by rw [hO.2]; exact hb),fun b hb=>?_⟩
  ·by_cases hi:i=id
   ·subst hi
    have:=iD.gD i
    simp only [Mem.del,if_true] at this ⊢
    simpa only [bt] using this
   ·have he:=h.gD i
    have e1:m.del id i=m i:=by simp [Mem.del,hi]
    rw [e1,IW i hi]
    cases xE:m i with
    | none=>rw [xE] at he; simpa only [bt] using he
    | some le =>
     rw [xE] at he
     have Q2:=pq i le hi xE
     cases le with
     | box cs =>
      simp only [bt] at he ⊢
      obtain ⟨b,vs,e',q1,q2,q3,q4⟩:=he
      exact ⟨b,vs,e',q1,by rw [show c2.w=c1.w from rfl,hw]; exact q2,aC.mono oz cs vs (fun j hj=>by
       have:j ≠ id:=fun he=>by rw [he] at hj; simp only [LE.kU] at Q2; rw [Q2] at hj; cases hj
       rw [IW j this]; exact js.refl _) q3,q4⟩
     | arr e' k' ub =>
      simp only [bt] at he ⊢
      obtain ⟨u',vs,q1,q0,q2,q3,q4,q5⟩:=he
      exact ⟨u',vs,q1,q0,by rw [show c2.w=c1.w from rfl,hw]; exact q2,aC.mono oz ub vs (fun j hj=>by rw [az ub q5] at hj; cases hj) q3,q4,q5⟩
     | nest e' k' os ub =>
      simp only [bt] at he ⊢
      obtain ⟨u',vs,bs,q1,q0,q2,q3,q4⟩:=he
      exact ⟨u',vs,bs,q1,q0,by rw [show c2.w=c1.w from rfl,hw]; exact q2,q3.mono oz (fun b _=>by rw [show c2.w=c1.w from rfl,hw]),q4⟩
     | cW e' k' os ub i1 o1 id2 n2 =>
      simp only [bt] at he ⊢
      obtain ⟨u',vs,bs,q1,q0,q2,q3,⟨ws,v,g1,g2,g3⟩,q4⟩:=he
      exact ⟨u',vs,bs,q1,q0,by rw [show c2.w=c1.w from rfl,hw]; exact q2,q3.mono oz (fun b _=>by rw [show c2.w=c1.w from rfl,hw]),⟨ws,v,g1,by rw [show c2.w=c1.w from rfl,hw]; exact g2,av.mono oz (.arr id2 n2) v (fun j hj=>by
       have:j ≠ id:=fun he=>by rw [he] at hj; simp only [LE.kU] at Q2; simp only [LV.a8] at hj; rw [Q2] at hj; cases hj
       rw [IW j this]; exact js.refl _) g3⟩,q4⟩
     | dead=>simpa only [bt] using he
     | map kt vt es =>
      simp only [bt] at he ⊢
      obtain ⟨b,jw,ck,q1,q2,q3,q4,q5,q6,q7⟩:=he
      exact ⟨b,jw,ck,q1,by rw [show c2.w=c1.w from rfl,hw]; exact q2,aC.mono oz _ _ (fun j hj=>by rw [az _ q5] at hj; cases hj) q3,aC.mono oz _ _ (fun j hj=>by rw [az _ q6] at hj; cases hj) q4,q5,q6,q7⟩
  ·by_cases Fp:u.ownBlock=some b
   ·have hn:=We b Fp
    exact ⟨fun ho=>hn (.inl (.inl ho)),fun ho=>hn (.inr ho),by rw [show c2.w=c1.w from rfl,hw]; exact (h.gD id).lt hB (.inl Fp)⟩
   ·simp only [c2] at hb
    rw [if_neg Fp] at hb
    exact iD.cQ b hb
  ·rw [Q4 v hv]
   simp only [av]
   refine ⟨hk,hp,us,by rw [show c2.w=c1.w from rfl,hw]; exact bf,aC.mono oz xs us (fun j hj=>by rw [az xs hp] at hj; cases hj) hl,hc,fun b hb=>?_⟩
   simp only [c2,if_pos hb]
  ·simp only [c2] at hb
   by_cases Fp:u.ownBlock=some b
   ·exact .inr (hblk b Fp)
   ·rw [if_neg Fp,hO.2] at hb; exact .inl hb
theorem ob.rep {id n:Nat} {tv:LV} {c c':Cx} (hV:∀ x v,x.a8 id=true→av c x v→av c' x v) (hR:∀ v,av c (.arr id n) v→av c' tv v):∀ {el fy:List (Nat × LV)},ob id n tv el fy→∀ i v,av c (Env.of el i) v→av c' (Env.of fy i) v
 | [],[],_,i,v,h=>by simp [Env.of,av]
 | p :: r,q :: s,h,i,v,hr=>by
  obtain ⟨⟨h1,h2⟩,h3⟩:=h
  obtain ⟨pi,pv⟩:=p
  obtain ⟨qi,qv⟩:=q
  simp only at h1 h2
  subst h1
  simp only [Env.of] at hr ⊢
  by_cases hi:i=qi
  ·simp only [hi,if_true] at hr ⊢
   rcases h2 with ⟨rfl,h2⟩ | ⟨rfl,rfl⟩
   ·exact hV _ _ h2 hr
   ·exact hR _ hr
  ·simp only [hi,if_false] at hr ⊢
   exact ob.rep hV hR h3 i v hr
theorem Wk.Kd {pr:Nat→Prop} {α:Type} {f:α→LV} {el fy:List (Nat × LV)} {ml:List (Nat × LE)} (T:Bool) (id e0 k0:Nat) (xs:List α) (bE:Mem.of ml id=some (.arr e0 k0 (xs.map f))) (kf:sG id ml=true) (mi:¬ pr id) (h:ob id xs.length (.aI T e0 k0 (xs.map f)) el fy) :
  Wk pr (Env.of el) (Mem.of ml) (Env.of fy) (Mem.of (ml.filter fun q=>q.1 != id)):=by
 intro N c a bV
 rw [← Mem.AN]
 obtain ⟨c',hw,hO,iM,hV,bf,hR,hB,Sl,Mv⟩:=bV.mem.MP (T:=T) bE (mA kf)
 refine ⟨c',hw,⟨fun i=>h.rep hV (by simpa using hR) i _ (bV.env i),iM,bV.size,bV.defers⟩,?_⟩
 exact ⟨hO,by rw [hw],by rw [hw],by rw [hw],by rw [hw]; exact Nat.le_refl _,by rw [hw]; exact Nat.le_refl _,fun b _ _ _=>by rw [hw],fun _=>Sl,fun b hb=>(Mv b hb).imp (fun h=>h) .inl,fun b ho=>.inl (bf b ho),fun i be Av hb=>⟨be,by rw [hB i (fun h=>mi (h ▸ Av))]; exact hb,.refl be⟩⟩
def p4 (id n:Nat) (tv:LV):List LV→List LV→Prop
 | [],[]=>True
 | x :: xs,y :: ys=>((y=x∧x.a8 id=true) ∨ (x=.arr id n∧y=tv))∧p4 id n tv xs ys
 | _,_=>False
theorem MU {id n:Nat} {tv:LV}:p4 id n tv [] []:=trivial
theorem IU {id n:Nat} {tv x:LV} {xs ys:List LV} (h0:x.a8 id=true) (h:p4 id n tv xs ys):p4 id n tv (x :: xs) (x :: ys):=⟨.inl ⟨rfl,h0⟩,h⟩
theorem MV {id n:Nat} {tv:LV} {xs ys:List LV} (h:p4 id n tv xs ys):p4 id n tv (.arr id n :: xs) (tv :: ys):=⟨.inr ⟨rfl,rfl⟩,h⟩
theorem p4.rep {id n:Nat} {tv:LV} {c c':Cx} (hV:∀ x v,x.a8 id=true→av c x v→av c' x v) (hR:∀ v,av c (.arr id n) v→av c' tv v):∀ {xs ys:List LV},p4 id n tv xs ys→∀ vs,aC c xs vs→aC c' ys vs
 | [],[],_,vs,h=>by simpa only [aC] using h
 | x :: xs,y :: ys,h,vs,hr=>by
  simp only [aC] at hr ⊢
  obtain ⟨v,fQ,rfl,h1,h2⟩:=hr
  refine ⟨v,fQ,rfl,?_,p4.rep hV hR h.2 fQ h2⟩
  rcases h.1 with ⟨rfl,h0⟩ | ⟨rfl,rfl⟩
  ·exact hV _ _ h0 h1
  ·exact hR _ h1
theorem p4.len {id n:Nat} {tv:LV}:∀ {xs ys:List LV},p4 id n tv xs ys→ys.length=xs.length
 | [],[],_=>rfl
 | x :: xs,y :: ys,h=>by simp [p4.len h.2]
theorem Wk.sH {pr:Nat→Prop} {el:List (Nat × LV)} {ml:List (Nat × LE)} {α:Type} {f:α→LV} (T:Bool) (id e k:Nat) (xs:List α) (kF:Nat) {cs dr:List LV} (bE:Mem.of ml id=some (.arr e k (xs.map f))) (hb:Mem.of ml kF=some (.box cs)) (ew:(kF == id)=false) (hcs:p4 id xs.length (.aI T e k (xs.map f)) cs dr) (kf:EJ id kF ml=true) (Ak:(el.all fun p=>p.2.a8 id)=true) (mi:¬ pr id) :
  Wk pr (Env.of el) (Mem.of ml) (Env.of el) (((Mem.of ml).del id).put kF (.box dr)):=by
 intro N c a bV
 have ew:kF ≠ id:=by simpa using ew
 obtain ⟨b,vs,e1,zw,hh,hl,h1⟩:=jd bV.mem hb
 have iD:=bV.mem.re (dr:=cs.map fun _=>LV.eF) hb zw hh (tL cs vs hl) h1 (by simp)
 obtain ⟨c',hw,hO,iM,hV,bf,hR,hB,Sl,Mv⟩:=iD.MP (T:=T) (id:=id) (e:=e) (k:=k) (xs:=xs.map f) (by simp [Mem.put,Ne.symm ew,bE]) (by
  intro i ds hi hd
  by_cases CT:i=kF
  ·subst CT
   simp only [Mem.put,if_true,Option.some.injEq] at hd
   rw [← hd]; exact oL cs
  ·simp only [Mem.put,CT,if_false] at hd
   have:=List.all_eq_true.1 kf _ (fl hd)
   cases ds with
   | box cs=>simpa [hi,CT,LE.kU] using this
   | cW _ _ _ _ _ _ _ _=>simpa [hi,CT,LE.kU] using this
   | _=>rfl)
 have BP:aC c' dr vs:=hcs.rep hV (by simpa using hR) vs hl
 have jj:=iM.re (kF:=kF) (cs:=cs.map fun _=>LV.eF) (dr:=dr) (by simp [Mem.del,Mem.put,ew]) (by rw [hB kF ew]; simpa using zw) (by rw [hw]; exact hh) BP h1 (by simpa using hcs.len)
 have gE:(((Mem.of ml).put kF (.box (cs.map fun _=>LV.eF))).del id).put kF (.box dr)=((Mem.of ml).del id).put kF (.box dr):=by
  funext i
  simp only [Mem.put,Mem.del]
  by_cases CT:i=kF <;> simp [CT]
 rw [gE] at jj
 refine ⟨c',hw,⟨fun i=>hV _ _ ?_ (bV.env i),jj,bV.size,bV.defers⟩,?_⟩
 ·clear bV
  induction el with
  | nil=>simp [Env.of,LV.a8]
  | cons p el ih =>
   simp only [List.all_cons,Bool.and_eq_true] at Ak
   simp only [Env.of]
   split
   ·exact Ak.1
   ·exact ih Ak.2
 ·exact ⟨hO,by rw [hw],by rw [hw],by rw [hw],by rw [hw]; exact Nat.le_refl _,by rw [hw]; exact Nat.le_refl _,fun b _ _ _=>by rw [hw],fun _=>Sl,fun b hb=>(Mv b hb).imp (fun h=>h) .inl,fun b ho=>.inl (bf b ho),fun i be Av hb=>⟨be,by rw [hB i (fun h=>mi (h ▸ Av))]; exact hb,.refl be⟩⟩
theorem bl.Kd {P:Program} {pr:Nat→Prop} {o:Oper} {ev:Operand→LV} {T:Bool} {id n k:Nat} {el:TypeId} {α:Type} {f:α→LV} {xs:List α} (hp:∀ x ∈ o.op.operands,(ev x).pure=true) (h:bl P (fun _=>False) o ev Mem.none (.arr id n) (Mem.none.put id (.arr el k (xs.map f)))) (hn:n=xs.length) (m0:Mem):bl P pr o ev m0 (.aI T el k (xs.map f)) m0:=by
 cases T
 ·intro c a Q bA hm
  refine Oper.wp_mono ?_ (bl.Aa (pr:=pr) hp h hn m0 c a Q bA hm)
  rintro a' w' ⟨v,c',h1,h2,h3,h4⟩
  exact ⟨v,c',h1,h2,Sub.Tx c' v h3,h4⟩
 intro c a Q bA hm
 let c1:Cx:=⟨c.w,fun _=>.none,fun b=>c.O b ∨ c.own b,c.Q⟩
 have kz:∀ b,¬ c1.own b:=by rintro b ⟨i,be,hb,_⟩; cases hb
 have Am:c.Le c1:=⟨Nat.le_refl _,fun b _ hX=>⟨rfl,fun Ab=>Ab.elim (fun h=>h.elim (fun h=>h.elim (fun h=>hX (.inl (.inl h))) (fun h=>hX (.inr h))) (fun h=>hX (.inl (.inr h)))) (kz b)⟩,fun b n hb=>⟨rfl,hb⟩⟩
 have Kf:∀ b,c.X b→b<c.w.heap.size:=fun b hb=>hb.elim (fun h=>h.elim (hm.pb b) (fun h=>(hm.cQ b h).2.2)) (hm.kW)
 have iD:bZ c1 Mem.none:=⟨fun i=>by simp [Mem.none,bt,c1],(fun i i' be eD b h1=>by cases h1),fun b hb=>(kz b hb).elim,fun b hb=>Kf b (hb.elim (fun h=>.inl (.inl h)) .inr),fun b hb=>⟨fun h=>h.elim (hm.cQ b hb).1 (hm.cQ b hb).2.1,kz b,(hm.cQ b hb).2.2⟩⟩
 have KC:∀ x ∈ o.op.operands,av c1 (ev x) (a.eval x):=fun x hx=>av.mono Am _ _ (fun id bE=>by rw [eS _ (hp x hx)] at bE; cases bE) (bA x hx)
 refine Oper.wp_mono ?_ (h c1 a Q KC iD)
 rintro a' w' ⟨v,c',ha,rfl,hv,iM,kA⟩
 obtain ⟨us,hB,hk,bf,hl,hc,E9⟩:=gl (e:=el) (k:=k) (xs:=xs.map f) iM hv (by simp [Mem.put]) (by simpa using hn)
 have hold:∀ b,b<c.w.heap.size→c'.w.heap[b]?=c.w.heap[b]?:=fun b hb=>kA.grow.jA b hb (kz b) (.inr fun h=>h)
 have rn:∀ b,c'.own b→c.w.heap.size≤b:=fun b hb=>(kA.grow.own b hb).elim (fun h=>(kz b h).elim) (fun h=>h)
 have Jc:∀ b,v.ownBlock=some b→c.w.heap.size≤b:=fun b hb=>rn b ⟨id,_,hB,.inl hb⟩
 let c2:Cx:=⟨c'.w,c.B,c.O,fun b=>if v.ownBlock=some b then some (xs.length * k) else c'.Q b⟩
 have lT:gX c c2:=fun b n hb=>by
  have hn:=(hm.cQ b (by rw [hb]; simp)).2.2
  refine ⟨(kA.q b n hb).1,?_⟩
  simp only [c2]
  rw [if_neg (fun h=>by have:=Jc b h; omega)]
  exact (kA.q b n hb).2
 have I8:∀ b,c2.Q b ≠ .none→c.Q b ≠ .none ∨ c.w.heap.size≤b:=fun b hb=>by
  by_cases Jb:v.ownBlock=some b
  ·exact .inr (Jc b Jb)
  ·simp only [c2,Jb,if_false] at hb
   exact (kA.grow.qn b hb).imp (fun h=>h) (fun h=>h.elim (fun h=>(kz b h).elim) (fun h=>h))
 have oz:c.Le c2:=⟨kA.grow.size,fun b hb hX=>⟨hold b hb,fun Ab=>Ab.elim (fun h=>h.elim (fun h=>hX (.inl (.inl h))) (fun h=>(I8 b h).elim (fun h=>hX (.inl (.inr h))) (fun h=>absurd hb (Nat.not_lt.2 h)))) (fun h=>hX (.inr h))⟩,lT⟩
 have KK:∀ b,c2.Q b ≠ .none→b<c'.w.heap.size:=fun b hb=>by
  by_cases Jb:v.ownBlock=some b
  ·exact (iM.gD id).lt hB (.inl Jb)
  ·simp only [c2,Jb,if_false] at hb; exact (iM.cQ b hb).2.2
 have jj:bZ c2 m0:=⟨fun i=>bt.mono oz (fun _=>js.refl _) (fun be b HN hb=>hold b ((hm.gD i).lt HN hb)) (hm.gD i),hm.inj,hm.jQ,fun b hb=>Nat.lt_of_lt_of_le (hm.pb b hb) kA.grow.size,fun b hb=>⟨fun h=>(I8 b hb).elim (fun q=>(hm.cQ b q).1 h) (fun q=>absurd (hm.pb b h) (Nat.not_lt.2 q)),fun h=>(I8 b hb).elim (fun q=>(hm.cQ b q).2.1 h) (fun q=>absurd (hm.kW h) (Nat.not_lt.2 q)),KK b hb⟩⟩
 have KJ:c'.Le c2:=by
  refine ⟨Nat.le_refl _,fun b _ hX=>⟨rfl,fun Ab=>hX ?_⟩,fun b n hb=>⟨rfl,?_⟩⟩
  ·rcases Ab with (h | h) | h
   ·exact .inl (.inl (by rw [kA.grow.O]; exact .inl h))
   ·by_cases Jb:v.ownBlock=some b
    ·exact .inr ⟨id,_,hB,.inl Jb⟩
    ·simp only [c2,Jb,if_false] at h; exact .inl (.inr h)
   ·exact .inl (.inl (by rw [kA.grow.O]; exact .inr h))
  ·simp only [c2]
   rw [if_neg (fun h=>(iM.cQ b (by rw [hb]; simp)).2.1 ⟨id,_,hB,.inl h⟩)]; exact hb
 refine ⟨v,c2,ha,rfl,?_,jj,⟨⟨rfl,kA.grow.os,kA.grow.tape,kA.grow.output,kA.grow.drawn,kA.grow.size,fun b hb _ _=>hold b hb,fun _ b n hb=>(lT b n hb).2,fun b hb=>(I8 b hb).imp (fun h=>h) (fun h=>.inr h),fun b hb=>.inl hb,fun i be _ hb=>⟨be,hb,.refl be⟩⟩,fun _=>js.refl _,lT⟩⟩
 simp only [av]
 refine ⟨hk,E9,us,bf,aC.mono KJ (xs.map f) us (fun j hj=>by rw [az _ E9] at hj; cases hj) hl,hc,fun b hb=>?_⟩
 simp only [c2,hb,if_true,List.length_map]
end Go.L
namespace Go.L
structure sa (q:Bool) (c c':Cx):Prop where
 B:∀ id be,id ≠ dp→c.B id=some be→c'.B id=some be
 size:c.w.heap.size≤c'.w.heap.size
 heap:∀ b,b<c.w.heap.size→¬ c.X b→c'.w.heap[b]?=c.w.heap[b]?∧¬ c'.X b
 own:∀ b,c.own b→c'.w.heap[b]?=c.w.heap[b]?
 aI:q=true→∀ b n,c.Q b=some n→b<c'.w.heap.size∧¬ c'.X b∧∀ j,j<n→c'.w.cell? ⟨b,j,.none⟩=c.w.cell? ⟨b,j,.none⟩
def Rel (q:Bool) (x y:LV):Prop:=∀ c c' v,sa q c c'→av c x v→av c' y v
def lD (q:Bool):List LV→List LV→Prop
 | [],[]=>True
 | x :: xs,y :: ys=>Rel q x y∧lD q xs ys
 | _,_=>False
variable {q:Bool}
theorem lK:lD q [] []:=trivial
theorem eT {x y:LV} {xs ys:List LV} (h:Rel q x y) (hr:lD q xs ys):lD q (x :: xs) (y :: ys):=⟨h,hr⟩
theorem lD.rep:∀ {xs ys:List LV},lD q xs ys→∀ {c c':Cx} {vs:List Value},sa q c c'→aC c xs vs→aC c' ys vs
 | [],[],_,c,c',vs,_,h=>by simpa only [aC] using h
 | x :: xs,y :: ys,hs,c,c',vs,hc,h=>by
  simp only [aC] at h ⊢
  obtain ⟨v,fQ,h0,h1,h2⟩:=h
  exact ⟨v,fQ,h0,hs.1 c c' v hc h1,lD.rep hs.2 hc h2⟩
theorem lD.map {α:Type} {f g:α→LV} (h:∀ z,Rel q (f z) (g z)):∀ (xs:List α),lD q (xs.map f) (xs.map g)
 | []=>trivial
 | x :: xs=>⟨h x,lD.map h xs⟩
theorem Rel.int {k:IntKind} {n:Int}:Rel q (.int k n) (.int k n):=fun c c' v _ h=>by simpa only [av] using h
theorem Rel.bool {b:Bool}:Rel q (.bool b) (.bool b):=fun c c' v _ h=>by simpa only [av] using h
theorem Rel.str {s:ByteArray}:Rel q (.str s) (.str s):=fun c c' v _ h=>by simpa only [av] using h
theorem Rel.nil:Rel q .nil .nil:=fun c c' v _ h=>by simpa only [av] using h
theorem Rel.eF {x:LV}:Rel q x .eF:=fun c c' v _ h=>by simp only [av]
theorem Rel.agg {xs ys:List LV} (h:lD q xs ys):Rel q (.agg xs) (.agg ys):=fun c c' v hc hv=>by
 simp only [av] at hv ⊢
 obtain ⟨vs,h0,h1⟩:=hv
 exact ⟨vs,h0,h.rep hc h1⟩
theorem Rel.ag {xs ys:List LV} (h:lD q xs ys):Rel q (.ag xs) (.ag ys):=fun c c' v hc hv=>by
 simp only [av] at hv ⊢
 obtain ⟨b,off,vs,h0,hb,hX,hl,h1,gb⟩:=hv
 obtain ⟨g1,g2⟩:=hc.heap b hb hX
 exact ⟨b,off,vs,h0,Nat.lt_of_lt_of_le hb hc.size,g2,h.rep hc hl,h1,ei gb g1⟩
theorem Rel.ptr {id o:Nat} (hn:Nat.beq id dp=false):Rel q (.ptr id o) (.ptr id o):=fun c c' v hc hv=>by
 simp only [av] at hv ⊢
 obtain ⟨b,n,h0,h1⟩:=hv
 exact ⟨b,n,hc.B id _ (fun he=>by rw [he] at hn; cases hn) h0,h1⟩
theorem Rel.ak {α:Type} {f g:α→LV} {k:Nat} (h:∀ z,Rel q (f z) (g z)) (hg:∀ z,(g z).pure=true) {xs:List α}:Rel q (.ak k (xs.map f)) (.ak k (xs.map g)):=fun c c' v hc hv=>by
 simp only [av,List.length_map] at hv ⊢
 obtain ⟨a,cap,h1,h2,h3,h4,h5⟩:=hv
 refine ⟨a,cap,h1,h2,h3,cK.2 fun y hy=>?_,?_⟩
 ·obtain ⟨z,_,rfl⟩:=List.mem_map.1 hy; exact hg z
 ·rcases h5 with h5 | ⟨b,off,vs,q1,q2,q3,q4,q5,q6⟩
  ·exact .inl (by simpa using h5)
  ·obtain ⟨g1,g2⟩:=hc.heap b q2 q3
   exact .inr ⟨b,off,vs,q1,Nat.lt_of_lt_of_le q2 hc.size,g2,(lD.map h xs).rep hc q4,q5,ei q6 g1⟩
theorem Rel.aI {α:Type} {f g:α→LV} {T:Bool} {e k:Nat} (h:∀ z,Rel true (f z) (g z)) (hg:∀ z,(g z).pure=true) {xs:List α}:Rel true (.aI T e k (xs.map f)) (.ak k (xs.map g)):=fun c c' v hc hv=>by
 cases T
 ·exact Rel.ak h hg c c' v hc (Sub.TO c v hv)
 ·simp only [av,List.length_map] at hv ⊢
  obtain ⟨hk,hp,vs,ho,hl,uc,hq⟩:=hv
  have iL:=(lD.map h xs).rep hc hl
  have KT:LV.bk (xs.map g)=true:=cK.2 fun y hy=>by obtain ⟨z,_,rfl⟩:=List.mem_map.1 hy; exact hg z
  have hlen:xs.length=vs.length:=by simpa using hl.length
  rcases ho.2 with ⟨rfl,h0⟩ | ⟨b,cap,cur,rfl,_,hb,kq,_⟩
  ·exact ⟨.none,0,by rw [h0],by omega,fun _=>rfl,KT,.inl (by simpa using List.eq_nil_of_length_eq_zero h0)⟩
  ·obtain ⟨g1,g2,g3⟩:=hc.aI rfl b _ (hq b rfl)
   refine ⟨some ⟨b,0,.none⟩,cap,rfl,kq,by simp,KT,.inr ⟨b,0,vs,rfl,g1,g2,iL,uc,fun j u hu=>?_⟩⟩
   have gb:=cU ho rfl j u hu
   rw [Nat.zero_add] at gb ⊢
   rw [g3 j ?_]; exact gb
   have:=(List.getElem?_eq_some_iff.1 hu).1
   rw [dw (k:=k) (fun v hv=>(uc v hv).1),← hlen] at this
   exact this
def ib (q:Bool) (x y:LE):Prop:=∀ c c' (z:Option BE),sa q c c'→(∀ be b,z=some be→be.has b→c.own b)→bt c (some x) z→bt c' (some y) z
theorem ib.box {cs ds:List LV} (h:lD q cs ds):ib q (.box cs) (.box ds):=fun c c' z hc hz hr=>by
 simp only [bt] at hr ⊢
 obtain ⟨b,vs,e,rfl,h1,h2,h3⟩:=hr
 have iL:=h.rep hc h2
 exact ⟨b,vs,e,by rw [h2.length,iL.length],(hc.own b (hz _ b rfl rfl)).trans h1,iL,h3⟩
theorem ib.dead:ib q .dead .dead:=fun c c' z hc hz hr=>by simpa only [bt] using hr
def rb (q:Bool):List (Nat × LE)→List (Nat × LE)→Prop
 | [],[]=>True
 | x :: r,y :: s=>(y.1=x.1∧ib q x.2 y.2)∧rb q r s
 | _,_=>False
theorem L1:rb q [] []:=trivial
theorem uh {i:Nat} {x y:LE} {r s:List (Nat × LE)} (h:ib q x y) (hr:rb q r s):rb q ((i,x) :: r) ((i,y) :: s):=⟨⟨rfl,h⟩,hr⟩
theorem rb.at:∀ {r s:List (Nat × LE)},rb q r s→∀ i,(Mem.of r i=.none∧Mem.of s i=.none) ∨ ∃ x y,Mem.of r i=some x∧Mem.of s i=some y∧ib q x y
 | [],[],_,i=>.inl ⟨rfl,rfl⟩
 | (a,x) :: r,(b,y) :: s,h,i=>by
  obtain ⟨⟨h1,h2⟩,h3⟩:=h
  simp only at h1 h2
  subst h1
  simp only [Mem.of]
  by_cases hi:i=b
  ·simp only [hi,if_true]; exact .inr ⟨x,y,rfl,rfl,h2⟩
  ·simp only [hi,if_false]; exact rb.at h3 i
def pc (q:Bool):List (Nat × LV)→List (Nat × LV)→Prop
 | [],[]=>True
 | x :: r,y :: s=>(y.1=x.1∧Rel q x.2 y.2)∧pc q r s
 | _,_=>False
theorem Ql:pc q [] []:=trivial
theorem wB {i:Nat} {x y:LV} {r s:List (Nat × LV)} (h:Rel q x y) (hr:pc q r s):pc q ((i,x) :: r) ((i,y) :: s):=⟨⟨rfl,h⟩,hr⟩
theorem pc.at:∀ {r s:List (Nat × LV)},pc q r s→∀ i,Rel q (Env.of r i) (Env.of s i)
 | [],[],_,i=>fun c c' v _ _=>by simp [Env.of,av]
 | (a,x) :: r,(b,y) :: s,h,i=>by
  obtain ⟨⟨h1,h2⟩,h3⟩:=h
  simp only at h1 h2
  subst h1
  simp only [Env.of]
  by_cases hi:i=b
  ·simp only [hi,if_true]; exact h2
  ·simp only [hi,if_false]; exact pc.at h3 i
theorem AI {c:Cx} {m:Mem} (hM:bZ c m) (w':World) (fj:c.w.heap.size≤w'.heap.size) (hk:∀ b,b<c.w.heap.size→c.Q b=.none→w'.heap[b]?=c.w.heap[b]?) (ht:∀ b n,c.Q b=some n→∀ j,j<n→w'.cell? ⟨b,j,.none⟩=c.w.cell? ⟨b,j,.none⟩) :
  sa true c ⟨w',c.B,c.O,fun _=>.none⟩ where
 B:=fun id be _ h=>h
 size:=fj
 heap:=fun b hb hx=>⟨hk b hb (by cases hq:c.Q b with | none=>rfl | some n=>exact absurd (.inl (.inr (by rw [hq]; simp))) hx),fun nY=>by
  rcases nY with (h | h) | h
  ·exact hx (.inl (.inl h))
  ·exact h rfl
  ·exact hx (.inr h)⟩
 own:=fun b hb=>hk b (hM.kW hb) (by cases hq:c.Q b with | none=>rfl | some n=>exact absurd hb (hM.cQ b (by rw [hq]; simp)).2.1)
 aI:=fun _ b n hb=>by
  have hn:=hM.cQ b (by rw [hb]; simp)
  refine ⟨Nat.lt_of_lt_of_le hn.2.2 fj,fun nY=>?_,ht b n hb⟩
  rcases nY with (h | h) | h
  ·exact hn.1 h
  ·exact h rfl
  ·exact hn.2.1 h
theorem oT {c:Cx} {ml de:List (Nat × LE)} {w':World} (hM:bZ c (Mem.of ml)) (hl:sa true c ⟨w',c.B,c.O,fun _=>.none⟩) (hr:rb true ml de):bZ ⟨w',c.B,c.O,fun _=>.none⟩ (Mem.of de):=by
 refine ⟨fun i=>?_,hM.inj,hM.jQ,fun b hb=>Nat.lt_of_lt_of_le (hM.pb b hb) hl.size,fun b hb=>absurd rfl hb⟩
 have he:=hM.gD i
 rcases hr.at i with ⟨h1,h2⟩ | ⟨x,y,h1,h2,h3⟩
 ·rw [h1] at he; rw [h2]; simpa only [bt] using he
 ·rw [h1] at he; rw [h2]
  exact h3 c _ _ hl (fun be b hz hb=>⟨i,be,hz,hb⟩) he
theorem Wk.loose {pr:Nat→Prop} {el fy:List (Nat × LV)} {ml de:List (Nat × LE)} (hp:pr dp) (he:pc true el fy) (hm:rb true ml de):Wk pr (Env.of el) (Mem.of ml) (Env.of fy) (Mem.of de):=by
 intro N c a hr
 have hl:=AI hr.mem c.w (Nat.le_refl _) (fun _ _ _=>rfl) (fun _ _ _ _ _=>rfl)
 refine ⟨⟨c.w,c.B,c.O,fun _=>.none⟩,rfl,⟨fun i=>he.at i c _ _ hl (hr.env i),oT hr.mem hl hm,hr.size,hr.defers⟩,?_⟩
 exact ⟨rfl,rfl,rfl,rfl,Nat.le_refl _,Nat.le_refl _,fun _ _ _ _=>rfl,fun h=>absurd hp h,fun b hb=>absurd rfl hb,fun b hb=>.inl hb,fun i be _ hb=>⟨be,hb,.refl be⟩⟩
theorem tO {P:Program} {w:World} {t ty e:TypeId} {i:TypeInfo} {z:Value} (ht:P.underlying t=some (.slice e)) (hi:P.info? e=some i) (hz:i.zero=some z) (zD:z.cells.size=i.size) (e5:0<i.size) (DZ:i.bytes≤256)
  {v:Value} {n:Nat} {xs:List Value} (bf:w.ownsRow 0 e i.size v n xs) {a:Addr} {q cap:Nat} {news:List Value} (hl:news.length=q * i.size) (jI:∀ j u,news[j]?=some u→w.cell? (a.add j)=some u) (h1:∀ u ∈ news,u.oneCell'=true)
  (hb:n+q≤549755813888) :
  ∃ v' w',(Builtin.append_ #[t,t] ty #[v,.slice (some a) q cap]).run P w=.ok v' w'∧w'.ownsRow 0 e i.size v' (n+q) (xs++news)∧w.grownBy w' v.ownBlock∧(∀ b,v'.ownBlock=some b→v.ownBlock=some b ∨ w.heap.size≤b)∧w.drawn≤w'.drawn∧∀ b,v.ownBlock=some b→w'.rangeAt b 0 xs:=by
 obtain ⟨v',w',hr,h2,h3,h4,h5,h6⟩:=et (P:=P) (ty:=ty) ht hi hz zD e5 DZ bf (cap:=cap) hl jI h1 hb
 refine ⟨v',w',hr,h2,h3,h4,h6,fun b DY=>?_⟩
 rcases bf.2 with ⟨rfl,rfl⟩ | ⟨g,zV,cur,rfl,CL,hg,kq,zA,hcs,NO⟩
 ·simp [Value.ownBlock] at DY
 ·have Nd:g=b:=by simpa [Value.ownBlock] using DY
  subst Nd
  have hmul:(n+q) * i.bytes≤140737488355328:=by
   have:=Nat.mul_le_mul hb DZ
   omega
  have MY:n+q≤maxLen:=by simp only [maxLen]; omega
  by_cases nX:n+q≤zV
  ·have xz:n * i.size+news.length≤cur.size:=by rw [hl,hcs,← Nat.add_mul]; exact Nat.mul_le_mul_right _ nX
   have fD:=run_append_room (P:=P) w t ty e i ht hi g n zV cur hg a q cap news hl jI h1 nX xz
   rw [hr] at fD
   cases fD
   have:=cU h2 (b:=g) rfl
   intro j u hu
   refine this j u ?_
   rw [List.getElem?_append_left (List.getElem?_eq_some_iff.1 hu).1]; exact hu
  ·have holds:∀ j u,xs[j]?=some u→w.cell? ((⟨g,0,.none⟩:Addr).add j)=some u:=bf.cells (g:=g) rfl
   have fD:=run_append_grow (P:=P) w t ty e i z ht hi hz ⟨g,0,.none⟩ n zV xs bf.1 holds a q cap news hl jI (by omega) (by simp only [maxLen] at MY; omega) (growslice_fits (by omega) hmul)
   rw [hr] at fD
   cases fD
   have dY:g<w.heap.size:=(Array.getElem?_eq_some_iff.1 hg).1
   exact ei (cU bf rfl) (pA w.drew _ g dY)
section
variable {P:Program} {N:Nat} {pr:Nat→Prop} {ops:Array Oper} {l:List Oper} {KE:Env→Mem→Prop}
theorem Bc {α:Type} {f g:α→LV} {xs ys r:List α} {i el kk:Nat} {t ty:TypeId} {pos:String} {af:Array Edge} {x y:Operand} {es jw:List (Nat × LV)} {ml de:List (Nat × LE)} (hp:pr dp) (he:telem P t=some el) (hr:gI P el=true) (hs:tsize P el=kk) (hx:c9 (Env.of es) x=.aI true el kk (xs.map f)) (hy:c9 (Env.of es) y=.ak kk (ys.map f)) (hl:app xs ys=some r) (Un:∀ z,Rel true (f z) (g z)) (hg:∀ z,(g z).pure=true) (V0:pc true es jw) (V1:rb true ml de)
  (hn:cV P N pr ops l KE ((Env.of jw).put i (.ak kk (r.map g))) (Mem.of de)):cV P N pr ops (⟨some i,.call ⟨.builtin .append,#[x,y],#[t,t]⟩,ty,pos,af,.none⟩ :: l) KE (Env.of es) (Mem.of ml):=by
 intro hd Nt
 obtain ⟨e2,m2,hK,jJ⟩:=hn hd (fun q hq=>Nt q (by simp [hq]))
 refine ⟨e2,m2,hK,fun c a bV=>?_⟩
 simp only [wpList]
 rw [if_pos (by simp [Region.wanted])]
 left
 obtain ⟨h0,rfl⟩:=Bw hl
 subst hs
 have hu:=fO he
 obtain ⟨it,z,hi,hz,zD,D7,e5,DZ,qI⟩:=qg hr
 have dY:i<N:=hd ⟨some i,.call ⟨.builtin .append,#[x,y],#[t,t]⟩,ty,pos,af,.none⟩ (Nt _ (by simp)) i rfl
 have pE:=bV.ev x
 rw [hx] at pE
 have o6:=bV.ev y
 rw [hy] at o6
 simp only [av,List.length_map] at pE
 obtain ⟨hk,ND,vs,ho,I5,IX,hq⟩:=pE
 rw [qI] at ho IX hq
 have hlen:xs.length=vs.length:=by simpa using I5.length
 -- the outcome
 have key:∃ v' w',(Builtin.append_ #[t,t] ty #[a.eval x,a.eval y]).run P c.w=.ok v' w'∧c.w.heap.size≤w'.heap.size∧(∀ b,b<c.w.heap.size→c.Q b=.none→w'.heap[b]?=c.w.heap[b]?)∧(∀ b n,c.Q b=some n→∀ j,j<n→w'.cell? ⟨b,j,.none⟩=c.w.cell? ⟨b,j,.none⟩) ∧
   w'.os=c.w.os∧w'.tape=c.w.tape∧w'.output=c.w.output∧c.w.drawn≤w'.drawn ∧
   ∃ us,aC c (ys.map f) us∧(∀ v ∈ us,v.cells.size=it.size∧∀ y ∈ v.cells,y.oneCell'=true)∧LV.bk (ys.map f)=true∧w'.ownsRow 0 el it.size v' (xs.length+ys.length) (flat (vs++us))∧(∀ b,v'.ownBlock=some b→(a.eval x).ownBlock=some b ∨ c.w.heap.size≤b):=by
  rcases G1 (k:=tsize P el) (.inl rfl) o6 with ⟨RE,hv⟩ | ⟨ad,cap,us,hv,KM,ES,E9,gb⟩
  ·have H4:ys=[]:=by simpa using RE
   subst H4
   refine ⟨a.eval x,c.w,?_,Nat.le_refl _,fun _ _ _=>rfl,fun _ _ _ _ _=>rfl,rfl,rfl,rfl,Nat.le_refl _,[],by simp [aC],by simp,by simp [LV.bk],by simpa using ho,fun b hb=>.inl hb⟩
   rw [hv,run_append_owned_none (P:=P) (w:=c.w) 0 t ty el it it.size hu hi (a.eval x) xs.length _ ho]
  ·rw [qI] at ES
   have KN:ys.length=us.length:=by simpa using KM.length
   have CR:(flat us).length=ys.length * it.size:=by rw [dw (k:=it.size) (fun v hv=>(ES v hv).1),KN]
   simp only [List.length_map] at hv
   obtain ⟨v',w',dL,h2,h3,h4,h5,h6⟩:=tO (P:=P) (ty:=ty) hu hi hz zD e5 DZ ho (cap:=cap) CR gb (fun q hq=>by
    simp only [flat,List.mem_flatMap] at hq
    obtain ⟨v,hv,hq⟩:=hq
    exact (ES v hv).2 q (by simpa using hq)) h0
   refine ⟨v',w',by rw [hv]; exact dL,h3.size,fun b hb HX=>h3.block b hb fun hh=>?_,fun b n HX j hj=>?_,h3.os,h3.tape,h3.output,h5,us,KM,ES,E9,by rw [eH]; exact h2,h4⟩
   ·rw [hq b hh.symm] at HX; cases HX
   ·by_cases qG:(a.eval x).ownBlock=some b
    ·rw [hq b qG] at HX
     cases HX
     have R2:(flat vs).length=xs.length * it.size:=by rw [dw (k:=it.size) (fun v hv=>(IX v hv).1),← hlen]
     obtain ⟨u,Fm⟩:∃ u,(flat vs)[j]?=some u:=⟨(flat vs)[j]'(by omega),by simp [show j<(flat vs).length by omega]⟩
     have g1:=h6 b qG j u Fm
     have g2:=cU ho qG j u Fm
     rw [Nat.zero_add] at g1 g2
     rw [g1,g2]
    ·have vV:=(bV.mem.cQ b (by rw [HX]; simp)).2.2
     exact uM (h3.block b vV fun hh=>qG hh.symm) j
 obtain ⟨v',w',dL,fj,Us,V7,D3,pD,oC,xw,us,KM,ES,E9,iu,hblk⟩:=key
 have rJ:=AI bV.mem w' fj Us V7
 let c':Cx:=⟨w',c.B,c.O,fun _=>.none⟩
 have Vk:bZ c' (Mem.of de):=oT bV.mem rJ V1
 have jH:Grow pr c c':=⟨rfl,D3,pD,oC,xw,fj,fun b hb _ o5=>Us b hb (o5.elim (fun h=>h) (fun h=>absurd hp h)),fun h=>absurd hp h,fun b hb=>absurd rfl hb,fun b hb=>.inl hb,fun j be _ hb=>⟨be,hb,.refl be⟩⟩
 have K4:av c' (.ak (tsize P el) ((xs++ys).map g)) v':=by
  have Nt:aC c' ((xs++ys).map g) (vs++us):=by
   rw [List.map_append]
   exact ((lD.map Un xs).rep rJ I5).append ((lD.map Un ys).rep rJ KM)
  have KT:LV.bk ((xs++ys).map g)=true:=cK.2 fun y hy=>by obtain ⟨z,_,rfl⟩:=List.mem_map.1 hy; exact hg z
  simp only [av,List.length_map,List.length_append]
  rcases iu.2 with ⟨rfl,UF⟩ | ⟨b,cap,cur,rfl,_,hb,kq,_⟩
  ·exact ⟨.none,0,by rw [UF],by omega,fun _=>rfl,KT,.inl (by simpa using (List.eq_nil_of_length_eq_zero (by simpa using UF):xs++ys=[]))⟩
  ·refine ⟨some ⟨b,0,.none⟩,cap,rfl,kq,by simp,KT,.inr ⟨b,0,vs++us,rfl,(Array.getElem?_eq_some_iff.1 hb).1,?_,Nt,fun v hv=>by rw [qI]; exact (List.mem_append.1 hv).elim (IX v) (ES v),cU iu rfl⟩⟩
   rcases hblk b rfl with h | h
   ·exact (rJ.aI rfl b _ (hq b h)).2.1
   ·rintro ((h' | h') | h')
    ·have:=bV.mem.pb b h'; omega
    ·exact h' rfl
    ·have:=bV.mem.kW (show c.own b from h'); omega
 have BL:(execOp a.eval ⟨some i,.call ⟨.builtin .append,#[x,y],#[t,t]⟩,ty,pos,af,.none⟩).run P c.w=.ok (.value v') w':=by
  simp [execOp,resolve,invoke,builtin,dL,Result.andThen]
 unfold Oper.wp
 rw [BL,Oper.upon_value]
 have sY:l9 N c' ((Env.of jw).put i (.ak (tsize P el) ((xs++ys).map g))) (Mem.of de) (a.put (some i) v'):=by
  refine ⟨fun j=>?_,Vk,by simp [Act.put,bV.size],bV.defers⟩
  simp only [Env.put,Act.put]
  by_cases hj:j=i
  ·subst hj
   have:j<a.tmps.size:=by rw [bV.size]; exact dY
   simpa [this] using K4
  ·simp only [hj,if_false]
   simpa [Array.getElem?_setIfInBounds_ne (Ne.symm hj)] using V0.at j c c' _ rJ (bV.env j)
 refine gk _ _ _ _ _ ?_ (jJ c' _ sY)
 rintro x MJ Mg ⟨hx,c2,qJ,fD,pw⟩
 exact ⟨hx,c2,qJ,fD,jH.trans pw⟩
end
theorem aM.view {P:Program} {f:Nat} {args gw:List LV} {lv:LV} (h:aM P f gw (Mem.of []) lv (Mem.of [])) (ha:lD true args gw) (hv:lv.kG=true) (hr:lv.refs=[]):aM P f args (Mem.of []) lv (Mem.of []):=by
 intro c vs hm hargs
 have rJ:=AI hm c.w (Nat.le_refl _) (fun _ _ _=>rfl) (fun _ _ _ _ _=>rfl)
 have hB:∀ id,c.B id=.none:=fun id=>hm.fresh rfl
 have kz:∀ b,¬ c.own b:=by rintro b ⟨id,be,h1,_⟩; rw [hB] at h1; cases h1
 refine (h ⟨c.w,c.B,c.O,fun _=>.none⟩ vs (oT (ml:=[]) (de:=[]) hm rJ trivial) (ha.rep rJ hargs)).mono ?_
 rintro en w' ⟨v,c1,rfl,rfl,iD,kr,hg⟩
 have KQ:∀ b,¬ (⟨c1.w,fun _=>.none,c.O,c.Q⟩:Cx).own b:=by rintro b ⟨id,be,h1,_⟩; cases h1
 refine ⟨v,⟨c1.w,fun _=>.none,c.O,c.Q⟩,rfl,rfl,⟨fun id=>rfl,fun i i' be eD b h1=>(by cases h1),fun b ho=>(KQ b ho).elim,fun b hb=>Nat.lt_of_lt_of_le (hm.pb b hb) hg.size,fun b hb=>⟨(hm.cQ b hb).1,KQ b,Nat.lt_of_lt_of_le (hm.cQ b hb).2.2 hg.size⟩⟩,av.jk lv v hv (fun id bE=>?_) kr,?_⟩
 ·have:=iX lv bE
  rw [hr] at this; cases this
 ·exact ⟨rfl,hg.os,hg.tape,hg.output,hg.drawn,hg.size,fun b hb ho _=>hg.jA b hb (fun h'=>ho h') (.inl rfl),fun _ b n hb=>hb,fun b hb=>.inl hb,fun b hb=>(KQ b hb).elim,fun id be hp=>absurd rfl hp⟩
theorem aM.IG {P:Program} {f:Nat} {args:List LV} {nu uZ:List (Nat × LE)} {lv:LV} (h:aM P f args (Mem.of ((dp,.dead) :: nu)) lv (Mem.of ((dp,.dead) :: uZ))) (h0:Mem.of nu dp=.none) (h1:Mem.of uZ dp=.none)
  (ha:lD false args args) (px:rb false nu nu) (iD:rb false uZ uZ) (hv:Rel false lv lv):aM P f args (Mem.of nu) lv (Mem.of uZ):=by
 intro c vs hm hargs
 have Vh:c.B dp=.none:=hm.fresh h0
 let c0:Cx:=⟨c.w,fun i=>if i=dp then some (.arr (.slice .none 0 0) 1 1 []) else c.B i,fun b=>c.O b ∨ c.Q b ≠ .none,fun _=>.none⟩
 have BJ:∀ i,i ≠ dp→c0.B i=c.B i:=fun i hi=>by simp [c0,hi]
 have HJ:c0.B dp=some (.arr (.slice .none 0 0) 1 1 []):=by simp [c0]
 have uS:∀ b,c0.own b ↔ c.own b:=by
  intro b
  constructor
  ·rintro ⟨i,be,g1,g2⟩
   by_cases hi:i=dp
   ·subst hi; rw [HJ] at g1; cases g1; simp [BE.has,Value.ownBlock] at g2
   ·rw [BJ i hi] at g1; exact ⟨i,be,g1,g2⟩
  ·rintro ⟨i,be,g1,g2⟩
   have hi:i ≠ dp:=fun hi=>by rw [hi,Vh] at g1; cases g1
   exact ⟨i,be,by rw [BJ i hi]; exact g1,g2⟩
 have rJ:sa false c c0:=⟨fun id be bE hb=>by rw [BJ id bE]; exact hb,Nat.le_refl _,fun b hb hx=>⟨rfl,fun nY=>by
  rcases nY with (h' | h') | h'
  ·rcases h' with h' | h'
   ·exact hx (.inl (.inl h'))
   ·exact hx (.inl (.inr h'))
  ·exact h' rfl
  ·exact hx (.inr ((uS b).1 h'))⟩,fun b _=>rfl,fun hq=>by cases hq⟩
 have Vl:bZ c0 (Mem.of ((dp,.dead) :: nu)):=by
  refine ⟨fun i=>?_,fun i j be eD b g1 g2 g3 g4=>?_,fun b ho hO=>?_,fun b hb=>?_,fun b hb=>absurd rfl hb⟩
  ·by_cases hi:i=dp
   ·subst hi
    rw [HJ]
    simp only [Mem.of,if_true,bt]
    exact ⟨_,_,_,rfl,rfl⟩
   ·rw [BJ i hi]
    simp only [Mem.of,hi,if_false]
    have he:=hm.gD i
    rcases px.at i with ⟨e1,_⟩ | ⟨x,y,e1,e2,e3⟩
    ·rw [e1] at he ⊢; simpa only [bt] using he
    ·rw [e1] at he; rw [e2]
     exact e3 c c0 _ rJ (fun be b hz hb=>⟨i,be,hz,hb⟩) he
  ·by_cases hi:i=dp
   ·subst hi; rw [HJ] at g1; cases g1; simp [BE.has,Value.ownBlock] at g3
   ·by_cases hj:j=dp
    ·subst hj; rw [HJ] at g2; cases g2; simp [BE.has,Value.ownBlock] at g4
    ·rw [BJ i hi] at g1; rw [BJ j hj] at g2; exact hm.inj i j be eD b g1 g2 g3 g4
  ·have rp:=(uS b).1 ho
   rcases hO with hO | hO
   ·exact hm.jQ b rp hO
   ·exact (hm.cQ b hO).2.1 rp
  ·rcases hb with hb | hb
   ·exact hm.pb b hb
   ·exact (hm.cQ b hb).2.2
 refine (h c0 vs Vl (ha.rep rJ hargs)).mono ?_
 rintro en w' ⟨v,c1,rfl,rfl,QR,kr,hg⟩
 let c':Cx:=⟨c1.w,fun i=>if i=dp then .none else c1.B i,c.O,c.Q⟩
 have iB:∀ i,i ≠ dp→c'.B i=c1.B i:=fun i hi=>by simp [c',hi]
 have iu:∀ b,c'.own b→c1.own b:=by
  rintro b ⟨i,be,g1,g2⟩
  by_cases hi:i=dp
  ·simp [c',hi] at g1
  ·rw [iB i hi] at g1; exact ⟨i,be,g1,g2⟩
 have QT:∀ b,c1.O b ↔ c.O b ∨ c.Q b ≠ .none:=fun b=>by rw [hg.O]
 have Nu:sa false c1 c':=⟨fun id be bE hb=>by rw [iB id bE]; exact hb,Nat.le_refl _,fun b hb hx=>⟨rfl,fun nY=>by
  rcases nY with (h' | h') | h'
  ·exact hx (.inl (.inl ((QT b).2 (.inl h'))))
  ·exact hx (.inl (.inl ((QT b).2 (.inr h'))))
  ·exact hx (.inr (iu b h'))⟩,fun b _=>rfl,fun hq=>by cases hq⟩
 have e5:c.w.heap.size≤c1.w.heap.size:=hg.size
 refine ⟨v,c',rfl,rfl,⟨fun i=>?_,fun i j be eD b g1 g2 g3 g4=>?_,fun b ho hO=>QR.jQ b (iu b ho) ((QT b).2 (.inl hO)),fun b hb=>Nat.lt_of_lt_of_le (hm.pb b hb) e5,fun b hb=>⟨(hm.cQ b hb).1,fun ho=>QR.jQ b (iu b ho) ((QT b).2 (.inr hb)),Nat.lt_of_lt_of_le (hm.cQ b hb).2.2 e5⟩⟩,hv c1 c' v Nu kr,?_⟩
 ·by_cases hi:i=dp
  ·subst hi
   rw [h1]; simp [bt,c']
  ·rw [iB i hi]
   have he:=QR.gD i
   simp only [Mem.of,hi,if_false] at he
   rcases iD.at i with ⟨e1,_⟩ | ⟨x,y,e1,e2,e3⟩
   ·rw [e1] at he ⊢; simpa only [bt] using he
   ·rw [e1] at he; rw [e2]
    exact e3 c1 c' _ Nu (fun be b hz hb=>⟨i,be,hz,hb⟩) he
 ·by_cases hi:i=dp
  ·simp [c',hi] at g1
  ·by_cases hj:j=dp
   ·simp [c',hj] at g2
   ·rw [iB i hi] at g1; rw [iB j hj] at g2; exact QR.inj i j be eD b g1 g2 g3 g4
 ·refine ⟨rfl,hg.os,hg.tape,hg.output,hg.drawn,hg.size,fun b hb ho _=>hg.jA b hb (fun h'=>ho ((uS b).1 h')) (.inl rfl),fun _ b n hb=>hb,fun b hb=>.inl hb,fun b hb=>(hg.own b (iu b hb)).imp (fun h'=>(uS b).1 h') (fun h'=>h'),fun i be hp hb=>?_⟩
  have hi:i ≠ dp:=fun hi=>by rw [hi] at hp; exact hp h0
  obtain ⟨eD,g1,g2⟩:=hg.AT i be (by simpa [Mem.of,hi] using hp) (by rw [BJ i hi]; exact hb)
  exact ⟨eD,by rw [iB i hi]; exact g1,g2⟩
theorem Ps {le:LE} {nu:List (Nat × LE)}:(fun id=>Mem.of ((dp,le) :: nu) id ≠ .none) dp:=fun h=>by simp [Mem.of] at h
end Go.L
