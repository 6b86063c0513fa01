import Derived.Test.YtmollikhdbaikaaGreatZLa
import Derived.WideKeyElems
import Derived.Lib.AppendZeros
import Derived.Lib.SliceRun
import Derived.Lib.Overlaps
import Derived.Laws.IdiomCopy
import Derived.Laws.StructEq
set_option linter.unusedVariables false
set_option linter.unusedSimpArgs false
namespace Go.L
abbrev LV.I:Int→LV:=LV.int .i64
abbrev LV.L (xs:List Int):LV:=.ak 1 (xs.map (LV.int .i64))
abbrev eo (P : Program) (f : Nat) : Prop := ∃ fn, P.funcs[f]? = some fn ∧ (fn.name == "runtime.NumGoroutine") = false ∧ fn.body.isNone = false
def Sub (x y:LV):Prop:=∀ c v,au c x v→au c y v
def fu:List LV→List LV→Prop
 | [],[]=>True
 | x :: xs,y :: ys=>Sub x y∧fu xs ys
 | _,_=>False
theorem Sub.rfl {x:LV}:Sub x x:=fun _ _ h=>h
theorem Sub.trans {x y z:LV} (h:Sub x y) (k:Sub y z):Sub x z:=fun c v hv=>k c v (h c v hv)
theorem Sub.eB {x:LV}:Sub x .eB:=fun _ _ _=>by simp [au]
theorem Sub.nil {k:Nat}:Sub .nil (.ak k []):=fun c v h=>by
 simp only [au] at h ⊢
 subst h
 exact ⟨.none,0,by rfl,Nat.le_refl _,fun _=>by rfl,by rfl,.inl trivial⟩
theorem fu.rep:∀ {xs ys:List LV},fu xs ys→∀ {c:Cx} {vs:List Value},aC c xs vs→aC c ys vs
 | [],[],_,c,vs,h=>h
 | x :: xs,y :: ys,hs,c,vs,h=>by
  simp only [aC] at h ⊢
  obtain ⟨v,fH,h0,h1,h2⟩:=h
  exact ⟨v,fH,h0,hs.1 c v h1,fu.rep hs.2 h2⟩
theorem fu.rfl:∀ {xs:List LV},fu xs xs
 | []=>trivial
 | x :: xs=>⟨Sub.rfl,fu.rfl⟩
theorem Sub.agg {xs ys:List LV} (h:fu xs ys):Sub (.agg xs) (.agg ys):=fun c v hv=>by
 simp only [au] at hv ⊢
 obtain ⟨vs,h0,h1⟩:=hv
 exact ⟨vs,h0,h.rep h1⟩
theorem Sub.de {xs ys:List LV} (h:fu xs ys):Sub (.de xs) (.de ys):=fun c v hv=>by
 simp only [au] at hv ⊢
 obtain ⟨vs,h0,h1⟩:=hv
 exact ⟨vs,h0,h.rep h1⟩
theorem aP.sub {P:Program} {f:Nat} {args gk:List LV} {m m':Mem} {lv:LV} (h:aP P f gk m lv m') (hs:fu args gk):aP P f args m lv m':=fun c vs hm ha=>h c vs hm (hs.rep ha)
theorem aP.res {P:Program} {f:Nat} {args:List LV} {m m':Mem} {lv wG:LV} (h:aP P f args m lv m') (hs:Sub lv wG):aP P f args m wG m':=fun c vs hm ha=>(h c vs hm ha).mono fun en w' ⟨v,c',h1,h2,h3,h4,h5⟩=>⟨v,c',h1,h2,h3,hs c' v h4,h5⟩
def pU {α:Type} (k:Nat) (f:α→LV):Prop:=∀ x,(f x).pure=true∧(f x).cells.length=k∧(f x).cells.all LV.scalar=true
theorem pU.TF {α:Type} {k:Nat} {f:α→LV} (h:pU k f) (xs:List α):qE k (xs.map f):=by
 intro x hx
 obtain ⟨y,_,rfl⟩:=List.mem_map.1 hx
 exact h y
theorem pU.bj {α:Type} {k:Nat} {f:α→LV} (h:pU k f) (xs:List α):LV.bj (xs.map f)=true:=cH.2 fun x hx=>by
 obtain ⟨y,_,rfl⟩:=List.mem_map.1 hx
 exact (h y).1
theorem lO {k:IntKind}:pU 1 (LV.int k):=fun _=>⟨by rfl,by rfl,by rfl⟩
theorem okB:pU 1 LV.bool:=fun _=>⟨by rfl,by rfl,by rfl⟩
def idx {α:Type} (xs:List α) (i:Int):Option α:=if 0≤i then xs[i.toNat]? else .none
def DY {α:Type} (xs:List α) (a b:Int):Option (List α):=if 0≤a∧a≤b∧b≤xs.length then some ((xs.take b.toNat).drop a.toNat) else .none
def app {α:Type} (xs ys:List α):Option (List α):=if xs.length+ys.length≤549755813888 then some (xs++ys) else .none
def quo (k:IntKind) (a b:Int):Option Int:=if b=0 then .none else some (k.wrap (a.tdiv b))
def PZ (a b:Int):Option Int:=if b=0 then .none else some (a.tmod b)
def DV {α:Type} (z:α) (n:Int):Option (List α):=if 0≤n∧n≤549755813888 then some (List.replicate n.toNat z) else .none
def put {α:Type} (xs:List α) (i:Int) (f:α→α):Option (List α):=(idx xs i).bind fun x=>some (xs.set i.toNat (f x))
abbrev i64 (n:Int):Int:=IntKind.i64.wrap n
theorem al {α β:Type} {o:Option α} {f:α→Option β} {r:β} (h:o.bind f=some r):∃ a,o=some a∧f a=some r:=by
 cases o with
 | none=>cases h
 | some a=>exact ⟨a,rfl,h⟩
theorem aB {α:Type} {b:Bool} {x y:Option α} {r:α} (h:(if b=true then x else y)=some r) (hb:b=true):x=some r:=by rw [if_pos hb] at h; exact h
theorem aA {α:Type} {b:Bool} {x y:Option α} {r:α} (h:(if b=true then x else y)=some r) (hb:b=false):y=some r:=by rw [if_neg (by simp [hb])] at h; exact h
theorem bF {b:Bool} (h:¬ b=true):b=false:=by cases b <;> simp_all
section
variable {P:Program} {N:Nat} {pr:Nat→Prop} {ro:List Nat} {ops:Array Oper} {e:Env} {m:Mem} {ev:Operand→LV} {d:Option Nat} {i j q:Nat} {want:Bool} {op:Op} {ty:TypeId} {pos:String} {af:Array Edge} {g:Option (Nat × Bool)} {l:List Oper} {ei:List Nat} {KE:Env→Mem→Prop} {K:LV→Mem→Prop}
def cS (P:Program) (N:Nat) (pr:Nat→Prop) (ops:Array Oper) (l:List Oper) (K:Env→Mem→Prop) (e:Env) (m:Mem):Prop :=
 (∀ q ∈ ops,∀ i,q.dst=some i→i<N)→(∀ o ∈ l,o ∈ ops)→∃ e' m',K e' m'∧∀ (c:Cx) (a:Act),lS N c e m a→wpList P ops (fun x a' w'=>x=.normal∧∃ c':Cx,c'.w=w'∧lS N c' e' m' a'∧Grow pr c c') l a c.w
theorem ga:∀ (l:List Oper) (a:Act) (w:World) (Q Q':Exit→Act→World→Prop),(∀ x a w,Q x a w→Q' x a w)→wpList P ops Q l a w→wpList P ops Q' l a w:=by
 intro l
 induction l with
 | nil=>intro a w Q Q' hq hh; exact hq _ _ _ hh
 | cons o l ih =>
  intro a w Q Q' hq hh
  simp only [wpList] at hh ⊢
  split
  ·rename_i ND
   rw [if_pos ND] at hh
   rcases hh with hh | ⟨h1,a0,w0,h2⟩
   ·left
    unfold Oper.wp at hh ⊢
    generalize (execOp a.eval o).run P w=r at hh ⊢
    cases r with
    | ok nx w' =>
     cases nx <;> simp only [Oper.upon] at hh ⊢ <;> first
      | exact ih _ _ _ _ hq hh
      | exact Calls.mono hh (fun en LU he=>by cases en <;> first | exact ih _ _ _ _ hq he | exact hq _ _ _ he | exact he.imp fun _=>Exists.imp fun _=>hq _ _ _)
      | exact Rows.mono hh (fun _ _ he=>ih _ _ _ _ hq he)
    | halt x w'=>cases x <;> simp only [Oper.upon] at hh ⊢ <;> first | exact hq _ _ _ hh | exact hh
   ·exact .inr ⟨h1,a0,w0,hq _ _ _ h2⟩
  ·rename_i ND
   rw [if_neg ND] at hh
   exact ih _ _ _ _ hq hh
theorem cS.step {o:Oper} (h:Be P pr ro ops o (cS P N pr ops l KE) e m):cS P N pr ops (o :: l) KE e m:=by
 intro hd hl
 obtain ⟨lv,m1,h1,Nt⟩:=wL hd (hd o (hl o (by simp))) h
 obtain ⟨e',m',hK,jy⟩:=h1 hd (fun q hq=>hl q (by simp [hq]))
 refine ⟨e',m',hK,fun c a hr=>?_⟩
 simp only [wpList]
 refine Nt c a _ _ hr ?_
 intro a' c' tZ hs
 refine ga _ _ _ _ _ ?_ (jy c' a' tZ)
 rintro x Ms LU ⟨hx,c2,qC,fz,pg⟩
 exact ⟨hx,c2,qC,fz,hs.grow.trans pg⟩
theorem cS.wk {e':Env} {m':Mem} (hw:Wk pr e m e' m') (h:cS P N pr ops l KE e' m'):cS P N pr ops l KE e m:=by
 intro hd hl
 obtain ⟨e2,m2,hK,dD⟩:=h hd hl
 refine ⟨e2,m2,hK,fun c a hr=>?_⟩
 obtain ⟨c1,Bz,ec,zj⟩:=hw N c a hr
 rw [← Bz]
 refine ga _ _ _ _ _ ?_ (dD c1 a ec)
 rintro x a' w' ⟨hx,c2,qC,fz,pg⟩
 exact ⟨hx,c2,qC,fz,zj.trans pg⟩
theorem s0 (h:KE e m):cS P N pr ops [] KE e m:=fun _ _=>⟨e,m,h,fun c a hr=>⟨rfl,c,rfl,hr,.refl pr c⟩⟩
theorem sN (h:LOp P pr [] ⟨some i,op,ty,pos,af,.none⟩ (cZ e) m fun lv m'=>cS P N pr ops l KE (e.put i lv) m'):cS P N pr ops (⟨some i,op,ty,pos,af,.none⟩ :: l) KE e m:=cS.step (ro:=[]) h
theorem sB (h:LOp P pr [i] ⟨some i,op,ty,pos,af,.none⟩ (cZ e) m fun lv m'=>cS P N pr ops l KE (e.put i lv) m'):cS P N pr ops (⟨some i,op,ty,pos,af,.none⟩ :: l) KE e m:=cS.step (ro:=[i]) h
theorem s_ (h:LOp P pr [] ⟨.none,op,ty,pos,af,.none⟩ (cZ e) m fun lv m'=>cS P N pr ops l KE e m'):cS P N pr ops (⟨.none,op,ty,pos,af,.none⟩ :: l) KE e m:=cS.step (ro:=[]) h
theorem sT (hj:(ops[j]?).bind (·.dst)=some q) (hg:e q=.bool want) (h:LOp P pr [] ⟨some i,op,ty,pos,af,some (j,want)⟩ (cZ e) m fun lv m'=>cS P N pr ops l KE (e.put i lv) m'):cS P N pr ops (⟨some i,op,ty,pos,af,some (j,want)⟩ :: l) KE e m:=cS.step (ro:=[]) (by
 rw [nX,hj]; simp only [hg,if_true]; exact h)
theorem sF {t:Bool} (hj:(ops[j]?).bind (·.dst)=some q) (hg:e q=.bool t) (hn:t=!want) (h:cS P N pr ops l KE (e.put i (.de [])) m):cS P N pr ops (⟨some i,op,ty,pos,af,some (j,want)⟩ :: l) KE e m:=cS.step (ro:=[]) (by
 subst hn
 rw [nX,hj]; simp only [hg]; cases want <;> exact h)
theorem sU (hj:(ops[j]?).bind (·.dst)=some q) (hg:e q=.de []) (h:cS P N pr ops l KE (e.put i (.de [])) m):cS P N pr ops (⟨some i,op,ty,pos,af,some (j,want)⟩ :: l) KE e m:=cS.step (ro:=[]) (by
 rw [nX,hj]; simp only [hg]; exact h)
theorem m0 (h:KE e m):cA P pr ro ops (List.zip [] []) KE e m:=h
theorem aF (h:LOp P pr ro ⟨some i,op,ty,pos,af,.none⟩ (cZ e) Mem.none fun lv m'=>m'=Mem.none∧cA P pr ro ops (List.zip l ei) KE (e.put i lv) m):cA P pr ro ops (List.zip (⟨some i,op,ty,pos,af,.none⟩ :: l) (0 :: ei)) KE e m:=h
theorem OX (h:LOp P pr ro ⟨some i,op,ty,pos,af,.none⟩ (cZ e) m fun lv m'=>m'=m∧cA P pr ro ops (List.zip l ei) KE (e.put i lv) m):cA P pr ro ops (List.zip (⟨some i,op,ty,pos,af,.none⟩ :: l) (1 :: ei)) KE e m:=h
theorem Hg (h:LOp P pr ro ⟨some i,op,ty,pos,af,.none⟩ (cZ e) m fun lv m'=>cA P pr ro ops (List.zip l ei) KE (e.put i lv) m'):cA P pr ro ops (List.zip (⟨some i,op,ty,pos,af,.none⟩ :: l) (2 :: ei)) KE e m:=h
theorem mT {md:Nat} (hj:(ops[j]?).bind (·.dst)=some q) (hg:e q=.bool want) (h:cA P pr ro ops (List.zip (⟨d,op,ty,pos,af,.none⟩ :: l) (md :: ei)) KE e m):cA P pr ro ops (List.zip (⟨d,op,ty,pos,af,some (j,want)⟩ :: l) (md :: ei)) KE e m:=by
 show fL P pr ro ops md _ _ e m
 rw [rQ,hj]; simp only [hg,if_true]; exact h
theorem mF {md:Nat} {t:Bool} (hj:(ops[j]?).bind (·.dst)=some q) (hg:e q=.bool t) (hn:t=!want) (h:cA P pr ro ops (List.zip l ei) KE (e.put i (.de [])) m):cA P pr ro ops (List.zip (⟨some i,op,ty,pos,af,some (j,want)⟩ :: l) (md :: ei)) KE e m:=by
 subst hn
 show fL P pr ro ops md _ _ e m
 rw [rQ,hj]; simp only [hg]; cases want <;> exact h
theorem mU {md:Nat} (hj:(ops[j]?).bind (·.dst)=some q) (hg:e q=.de []) (h:cA P pr ro ops (List.zip l ei) KE (e.put i (.de [])) m):cA P pr ro ops (List.zip (⟨some i,op,ty,pos,af,some (j,want)⟩ :: l) (md :: ei)) KE e m:=by
 show fL P pr ro ops md _ _ e m
 rw [rQ,hj]; simp only [hg]; exact h
variable {x y a:Operand} {t t':TypeId} {k k':IntKind} {v:LV} {u w:Int} {b c:Bool} {cs dr:List LV} {n id o off el ft kk:Nat}
theorem oM (hx:ev x=v) (h:K v m):LOp P pr ro ⟨d,.move x,ty,pos,af,g⟩ ev m K:=by rw [LOp_move,hx]; exact h
theorem oA (hx:ev x=v) (h:K v m):LOp P pr ro ⟨d,.assign x,ty,pos,af,g⟩ ev m K:=by rw [LOp_assign,hx]; exact h
theorem aW {z:Operand} (hc:ev x=.bool true) (ha:ev y=v) (h:K v m):LOp P pr ro ⟨d,.pick x y z,ty,pos,af,g⟩ ev m K:=by rw [LOp_pick,hc]; simp only [if_true]; rw [ha]; exact h
theorem aV {z:Operand} (hc:ev x=.bool false) (ha:ev z=v) (h:K v m):LOp P pr ro ⟨d,.pick x y z,ty,pos,af,g⟩ ev m K:=by rw [LOp_pick,hc]; simp only [Bool.false_eq_true,if_false]; rw [ha]; exact h
theorem kS {z:LV} (hi:100+i=id) (hz:tzero P t=some z) (hc:z.cells=cs) (hf:m id=.none) (h:K (.ptr id 0) (m.put id (.box cs))):LOp P pr ro ⟨some i,.alloc t,ty,pos,af,g⟩ ev m K:=by
 subst hi; subst hc; rw [LOp_alloc,hz]; exact ⟨hf,h⟩
theorem dp (hr:ro.contains i=true) (hx:ev x=v) (hc:v.cells=cs) (hs:cs.all LV.scalar=true) (h:K (.ag cs) m):LOp P pr ro ⟨some i,.box t x,ty,pos,af,g⟩ ev m K:=by
 subst hc; rw [LOp_box,hx,if_pos hr]; exact ⟨hs,h⟩
theorem Td (hr:ro.contains i=false) (hi:100+i=id) (hx:ev x=v) (hc:v.cells=cs) (hs:cs.all LV.scalar=true) (hf:m id=.none) (h:K (.ptr id 0) (m.put id (.box cs))):LOp P pr ro ⟨some i,.box t x,ty,pos,af,g⟩ ev m K:=by
 subst hi; subst hc; rw [LOp_box,hx,if_neg (by rw [hr]; simp)]; exact ⟨hs,hf,h⟩
theorem gA:lN P t cs []=some cs:=rfl
theorem lf {res:List LV} {r:List (Nat × LV)} (hf:tfield P t i=some (off,ft)) (hs:tsize P ft=v.cells.length) (hk:tok P ft=true) (hl:Nat.ble (off+v.cells.length) cs.length=true) (wC:v.cells.all LV.scalar=true) (hr:rep cs off v.cells=dr) (h:lN P t dr r=some res):lN P t cs ((i,v) :: r)=some res:=by
 subst hr
 simp only [lN,hf]
 rw [if_pos ⟨hs.symm,Nat.le_of_ble_eq_true hl,hk,wC⟩]; exact h
theorem gB {z:List LV} {ps:List (Nat × Operand)} {vs:List (Nat × LV)} (hb:tbuild P t=true) (hz:tzero P t=some (.agg z)) (hv:(ps.map fun p=>(p.1,ev p.2))=vs) (hf:lN P t z vs=some cs) (h:K (.agg cs) m):LOp P pr ro ⟨d,.build t ps.toArray,ty,pos,af,g⟩ ev m K:=by
 rw [LOp_build,hz]; refine ⟨hb,?_⟩; simp only [hv,hf]; exact h
theorem jI {α:Type} {f:α→LV} {ys:List α} {ps:List (Nat × Operand)} (he:telem P t=some el) (hr:gy P el=true) (hk:tsize P el=kk) (hb:Nat.ble (n * kk) 16777216=true) (hi:ps.map (·.1)=List.range n) (hv:(ps.map fun p=>ev p.2)=ys.map f) (gv:pU kk f) (h:K (.ak kk (ys.map f)) m):LOp P pr ro ⟨d,.buildSlice t n ps.toArray,ty,pos,af,g⟩ ev m K:=by
 subst hk
 rw [LOp_buildSlice,he]; exact ⟨hr,Nat.le_of_ble_eq_true hb,hi,by rw [hv]; exact gv.TF ys,by rw [hv]; exact h⟩
theorem bf (hx:ev a=.ag (v :: cs)) (ht:tok P t=true) (ha:tagg P t=false) (h:K v m):LOp P pr ro ⟨d,.load t a,ty,pos,af,g⟩ ev m K:=by
 rw [LOp_load,hx]; simp only [loadC_def,ha,Bool.false_eq_true,if_false]; exact ⟨ht,h⟩
theorem bh (hx:ev a=.ag cs) (ht:tok P t=true) (ha:tagg P t=true) (hs:tsize P t=n) (hl:Nat.ble n cs.length=true) (hc:cs.take n=dr) (h:K (.agg dr) m):LOp P pr ro ⟨d,.load t a,ty,pos,af,g⟩ ev m K:=by
 subst hc; subst hs
 rw [LOp_load,hx]; simp only [loadC_def,ha,if_true]; exact ⟨ht,Nat.le_of_ble_eq_true hl,h⟩
theorem dW {r:List LV} (hx:ev a=.ptr id o) (hm:m id=some (.box cs)) (hl:Nat.ble o cs.length=true) (hc:cs.drop o=v :: r) (ht:tok P t=true) (ha:tagg P t=false) (h:K v m):LOp P pr ro ⟨d,.load t a,ty,pos,af,g⟩ ev m K:=by
 rw [LOp_load,hx]; simp only [hm,loadC_def,hc,ha,Bool.false_eq_true,if_false]; exact ⟨Nat.le_of_ble_eq_true hl,ht,h⟩
theorem uO (hx:ev a=.ptr id o) (hm:m id=some (.box cs)) (hl:Nat.ble o cs.length=true) (ht:tok P t=true) (ha:tagg P t=true) (hs:tsize P t=n) (DM:Nat.ble n (cs.drop o).length=true) (hc:(cs.drop o).take n=dr) (h:K (.agg dr) m):LOp P pr ro ⟨d,.load t a,ty,pos,af,g⟩ ev m K:=by
 subst hc; subst hs
 rw [LOp_load,hx]; simp only [hm,loadC_def,ha,if_true]; exact ⟨Nat.le_of_ble_eq_true hl,ht,Nat.le_of_ble_eq_true DM,h⟩
theorem vM {α:Type} {f:α→LV} {xs:List α} {z:α} {r:List LV} (hx:ev a=.bE id xs.length j o) (hm:m id=some (.arr el kk (xs.map f))) (hz:xs[j]?=some z) (wC:(f z).cells.all LV.scalar=true) (hl:Nat.ble o (f z).cells.length=true) (hc:(f z).cells.drop o=v :: r) (ht:tok P t=true) (ha:tagg P t=false) (h:K v m):LOp P pr ro ⟨d,.load t a,ty,pos,af,g⟩ ev m K:=by
 rw [LOp_load,hx]; simp only [hm,List.length_map,List.getElem?_map,hz,Option.map_some,loadC_def]
 exact ⟨trivial,f z,rfl,wC,Nat.le_of_ble_eq_true hl,ht,by rw [ha,hc]; exact h⟩
theorem pE {α:Type} {f:α→LV} {xs:List α} {z:α} (hx:ev a=.bE id xs.length j o) (hm:m id=some (.arr el kk (xs.map f))) (hz:xs[j]?=some z) (wC:(f z).cells.all LV.scalar=true) (hl:Nat.ble o (f z).cells.length=true) (ht:tok P t=true) (ha:tagg P t=true) (hs:tsize P t=n) (DM:Nat.ble n ((f z).cells.drop o).length=true) (hc:((f z).cells.drop o).take n=dr) (h:K (.agg dr) m):LOp P pr ro ⟨d,.load t a,ty,pos,af,g⟩ ev m K:=by
 subst hc; subst hs
 rw [LOp_load,hx]; simp only [hm,List.length_map,List.getElem?_map,hz,Option.map_some,loadC_def]
 exact ⟨trivial,f z,rfl,wC,Nat.le_of_ble_eq_true hl,ht,by rw [if_pos ha]; exact ⟨Nat.le_of_ble_eq_true DM,h⟩⟩
theorem cV (hx:ev a=.ptr id o) (hv:ev x=v) (wC:v.cells.all LV.scalar=true) (ht:tok P t=true) (hs:tsize P t=v.cells.length) (hm:m id=some (.box cs)) (hl:Nat.ble (o+v.cells.length) cs.length=true) (hc:rep cs o v.cells=dr) (h:K .eB (m.put id (.box dr))):LOp P pr ro ⟨d,.store t a x,ty,pos,af,g⟩ ev m K:=by
 subst hc
 rw [LOp_store,hv,hx]; simp only [hm]; exact ⟨wC,ht,hs,Nat.le_of_ble_eq_true hl,h⟩
theorem FB {α β:Type} (f:α→β) (xs:List α) (j:Nat) (z:α):(xs.map f).set j (f z)=(xs.set j z).map f:=by
 simp [List.map_set]
theorem ri {α:Type} {f:α→LV} {xs:List α} {z z':α} (hx:ev a=.bE id xs.length j o) (hv:ev x=v) (wC:v.cells.all LV.scalar=true) (hp:LV.bj v.cells=true) (ht:tok P t=true) (hs:tsize P t=v.cells.length) (hm:m id=some (.arr el kk (xs.map f))) (hz:xs[j]?=some z) (hw:yK (f z) o v=some (f z')) (h:K .eB (m.put id (.arr el kk ((xs.set j z').map f)))):LOp P pr ro ⟨d,.store t a x,ty,pos,af,g⟩ ev m K:=by
 rw [LOp_store,hv,hx]; simp only [hm]
 exact ⟨wC,ht,hs,by simp,hp,f z,f z',by simp [hz],hw,by rw [FB]; exact h⟩
theorem FL (hx:ev x=.ptr id o) (h:K (.ptr id o) m):LOp P pr ro ⟨d,.nilCheck x,ty,pos,af,g⟩ ev m K:=by rw [LOp_nilCheck,hx]; exact h
theorem cr (hx:ev x=.int k u) (hy:ev y=.int k w) (h:K (.int k (k.wrap (u+w))) m):LOp P pr ro ⟨d,.binOp .add t x y t',ty,pos,af,g⟩ ev m K:=by rw [LOp_binOp,hx,hy]; exact ⟨rfl,h⟩
theorem iG (hx:ev x=.int k u) (hy:ev y=.int k w) (h:K (.int k (k.wrap (u - w))) m):LOp P pr ro ⟨d,.binOp .sub t x y t',ty,pos,af,g⟩ ev m K:=by rw [LOp_binOp,hx,hy]; exact ⟨rfl,h⟩
theorem Tf {r:Int} (hx:ev x=.int k u) (hy:ev y=.int k w) (hr:PZ u w=some r) (h:K (.int k r) m):LOp P pr ro ⟨d,.binOp .rem t x y t',ty,pos,af,g⟩ ev m K:=by
 rw [LOp_binOp,hx,hy]; unfold PZ at hr; split at hr
 ·cases hr
 ·rename_i h0; cases hr; exact ⟨rfl,h0,h⟩
theorem gm (hx:ev x=.int k u) (hy:ev y=.int k w) (h:K (.bool (u == w)) m):LOp P pr ro ⟨d,.binOp .eql t x y t',ty,pos,af,g⟩ ev m K:=by rw [LOp_binOp,hx,hy]; exact ⟨rfl,h⟩
theorem kg (hx:ev x=.int k u) (hy:ev y=.int k w) (h:K (.bool (u != w)) m):LOp P pr ro ⟨d,.binOp .neq t x y t',ty,pos,af,g⟩ ev m K:=by rw [LOp_binOp,hx,hy]; exact ⟨rfl,h⟩
theorem fi (hx:ev x=.int k u) (hy:ev y=.int k w) (h:K (.bool (decide (u<w))) m):LOp P pr ro ⟨d,.binOp .lss t x y t',ty,pos,af,g⟩ ev m K:=by rw [LOp_binOp,hx,hy]; exact ⟨rfl,h⟩
theorem FJ (hx:ev x=.int k u) (hy:ev y=.int k w) (h:K (.bool (decide (u≤w))) m):LOp P pr ro ⟨d,.binOp .leq t x y t',ty,pos,af,g⟩ ev m K:=by rw [LOp_binOp,hx,hy]; exact ⟨rfl,h⟩
theorem iw (hx:ev x=.int k u) (hy:ev y=.int k w) (h:K (.bool (decide (u > w))) m):LOp P pr ro ⟨d,.binOp .gtr t x y t',ty,pos,af,g⟩ ev m K:=by rw [LOp_binOp,hx,hy]; exact ⟨rfl,h⟩
theorem pD (hx:ev x=.int k u) (hy:ev y=.int k w) (h:K (.bool (decide (u ≥ w))) m):LOp P pr ro ⟨d,.binOp .geq t x y t',ty,pos,af,g⟩ ev m K:=by rw [LOp_binOp,hx,hy]; exact ⟨rfl,h⟩
theorem O3 (hx:ev x=.bool b) (hy:ev y=.bool c) (ht:yW P t=true) (h:K (.bool (b == c)) m):LOp P pr ro ⟨d,.binOp .eql t x y t',ty,pos,af,g⟩ ev m K:=by rw [LOp_binOp,hx,hy]; exact ⟨ht,h⟩
theorem CU (hx:ev x=.agg cs) (hy:ev y=.agg dr) (ht:oZ P t cs dr b) (h:K (.bool b) m):LOp P pr ro ⟨d,.binOp .eql t x y t',ty,pos,af,g⟩ ev m K:=by rw [LOp_binOp,hx,hy]; exact ⟨b,ht,h⟩
theorem FM (hx:ev x=.agg cs) (hy:ev y=.agg dr) (ht:oZ P t cs dr b) (h:K (.bool (!b)) m):LOp P pr ro ⟨d,.binOp .neq t x y t',ty,pos,af,g⟩ ev m K:=by rw [LOp_binOp,hx,hy]; exact ⟨b,ht,h⟩
theorem kp (hx:ev x=.bool b) (h:K (.bool (!b)) m):LOp P pr ro ⟨d,.unOp .not t x,ty,pos,af,g⟩ ev m K:=by rw [LOp_not,hx]; exact h
theorem Te (hk:tok P t=true) (ht:tint P t'=some k') (hx:ev x=.int k u) (h:K (.int k' (k'.wrap u)) m):LOp P pr ro ⟨d,.convert t t' x,ty,pos,af,g⟩ ev m K:=by rw [LOp_convert,ht,hx]; exact ⟨hk,h⟩
theorem P3 {α:Type} {xs r:List α} (h:DY xs u w=some r):0≤u∧u≤w∧w≤xs.length∧r=(xs.take w.toNat).drop u.toNat:=by
 unfold DY at h; split at h
 ·rename_i h0; cases h; exact ⟨h0.1,h0.2.1,h0.2.2,rfl⟩
 ·cases h
theorem Tg {α:Type} {f:α→LV} {xs r:List α} {lo hi:Option Operand} (he:telem P t=some el) (hk:tok P el=true) (hs:tsize P el=kk) (hx:ev x=.ak kk (xs.map f)) (rB:(match lo with | .none=>u=0 | some z=>ev z=.int .i64 u)) (Hb:(match hi with | .none=>w=(xs.length:Int) | some z=>ev z=.int .i64 w)) (hr:DY xs u w=some r) (h:K (.ak kk (r.map f)) m):LOp P pr ro ⟨d,.slice t x lo hi .none,ty,pos,af,g⟩ ev m K:=by
 obtain ⟨h0,h1,h2,rfl⟩:=P3 hr
 rw [LOp_slice,he,hx]
 refine ⟨rfl,hk,by trivial,by simp [hs],u.toNat,w.toNat,?_,?_,by omega,by simp; omega,?_⟩
 ·cases lo with
  | none=>simp only at rB; subst rB; rfl
  | some z=>simp only at rB ⊢; rw [rB,Int.toNat_of_nonneg h0]
 ·cases hi with
  | none=>simp only at Hb; subst Hb; simp
  | some z=>simp only at Hb ⊢; rw [Hb,Int.toNat_of_nonneg (by omega)]
 ·rw [← List.map_take,← List.map_drop]; exact h
theorem dK (hf:tfield P t n=some (off,ft)) (hk:tok P ft=true) (hs:tsize P ft=kk+1) (hx:ev x=.ptr id o) (hi:o+off=i) (h:K (.ptr id i) m):LOp P pr ro ⟨d,.fieldAddr t x n,ty,pos,af,g⟩ ev m K:=by
 subst hi; rw [LOp_fieldAddr,hf,hx]; exact ⟨hk,by rw [hs]; simp,h⟩
theorem aw (hf:tfield P t n=some (off,ft)) (hk:tok P ft=true) (hs:tsize P ft=kk+1) (hx:ev x=.ag cs) (hl:Nat.ble off cs.length=true) (hi:cs.drop off=dr) (h:K (.ag dr) m):LOp P pr ro ⟨d,.fieldAddr t x n,ty,pos,af,g⟩ ev m K:=by
 subst hi; rw [LOp_fieldAddr,hf,hx]; exact ⟨hk,by rw [hs]; simp,Nat.le_of_ble_eq_true hl,h⟩
theorem HU {α:Type} {f:α→LV} {xs:List α} {fk V1:Nat} (hf:tfield P t n=some (off,ft)) (hk:tok P ft=true) (hs:tsize P ft=kk+1) (hx:ev x=.bE id xs.length j o) (hm:m id=some (.arr fk V1 (xs.map f))) (hi:o+off=i) (h:K (.bE id xs.length j i) m):LOp P pr ro ⟨d,.fieldAddr t x n,ty,pos,af,g⟩ ev m K:=by
 subst hi; rw [LOp_fieldAddr,hf,hx]; simp only [hm]; exact ⟨hk,by rw [hs]; simp,by simp,h⟩
theorem dC {α:Type} {xs:List α} {z:α} (h:idx xs u=some z):0≤u∧xs[u.toNat]?=some z:=by
 unfold idx at h; split at h
 ·exact ⟨by assumption,h⟩
 ·cases h
theorem eW {α:Type} {f:α→LV} {xs:List α} {z:α} (he:telem P t=some el) (hk:tok P el=true) (hs:tsize P el=kk) (hx:ev x=.ak kk (xs.map f)) (hy:ev y=.int k u) (gv:pU kk f) (hz:idx xs u=some z) (hc:(f z).cells=cs) (h:K (.ag cs) m):LOp P pr ro ⟨d,.indexAddr t x y,ty,pos,af,g⟩ ev m K:=by
 obtain ⟨h0,h1⟩:=dC hz
 subst hc; subst hs
 rw [LOp_indexAddr,he,hx,hy]
 exact ⟨hk,rfl,h0,f z,by simp [h1],(gv z).2.2,h⟩
theorem gX {α:Type} {f:α→LV} {xs:List α} {z:α} (he:telem P t=some el) (hk:tok P el=true) (hs:tsize P el=kk) (hx:ev x=.arr id xs.length) (hm:m id=some (.arr el kk (xs.map f))) (hy:ev y=.int k u) (hz:idx xs u=some z) (h:K (.bE id xs.length u.toNat 0) m):LOp P pr ro ⟨d,.indexAddr t x y,ty,pos,af,g⟩ ev m K:=by
 obtain ⟨h0,h1⟩:=dC hz
 subst hs
 have:=(List.getElem?_eq_some_iff.1 h1).1
 rw [LOp_indexAddr,he,hx,hy]; simp only [hm]
 exact ⟨hk,by simp,trivial,h0,by omega,h⟩
theorem iO {vs:List LV} (hx:ev x=.de vs) (hv:vs[n]?=some v) (h:K v m):LOp P pr ro ⟨d,.extract x n,ty,pos,af,g⟩ ev m K:=by rw [LOp_extract,hx]; exact ⟨v,hv,h⟩
theorem O4 {f:Nat} {cap:List Operand} {vs:List LV} (hv:cap.map ev=vs) (h:K (.fn f vs) m):LOp P pr ro ⟨d,.makeFunc (.func f) #[] cap.toArray,ty,pos,af,g⟩ ev m K:=by rw [LOp_makeFunc,hv]; exact h
theorem QM {α:Type} {f:α→LV} {z:α} {r:List α} (hi:100+i=id) (he:telem P t=some el) (hz:tzero P el=some (f z)) (hr:gy P el=true) (hk:tsize P el=kk) (hx:ev x=.int .i64 u) (hy:ev y=.int .i64 u) (hp:(f z).pure=true) (hl:DV z u=some r) (hf:m id=.none) (h:K (.arr id r.length) (m.put id (.arr el kk (r.map f)))):LOp P pr ro ⟨some i,.makeSlice t x y,ty,pos,af,g⟩ ev m K:=by
 subst hi; subst hk
 unfold DV at hl; split at hl
 ·rename_i h0; cases hl
  rw [LOp_makeSlice,he]
  simp only [Option.getD_some,hz,hx,hy]
  exact ⟨trivial,h0.1,h0.2,hr,hp,hf,by simpa using h⟩
 ·cases hl
theorem bX {α:Type} {f:α→LV} {xs:List α} (he:telem P t=some el) (hx:ev x=.ak kk (xs.map f)) (h:K (.int .i64 xs.length) m):LOp P pr ro ⟨d,.call ⟨.builtin .len,#[x],#[t]⟩,ty,pos,af,g⟩ ev m K:=by rw [LOp_len,hx]; exact ⟨by rw [he]; rfl,by simpa using h⟩
theorem FK {α:Type} {f:α→LV} {xs:List α} {fk:Nat} (he:telem P t=some el) (hx:ev x=.arr id xs.length) (hm:m id=some (.arr fk kk (xs.map f))) (h:K (.int .i64 xs.length) m):LOp P pr ro ⟨d,.call ⟨.builtin .len,#[x],#[t]⟩,ty,pos,af,g⟩ ev m K:=by
 rw [LOp_len,hx]; simp only [hm]; exact ⟨by rw [he]; rfl,by simp,h⟩
theorem Bi {α:Type} {xs ys r:List α} (h:app xs ys=some r):xs.length+ys.length≤549755813888∧r=xs++ys:=by
 unfold app at h; split at h
 ·cases h; exact ⟨by assumption,rfl⟩
 ·cases h
theorem my {α:Type} {f:α→LV} {xs ys r:List α} (he:telem P t=some el) (hr:gy P el=true) (hs:tsize P el=kk) (hx:ev x=.arr id xs.length) (hm:m id=some (.arr el kk (xs.map f))) (hp:¬ pr id) (hy:ev y=.ak kk (ys.map f)) (hl:app xs ys=some r) (h:K (.arr id r.length) (m.put id (.arr el kk (r.map f)))):LOp P pr ro ⟨some i,.call ⟨.builtin .append,#[x,y],#[t,t]⟩,ty,pos,af,g⟩ ev m K:=by
 obtain ⟨h0,rfl⟩:=Bi hl
 subst hs
 rw [LOp_append,he,hy,hx]
 refine ⟨rfl,hr,rfl,?_⟩
 simp only [qp,hm]
 exact ⟨hp,by trivial,by trivial,by simp,by simpa using h0,by simpa using h⟩
theorem CT {α:Type} {f:α→LV} {ys r:List α} (hi:100+i=id) (he:telem P t=some el) (hr:gy P el=true) (hs:tsize P el=kk) (hx:ev x=.nil) (hy:ev y=.ak kk (ys.map f)) (hl:app [] ys=some r) (hf:m id=.none) (h:K (.arr id r.length) (m.put id (.arr el kk (r.map f)))):LOp P pr ro ⟨some i,.call ⟨.builtin .append,#[x,y],#[t,t]⟩,ty,pos,af,g⟩ ev m K:=by
 obtain ⟨h0,rfl⟩:=Bi hl
 subst hs; subst hi
 rw [LOp_append,he,hy,hx]
 refine ⟨rfl,hr,rfl,?_⟩
 simp only [qp]
 exact ⟨hf,by simpa using h0,by simpa using h⟩
theorem dU {f : Nat} {cap args gk : List LV} {xs : List Operand} {ts : Array TypeId} (hx : ev x = .fn f cap) (hf : ∃ fn, P.funcs[f]? = some fn ∧ (fn.name == "runtime.NumGoroutine") = false ∧ fn.body.isNone = false) (ha : xs.map ev ++ cap = args) (hs : fu args gk) (hc : aP P f gk (Mem.of []) v (Mem.of [])) (hp : LV.bj args = true) (h : K v m) : LOp P pr ro ⟨d, .call ⟨.value x, xs.toArray, ts⟩, ty, pos, af, g⟩ ev m K := by
 subst ha
 rw [LOp_call,hx]
 exact ⟨hf,rV.Mw (hc.sub hs) hp m h⟩
theorem fa {f : Nat} {cap args gk : List LV} {xs : List Operand} {ts : Array TypeId} {ml dg : List (Nat × LE)} (hx : ev x = .fn f cap) (hf : ∃ fn, P.funcs[f]? = some fn ∧ (fn.name == "runtime.NumGoroutine") = false ∧ fn.body.isNone = false) (ha : xs.map ev ++ cap = args) (hs : fu args gk) (hc : aP P f gk (Mem.of ml) v (Mem.of dg)) (hm : lE m ml) (ra : ∀ p ∈ dg, (ml.any fun q => q.1 == p.1) = true ∨ m p.1 = .none) (hr : aU (args.map fun x => (0, x)) ml = true) (h : K v (m.over (Mem.of dg))) (vI : Mem.of ml dj = .none := by exact rfl) : LOp P pr ro ⟨d, .call ⟨.value x, xs.toArray, ts⟩, ty, pos, af, g⟩ ev m K := by
 subst ha
 rw [LOp_call,hx]
 exact ⟨hf,aP.Mv (hc.sub hs) hm ra hr h vI⟩
def jQ (e:Env):List (Nat × LV)→Prop
 | []=>True
 | (i,v) :: r=>Sub (e i) v∧jQ e r
theorem jQ.at:∀ {l:List (Nat × LV)},jQ e l→∀ i,Sub (e i) (Env.of l i)
 | [],_,i=>Sub.eB
 | (j,v) :: r,h,i=>by
  simp only [Env.of]
  split
  ·rename_i hi; subst hi; exact h.1
  ·exact jQ.at h.2 i
theorem eN:jQ e []:=trivial
def D4 (e:Env):List (Nat × LV)→Prop
 | []=>True
 | (i,v) :: r=>e i=v∧D4 e r
theorem eQ:∀ {l:List (Nat × LV)},D4 e l→jQ e l
 | [],_=>trivial
 | (i,v) :: r,h=>⟨h.1 ▸ Sub.rfl,eQ h.2⟩
theorem eC {r:List (Nat × LV)} (h:e i=v) (hr:jQ e r):jQ e ((i,v) :: r):=⟨h ▸ Sub.rfl,hr⟩
theorem eL {r:List (Nat × LV)} (h:e i=.nil) (hr:jQ e r):jQ e ((i,.ak n []) :: r):=⟨h ▸ Sub.nil,hr⟩
theorem HW (el:List (Nat × LV)) (i:Nat):Env.of (el.map fun p=>(p.1,e p.1)) i=if (el.any fun p=>p.1 == i)=true then e i else .eB:=by
 induction el with
 | nil=>rfl
 | cons p r ih =>
  simp only [List.map_cons,Env.of,List.any_cons]
  by_cases h:i=p.1
  ·simp [h]
  ·rw [if_neg h,ih]
   have:(p.1 == i)=false:=by simpa using fun h'=>h h'.symm
   simp only [this,Bool.false_or]
theorem FN (el:List (Nat × LV)) (i:Nat) (h:¬ (el.any fun p=>p.1 == i)=true):Env.of el i=.eB:=by
 induction el with
 | nil=>rfl
 | cons p r ih =>
  simp only [List.any_cons,Bool.or_eq_true,not_or] at h
  simp only [Env.of]
  rw [if_neg (fun h'=>h.1 (by simp [h'])),ih h.2]
theorem Wk.to {ml:List (Nat × LE)} {el:List (Nat × LV)} (he:jQ e el) (hm:lE m ml) (hr:aU (el.map fun p=>(p.1,e p.1)) ml=true) (lX:∀ id,pr id→m id=.none ∨ Mem.of ml id ≠ .none):Wk pr e m (Env.of el) (Mem.of ml):=by
 refine (Wk.cut (el.map fun p=>(p.1,e p.1)) ml (fun p hp=>?_) hm.all hr lX).trans fun N c a bQ=>⟨c,rfl,⟨fun i=>?_,bQ.mem,bQ.size,bQ.defers⟩,.refl pr c⟩
 ·obtain ⟨q,_,rfl⟩:=List.mem_map.1 hp
  rfl
 ·have h1:=bQ.env i
  rw [HW] at h1
  by_cases hk:(el.any fun p=>p.1 == i)=true
  ·rw [if_pos hk] at h1; exact he.at i c _ h1
  ·rw [FN el i hk]; simp [au]
theorem a8 {nk ml:List (Nat × LE)} (h:(nk.all fun p=>ml.any fun q=>q.1 == p.1)=true):∀ id,Mem.of nk id ≠ .none→m id=.none ∨ Mem.of ml id ≠ .none:=by
 intro id bC
 cases hx:Mem.of nk id with
 | none=>exact absurd hx bC
 | some le=>exact .inr (jf (List.all_eq_true.1 h _ (fl hx)))
theorem bO {nk:List (Nat × LE)} (h:Mem.of nk id=.none):¬ (fun id=>Mem.of nk id ≠ .none) id:=fun h'=>h' h
def rU (id:Nat):List (Nat × LV)→List (Nat × LV)→Prop
 | [],[]=>True
 | p :: r,q :: s=>(q.1=p.1∧(q.2=p.2 ∨ (p.2=.nil∧q.2=.arr id 0)))∧rU id r s
 | _,_=>False
theorem wN:rU id [] []:=trivial
theorem wK {p:Nat × LV} {r s:List (Nat × LV)} (h:rU id r s):rU id (p :: r) (p :: s):=⟨⟨rfl,.inl rfl⟩,h⟩
theorem wO {r s:List (Nat × LV)} (h:rU id r s):rU id ((i,.nil) :: r) ((i,.arr id 0) :: s):=⟨⟨rfl,.inr ⟨rfl,rfl⟩⟩,h⟩
theorem rU.len:∀ {el fk:List (Nat × LV)},rU id el fk→fk.length=el.length
 | [],[],_=>rfl
 | _ :: _,_ :: _,h=>by simp [h.2.len]
theorem rU.get:∀ {el fk:List (Nat × LV)},rU id el fk→∀ i:Nat,∀ p q,el[i]?=some p→fk[i]?=some q→q.1=p.1∧(q.2=p.2 ∨ (p.2=.nil∧q.2=.arr id 0))
 | [],[],_,i,p,q,hp,hq=>by simp at hp
 | a :: r,b :: s,h,0,p,q,hp,hq=>by simp at hp hq; subst hp; subst hq; exact h.1
 | a :: r,b :: s,h,i+1,p,q,hp,hq=>by simp at hp hq; exact h.2.get i p q hp hq
theorem Wk.rl {el fk:List (Nat × LV)} {ml:List (Nat × LE)} (id e0 k0:Nat) (bC:Mem.of ml id=.none) (hk:Nat.ble 1 k0=true) (h:rU id el fk):Wk pr (Env.of el) (Mem.of ml) (Env.of fk) (Mem.of ((id,.arr e0 k0 []) :: ml)) :=
 Wk.own id e0 k0 bC (Nat.le_of_ble_eq_true hk) h.len h.get
theorem LH.aQ {LC:Nat} {Q:Exit→Env→Mem→Prop} (el:List (Nat × LV)) (ml:List (Nat × LE)) (hd:od N l=true) (h:cS P N pr l.toArray l (fun e m=>Wk pr e m (Env.of el) (Mem.of ml)) e m) (hr:Q .normal (Env.of el) (Mem.of ml)):LH P N pr (.region LC l.toArray false) Q e m:=by
 obtain ⟨e',m',hK,dD⟩:=h (rz hd) (by simp)
 refine ⟨.normal,_,_,mh.post (e':=e') (m':=m') (fun c a hr=>?_) hK,hr⟩
 refine wp_region ?_
 rw [List.size_toArray,List.range_eq_range',wpOps_eq_wpList l 0 (by simp)]
 exact dD c a hr
theorem LH.aj {LC:Nat} {yc:Code} {Q:Exit→Env→Mem→Prop} (el:List (Nat × LV)) (ml:List (Nat × LE)) (hd:od N l=true) (h:cS P N pr l.toArray l (fun e m=>Wk pr e m (Env.of el) (Mem.of ml)) e m) (hr:LH P N pr yc Q (Env.of el) (Mem.of ml)):LH P N pr (.seq (.region LC l.toArray false) yc) Q e m :=
 LH.seq (LH.aQ el ml hd h hr)
theorem LH.sQ {LC:Nat} {Q:Exit→Env→Mem→Prop} (Ac:P.follows .mixedOrders=true) (ro:List Nat) (ei:List Nat) (el:List (Nat × LV)) (ml:List (Nat × LE)) (hlen:ei.length=l.length) (hd:od N l=true) (gv:zL l.toArray ei=true)
  (h:cA P pr ro l.toArray (l.zip ei) (fun e m=>Wk pr e m (Env.of el) (Mem.of ml)) e m) (hr:Q .normal (Env.of el) (Mem.of ml)):LH P N pr (.region LC l.toArray true) Q e m:=by
 obtain ⟨e',m',hK,hc⟩:=ku _ h
 rw [← qm l ei hlen] at hc
 obtain ⟨ex,e2,m2,h1,h2⟩:=LH.B2 (Q:=fun ex e m=>ex=.normal∧e=e'∧m=m') Ac ro ei hd gv hc ⟨rfl,rfl,rfl⟩
 obtain ⟨rfl,rfl,rfl⟩:=h2
 exact ⟨.normal,_,_,h1.post hK,hr⟩
section
variable {Q:Exit→Env→Mem→Prop} {M:Env→Mem→Prop} {I:Nat→Env→Mem→Prop}
theorem av (h:M e m):yX M Q .normal e m:=h
theorem cv (h:Q (.exit i) e m):yX M Q (.exit i) e m:=h
theorem aZ (h:Q .ret e m):yX M Q .ret e m:=h
theorem aY (h:Q .normal e m):lp j Q .normal e m:=h
theorem bL (h:Q .ret e m):lp j Q .ret e m:=h
theorem bM (h:Q .normal e m):lp j Q (.exit j) e m:=by simp only [lp,if_true]; exact h
theorem Ek (hn:Nat.beq i j=false) (h:Q (.exit i) e m):lp j Q (.exit i) e m:=by simp only [lp]; rw [if_neg (fun h'=>by subst h'; simp at hn)]; exact h
theorem bY (h:Q (.exit i) e m):tC pr I n Q (.exit i) e m:=h
theorem dY (h:Q .ret e m):tC pr I n Q .ret e m:=h
theorem LF {e':Env} {m':Mem} (hw:Wk pr e m e' m') (h:I n e' m'):tC pr I (n+1) Q .normal e m:=⟨e',m',hw,n,Nat.lt_succ_self n,h⟩
end
def Ends (Ix:LV) (uM:List (Nat × LE)) (lv:LV) (m':Mem):Prop:=Sub lv Ix∧m'=Mem.of uM
theorem bP {KL:List LV→Prop} (h:KL []):jZ P e m [] KL:=h
theorem bR {KL:List LV→Prop} {r:List ResultVar} (hv:e i=v) (h:jZ P e m r fun l=>KL (v :: l)):jZ P e m (.tmp i :: r) KL:=by simp only [jZ]; rw [hv]; exact h
theorem df {KL:List LV→Prop} {r:List ResultVar} (hv:e i=.ag cs) (ht:tok P t=true) (ha:tagg P t=true) (hs:tsize P t=n) (DM:Nat.ble n cs.length=true) (hc:cs.take n=dr) (h:jZ P e m r fun l=>KL (.agg dr :: l)):jZ P e m (.cell i t :: r) KL:=by
 subst hc; subst hs
 simp only [jZ,hv,loadC_def,ha,if_true]; exact ⟨ht,Nat.le_of_ble_eq_true DM,h⟩
theorem aS {fn:Func} {rs:List ResultVar} {Ix:LV} {uM:List (Nat × LE)} (hr:fn.results.toList=rs) (h:jZ P e m rs fun l=>(∀ p ∈ uM,m p.1=some p.2)∧aU [(0,oneOf l)] uM=true∧(∀ id,pr id→m id=.none ∨ Mem.of uM id ≠ .none)∧Sub (oneOf l) Ix):LB P fn pr (Ends Ix uM) .ret e m:=by
 have key : ∀ (rs : List ResultVar) (K K' : List LV → Prop), (∀ l, K l → K' l) → jZ P e m rs K → jZ P e m rs K' := by
  intro rs
  induction rs with
  | nil=>intro K K' hk h; exact hk _ h
  | cons r rs ih =>
   intro K K' hk h
   have hl:∀ (t:TypeId) (cs:List LV) (A B:LV→Prop),(∀ x,A x→B x)→loadC P t cs A→loadC P t cs B:=by
    intro t cs A B pd hA
    obtain ⟨ht,hA⟩:=hA
    refine ⟨ht,?_⟩
    split at hA
    ·rename_i hg; rw [if_pos hg]; exact ⟨hA.1,pd _ hA.2⟩
    ·rename_i hg
     rw [if_neg hg]
     match cs,hA with
     | x :: cs,hA=>exact pd _ hA
   cases r with
   | tmp t=>exact ih _ _ (fun l hl=>hk _ hl) h
   | cell a t =>
    simp only [jZ] at h ⊢
    cases hx:e a <;> simp only [hx] at h ⊢
    case ag cs=>exact hl _ _ _ _ (fun lv Nc=>ih _ _ (fun l hl=>hk _ hl) Nc) h
    case ptr id o =>
     cases hm:m id with
     | none=>simp [hm] at h
     | some le =>
      cases le with
      | map _ _ _=>simp [hm] at h
      | nest _ _ _ _=>simp [hm] at h
      | cU _ _ _ _ _ _ _ _=>simp [hm] at h
      | dead=>simp [hm] at h
      | arr _ _ _=>simp [hm] at h
      | box cs =>
       simp only [hm] at h ⊢
       exact ⟨h.1,hl _ _ _ _ (fun lv Nc=>ih _ _ (fun l hl=>hk _ hl) Nc) h.2⟩
 show jZ P e m fn.results.toList _
 rw [hr]
 exact key _ _ _ (fun l ⟨h1,h2,h3,h4⟩=>⟨uM,h1,h2,h3,h4,rfl⟩) h
theorem bu {f:Nat} {fn:Func} {code:Code} {args:List LV} {nk uM:List (Nat × LE)} {Ix:LV} (hf:P.funcs[f]?=some fn) (hb:fn.body=some code) (hn:args.length≤fn.ntmps)
  (h:LH P fn.ntmps (fun id=>Mem.of nk id ≠ .none) code (LB P fn (fun id=>Mem.of nk id ≠ .none) (Ends Ix uM)) (Env.args args) (Mem.of nk)):aP P f args (Mem.of nk) Ix (Mem.of uM):=by
 obtain ⟨lv,m',h1,h2,rfl⟩:=aP.HV (R:=Ends Ix uM) hf hb hn h
 exact h1.res h2
theorem aR {ml:List (Nat × LE)} (h:lE m ml):∀ p ∈ ml,m p.1=some p.2:=h.all
theorem cw {ml:List (Nat × LE)}:∀ p ∈ ([]:List (Nat × LE)),(ml.any fun q=>q.1 == p.1)=true ∨ m p.1=.none:=by simp
theorem b8 {ml dg:List (Nat × LE)} {le:LE} (h:(ml.any fun q=>q.1 == i)=true) (h2:∀ p ∈ dg,(ml.any fun q=>q.1 == p.1)=true ∨ m p.1=.none):∀ p ∈ (i,le) :: dg,(ml.any fun q=>q.1 == p.1)=true ∨ m p.1=.none:=by
 intro p hp; rcases List.mem_cons.1 hp with rfl | hp
 ·exact .inl h
 ·exact h2 p hp
theorem O0 {ml dg:List (Nat × LE)} {le:LE} (h:m i=.none) (h2:∀ p ∈ dg,(ml.any fun q=>q.1 == p.1)=true ∨ m p.1=.none):∀ p ∈ (i,le) :: dg,(ml.any fun q=>q.1 == p.1)=true ∨ m p.1=.none:=by
 intro p hp; rcases List.mem_cons.1 hp with rfl | hp
 ·exact .inr h
 ·exact h2 p hp
end
mutual
theorem oh {id k:Nat} {ys:List LV}:∀ (x:LV),x.a7 id=true→x.eE id k ys=x
 | .eB,_ | .int _ _,_ | .bool _,_ | .nil,_ | .pL _,_ | .full _ _,_ | .str _,_ | .it _,_ | .lZ,_ | .fe,_ | .ak _ _,_ | .aJ _ _ _ _,_=>by simp [LV.eE]
 | .ag cs,h=>by simp only [LV.a7] at h; simp [LV.eE,h]
 | .fI _ cs,h=>by simp only [LV.a7] at h; simp [LV.eE,h]
 | .arr i n,h=>by simp [LV.a7] at h; simp [LV.eE,h]
 | .ptr i n,h=>by simp [LV.a7] at h; simp [LV.eE,h]
 | .bE i n j o,h=>by simp [LV.a7] at h; simp [LV.eE,h]
 | .mp i,h=>by simp [LV.a7] at h; simp [LV.eE,h]
 | .agg cs,h=>by simp only [LV.a7] at h; simp only [LV.eE]; rw [iY cs h]
 | .de cs,h=>by simp only [LV.a7] at h; simp only [LV.eE]; rw [iY cs h]
 | .fn _ cs,h=>by simp only [LV.a7] at h; simp only [LV.eE]; rw [iY cs h]
 | .vj _ cs,h=>by simp only [LV.a7] at h; simp only [LV.eE]; rw [iY cs h]
theorem iY {id k:Nat} {ys:List LV}:∀ (xs:List LV),LV.cj id xs=true→LV.fO id k ys xs=xs
 | [],_=>by simp [LV.fO]
 | x :: xs,h=>by
  simp only [LV.cj,Bool.and_eq_true] at h
  simp only [LV.fO]; rw [oh x h.1,iY xs h.2]
end
def nV (id n:Nat) (lv:LV):List (Nat × LV)→List (Nat × LV)→Prop
 | [],[]=>True
 | p :: r,q :: s=>(q.1=p.1∧((q.2=p.2∧p.2.a7 id=true) ∨ (p.2=.arr id n∧q.2=lv)))∧nV id n lv r s
 | _,_=>False
theorem fN {id n:Nat} {lv:LV}:nV id n lv [] []:=trivial
theorem fK {id n:Nat} {lv:LV} {p:Nat × LV} {r s:List (Nat × LV)} (h0:p.2.a7 id=true) (h:nV id n lv r s):nV id n lv (p :: r) (p :: s):=⟨⟨rfl,.inl ⟨rfl,h0⟩⟩,h⟩
theorem fZ {id n i:Nat} {lv:LV} {r s:List (Nat × LV)} (h:nV id n lv r s):nV id n lv ((i,.arr id n) :: r) ((i,lv) :: s):=⟨⟨rfl,.inr ⟨rfl,rfl⟩⟩,h⟩
theorem nV.sub {id k n:Nat} {ys:List LV} (hn:n=ys.length):∀ {el fk:List (Nat × LV)},nV id n (.ak k ys) el fk→∀ i,Sub (Env.of (el.map fun p=>(p.1,p.2.eE id k ys)) i) (Env.of fk i)
 | [],[],_,i=>Sub.rfl
 | p :: r,q :: s,h,i=>by
  obtain ⟨⟨h1,h2⟩,h3⟩:=h
  obtain ⟨pi,pv⟩:=p
  obtain ⟨qi,qv⟩:=q
  simp only at h1 h2
  subst h1
  simp only [List.map_cons,Env.of]
  by_cases hi:i=qi
  ·simp only [hi,if_true]
   rcases h2 with ⟨rfl,h2⟩ | ⟨rfl,rfl⟩
   ·rw [oh _ h2]; exact Sub.rfl
   ·simp only [LV.eE,if_true,hn]; exact Sub.rfl
  ·simp only [hi,if_false]
   exact nV.sub hn h3 i
theorem Wk.kL {pr:Nat→Prop} {α:Type} {f:α→LV} {el fk:List (Nat × LV)} {ml:List (Nat × LE)} (id e0 k0:Nat) (xs:List α) (bC:Mem.of ml id=some (.arr e0 k0 (xs.map f))) (jX:su id ml=true) (lX:¬ pr id) (h:nV id xs.length (.ak k0 (xs.map f)) el fk) :
  Wk pr (Env.of el) (Mem.of ml) (Env.of fk) (Mem.of (ml.filter fun q=>q.1 != id)) :=
 (Wk.eE id e0 k0 (xs.map f) bC jX lX).trans fun N c a hr=>⟨c,rfl,⟨fun i=>nV.sub (by simp) h i c _ (hr.env i),hr.mem,hr.size,hr.defers⟩,.refl pr c⟩
theorem mN {m:Mem}:lE m []:=trivial
theorem mC {m:Mem} {i:Nat} {v:LE} {r:List (Nat × LE)} (h:m i=some v) (hr:lE m r):lE m ((i,v) :: r):=⟨h,hr⟩
theorem bt:fu [] []:=trivial
theorem aK {x:LV} {xs ys:List LV} (h:fu xs ys):fu (x :: xs) (x :: ys):=⟨Sub.rfl,h⟩
theorem yI {k:Nat} {xs ys:List LV} (h:fu xs ys):fu (.nil :: xs) (.ak k [] :: ys):=⟨Sub.nil,h⟩
theorem rq {x y:LV} {xs ys:List LV} (h0:Sub x y) (h:fu xs ys):fu (x :: xs) (y :: ys):=⟨h0,h⟩
abbrev lvl {α:Type} (k:Nat) (f:α→LV):List α→LV:=fun xs=>.ak k (xs.map f)
theorem dv {b x:Bool} (h:b=true):x=(b && x):=by subst h; simp
theorem jA {b x:Bool} (h:b=false):false=(b && x):=by subst h; simp
theorem p7 {b x:Bool} (h:b=true):true=(b || x):=by subst h; simp
theorem iJ {b x:Bool} (h:b=false):x=(b || x):=by subst h; simp
theorem fu.head {x y:LV} {xs ys:List LV} (h:fu (x :: xs) (y :: ys)):Sub x y:=h.1
end Go.L
namespace Go.L
section
variable {P:Program} {N:Nat} {pr:Nat→Prop} {ro:List Nat} {ops:Array Oper} {e:Env} {m m':Mem} {ev Hr:Operand→LV} {o:Oper} {lv:LV} {l:List Oper} {ei:List Nat} {KE:Env→Mem→Prop}
theorem bm.ok (h:bm P pr o ev m lv m'):cd P pr o ev m lv m':=fun c a Q bw hm=>h c a Q (fun x _=>bw x) hm
theorem bm.value (h:∀ (c:Cx) (a:Act),(∀ x ∈ o.op.operands,au c (ev x) (a.eval x))→bU c m→∃ v c',(execOp a.eval o).run P c.w=.ok (.value v) c'.w∧au c' lv v∧bU c' m'∧Step pr c c'):bm P pr o ev m lv m':=by
 intro c a Q bw hm
 obtain ⟨v,c',hr,h1,h2,h3⟩:=h c a bw hm
 unfold Oper.wp
 rw [hr]
 exact ⟨v,c',rfl,rfl,h1,h2,h3⟩
theorem bm.skip (hd:o.dst=.none) (h:∀ (c:Cx) (a:Act),(∀ x ∈ o.op.operands,au c (ev x) (a.eval x))→bU c m→∃ c',(execOp a.eval o).run P c.w=.ok .skip c'.w∧bU c' m'∧Step pr c c'):bm P pr o ev m .eB m':=by
 intro c a Q bw hm
 obtain ⟨c',hr,h2,h3⟩:=h c a bw hm
 unfold Oper.wp
 rw [hr]
 exact ⟨undef,c',by simp [Act.put,hd],rfl,by simp [au],h2,h3⟩
theorem sX {i:Nat} {op:Op} {ty:TypeId} {pos:String} {af:Array Edge} (h:cd P pr ⟨some i,op,ty,pos,af,.none⟩ (cZ e) m lv m') (hr:cS P N pr ops l KE (e.put i lv) m'):cS P N pr ops (⟨some i,op,ty,pos,af,.none⟩ :: l) KE e m:=by
 intro hd hl
 obtain ⟨e2,m2,hK,jy⟩:=hr hd (fun q hq=>hl q (by simp [hq]))
 refine ⟨e2,m2,hK,fun c a bQ=>?_⟩
 simp only [wpList]
 rw [if_pos (by simp [Region.wanted])]
 left
 refine Oper.wp_mono ?_ (h c a _ bQ.ev bQ.mem)
 rintro a' w' ⟨v,c',rfl,rfl,hv,gW,hs⟩
 have sK:lS N c' (e.put i lv) m' (a.put (some i) v):=bQ.put (d:=some i) hs gW (hd ⟨some i,op,ty,pos,af,.none⟩ (hl _ (by simp))) hv
 refine ga _ _ _ _ _ ?_ (jy c' _ sK)
 rintro x Ms LU ⟨hx,c2,qC,fz,pg⟩
 exact ⟨hx,c2,qC,fz,hs.grow.trans pg⟩
theorem Ic {op:Op} {ty:TypeId} {pos:String} {af:Array Edge} (h:cd P pr ⟨.none,op,ty,pos,af,.none⟩ (cZ e) m lv m') (hr:cS P N pr ops l KE e m'):cS P N pr ops (⟨.none,op,ty,pos,af,.none⟩ :: l) KE e m:=by
 intro hd hl
 obtain ⟨e2,m2,hK,jy⟩:=hr hd (fun q hq=>hl q (by simp [hq]))
 refine ⟨e2,m2,hK,fun c a bQ=>?_⟩
 simp only [wpList]
 rw [if_pos (by simp [Region.wanted])]
 left
 refine Oper.wp_mono ?_ (h c a _ bQ.ev bQ.mem)
 rintro a' w' ⟨v,c',ha,rfl,hv,gW,hs⟩
 have sK:lS N c' e m' a':=by rw [ha]; exact bQ.put (d:=.none) hs gW (by simp) hv
 refine ga _ _ _ _ _ ?_ (jy c' _ sK)
 rintro x Ms LU ⟨hx,c2,qC,fz,pg⟩
 exact ⟨hx,c2,qC,fz,hs.grow.trans pg⟩
theorem LI {i j q:Nat} {want:Bool} {op:Op} {ty:TypeId} {pos:String} {af:Array Edge} (hj:(ops[j]?).bind (·.dst)=some q) (hg:e q=.bool want) (h:cd P pr ⟨some i,op,ty,pos,af,some (j,want)⟩ (cZ e) m lv m') (hr:cS P N pr ops l KE (e.put i lv) m'):cS P N pr ops (⟨some i,op,ty,pos,af,some (j,want)⟩ :: l) KE e m:=by
 intro hd hl
 obtain ⟨e2,m2,hK,jy⟩:=hr hd (fun q hq=>hl q (by simp [hq]))
 refine ⟨e2,m2,hK,fun c a bQ=>?_⟩
 simp only [wpList]
 rw [ny bQ hd rfl hj hg,if_pos (by simp)]
 left
 refine Oper.wp_mono ?_ (h c a _ bQ.ev bQ.mem)
 rintro a' w' ⟨v,c',rfl,rfl,hv,gW,hs⟩
 have sK:lS N c' (e.put i lv) m' (a.put (some i) v):=bQ.put (d:=some i) hs gW (hd ⟨some i,op,ty,pos,af,some (j,want)⟩ (hl _ (by simp))) hv
 refine ga _ _ _ _ _ ?_ (jy c' _ sK)
 rintro x Ms LU ⟨hx,c2,qC,fz,pg⟩
 exact ⟨hx,c2,qC,fz,hs.grow.trans pg⟩
def iz:LV→Option Value
 | .agg cs=>(ef cs).map fun vs=>.agg vs.toArray
 | x=>jV x
theorem sm {c:Cx} {x:LV} {u v:Value} (h:jV x=some u) (hr:au c x v):v=u:=by
 cases x <;> simp [jV] at h <;> subst h <;> simpa [au] using hr
theorem qu {c:Cx}:∀ {xs:List LV} {us vs:List Value},ef xs=some us→aC c xs vs→vs=us
 | [],us,vs,h,hr=>by simp [ef] at h; subst h; simpa [aC] using hr
 | x :: xs,us,vs,h,hr=>by
  simp only [ef] at h
  split at h
  ·rename_i v0 vs0 h1 h2
   cases h
   simp only [aC] at hr
   obtain ⟨v,fH,rfl,h3,h4⟩:=hr
   rw [sm h1 h3,qu h2 h4]
  ·cases h
theorem og {c:Cx} {x:LV} {u v:Value} (h:iz x=some u) (hr:au c x v):v=u:=by
 cases x
 case agg cs =>
  simp only [iz,Option.map_eq_some_iff] at h
  obtain ⟨vs,h1,rfl⟩:=h
  simp only [au] at hr
  obtain ⟨us,rfl,h2⟩:=hr
  rw [qu h1 h2]
 all_goals (simp only [iz] at h; exact sm h hr)
theorem sk {x y:LV} {u:Value} (h:jV x=some u) (h':jV y=some u):x=y:=by
 cases x <;> simp [jV] at h <;> subst h <;> cases y <;> simp [jV] at h' <;> simp [h']
theorem sn:∀ {xs ys:List LV} {us:List Value},ef xs=some us→ef ys=some us→xs=ys
 | [],ys,us,h,h'=>by
  simp [ef] at h; subst h
  cases ys with
  | nil=>rfl
  | cons y ys=>simp only [ef] at h'; split at h' <;> cases h'
 | x :: xs,ys,us,h,h'=>by
  simp only [ef] at h
  split at h
  ·rename_i v0 vs0 h1 h2
   cases h
   cases ys with
   | nil=>simp [ef] at h'
   | cons y ys =>
    simp only [ef] at h'
    split at h'
    ·rename_i v1 vs1 h3 h4
     cases h'
     rw [sk h1 h3,sn h2 h4]
    ·cases h'
  ·cases h
theorem so {x y:LV} {u:Value} (h:iz x=some u) (h':iz y=some u):x=y:=by
 have a1:∀ cs v,(ef cs).map (fun vs:List Value=>Value.agg vs.toArray)=some v→∃ us,ef cs=some us∧v=.agg us.toArray:=fun cs v hv=>by
  simp only [Option.map_eq_some_iff] at hv
  obtain ⟨us,h1,h2⟩:=hv; exact ⟨us,h1,h2.symm⟩
 cases x
 case agg cs =>
  obtain ⟨us,h1,rfl⟩:=a1 cs u h
  cases y
  case agg ds =>
   obtain ⟨QP,h2,h3⟩:=a1 ds _ h'
   have:us=QP:=by simpa using h3
   subst this
   rw [sn h1 h2]
  all_goals simp [iz,jV] at h'
 all_goals
  cases y
  case agg ds =>
   obtain ⟨QP,h2,h3⟩:=a1 ds _ h'
   subst h3
   simp [iz,jV] at h
  all_goals (simp only [iz] at h h'; exact sk h h')
structure Iw (P:Program) (k:TypeId) (S:Value→Prop):Prop where
 check:∀ (w:World) (em:Bool) (v:Value),S v→(Instr.checkKey em 10000 k v).run P w=.ok () w
 find:∀ (w:World) (x:Value),S x→∀ es:List MapEntry,(∀ e ∈ es,S e.key)→((Instr.findKey k x es).run P w=.ok .none w∧∀ e ∈ es,e.key ≠ x) ∨ ∃ j e,(Instr.findKey k x es).run P w=.ok (some (j,e.val)) w∧es[j]?=some e∧e.key=x
 stays:∀ (w:World) (v:Value),S v→(Instr.keyThatStays v v).run P w=.ok v w
def y1 (P:Program) (t:TypeId):Option (Nat × Nat):=match P.underlying t with | some (.map k v)=>some (k,v) | _=>.none
theorem lD {t k v:Nat} (h:y1 P t=some (k,v)):P.underlying t=some (.map k v):=by
 unfold y1 at h; split at h <;> simp_all
def gG {α β:Type} [DecidableEq α]:List (α × β)→α→Option β
 | [],_=>.none
 | (a,b) :: r,k=>if a=k then some b else gG r k
def dS {α β:Type} [DecidableEq α]:List (α × β)→α→β→List (α × β)
 | [],k,v=>[(k,v)]
 | (a,b) :: r,k,v=>if a=k then (k,v) :: r else (a,b) :: dS r k v
variable {α β:Type} [DecidableEq α] {f:α→LV} {g:β→LV}
abbrev dR (f:α→LV) (g:β→LV) (xs:List (α × β)):List (LV × LV):=xs.map fun p=>(f p.1,g p.2)
def wJ (f:α→LV) (S:Value→Prop):Prop:=(∀ x,∃ v,iz (f x)=some v∧S v∧(f x).pure=true)∧∀ x y,f x=f y→x=y
theorem CR {xs:List (α × β)} {k:α} (h:∀ p ∈ xs,p.1 ≠ k):gG xs k=.none:=by
 induction xs with
 | nil=>rfl
 | cons p r ih =>
  obtain ⟨a,b⟩:=p
  simp only [gG]
  rw [if_neg (h (a,b) (by simp)),ih fun q hq=>h q (by simp [hq])]
theorem HR {xs:List (α × β)} {k:α} {b:β} {j:Nat} (hn:(xs.map (·.1)).Nodup) (h:xs[j]?=some (k,b)):gG xs k=some b:=by
 induction xs generalizing j with
 | nil=>simp at h
 | cons p r ih =>
  obtain ⟨a,b'⟩:=p
  simp only [List.map_cons,List.nodup_cons] at hn
  simp only [gG]
  cases j with
  | zero=>simp at h; rw [if_pos h.1,h.2]
  | succ j =>
   simp at h
   have:a ≠ k:=fun he=>hn.1 (by subst he; exact List.mem_map.2 ⟨_,List.mem_of_getElem? h,rfl⟩)
   rw [if_neg this]; exact ih hn.2 h
theorem CS {xs:List (α × β)} {k:α} {v:β} (h:∀ p ∈ xs,p.1 ≠ k):dS xs k v=xs++[(k,v)]:=by
 induction xs with
 | nil=>rfl
 | cons p r ih =>
  obtain ⟨a,b⟩:=p
  simp only [dS]
  rw [if_neg (h (a,b) (by simp)),ih fun q hq=>h q (by simp [hq])]; rfl
theorem FD {xs:List (α × β)} {k:α} {b v:β} {j:Nat} (hn:(xs.map (·.1)).Nodup) (h:xs[j]?=some (k,b)):dS xs k v=xs.set j (k,v):=by
 induction xs generalizing j with
 | nil=>simp at h
 | cons p r ih =>
  obtain ⟨a,b'⟩:=p
  simp only [List.map_cons,List.nodup_cons] at hn
  simp only [dS]
  cases j with
  | zero=>simp at h; rw [if_pos h.1]; rfl
  | succ j =>
   simp at h
   have:a ≠ k:=fun he=>hn.1 (by subst he; exact List.mem_map.2 ⟨_,List.mem_of_getElem? h,rfl⟩)
   rw [if_neg this,ih hn.2 h]; rfl
omit [DecidableEq α] in
theorem BH {c:Cx} {id kt vt:Nat} {S:Value→Prop} {xs:List (α × β)} {v:Value} (hm:bU c m) (bC:m id=some (.map kt vt (dR f g xs))) (hv:au c (.mp id) v) (hf:wJ f S) :
  ∃ b jn ck,c.B id=some (.mp b)∧v=.map (some b)∧c.w.heap[b]?=some (.map jn ck)∧jn.toList.length=xs.length∧(∀ (j:Nat) (x:α) (y:β),xs[j]?=some (x,y)→∃ (en:MapEntry) (u:Value),jn.toList[j]?=some en∧iz (f x)=some en.key∧S en.key∧u=en.val∧au c (g y) u)∧(xs.map (·.1)).Nodup∧LV.bj (xs.map fun p=>g p.2)=true:=by
 have he:=hm.gr id
 rw [bC] at he
 simp only [br] at he
 obtain ⟨b,jn,ck,h1,h2,h3,h4,h5,h6,h7,_⟩:=he
 simp only [au] at hv
 obtain ⟨b',hT,rfl⟩:=hv
 rw [h1] at hT; cases hT
 have l3:=h3.length
 simp only [dR,List.map_map,List.length_map] at l3
 refine ⟨b,jn,ck,h1,rfl,h2,l3.symm,fun j x y hj=>?_,?_,?_⟩
 ·have hk:((dR f g xs).map (·.1))[j]?=some (f x):=by simp [dR,hj]
  have KZ:((dR f g xs).map (·.2))[j]?=some (g y):=by simp [dR,hj]
  obtain ⟨k1,T1,Vm⟩:=h3.get hk
  obtain ⟨u,IU,KP⟩:=h4.get KZ
  simp only [List.getElem?_map,Option.map_eq_some_iff] at T1 IU
  obtain ⟨en,TV,rfl⟩:=T1
  obtain ⟨Qp,TW,rfl⟩:=IU
  rw [TV] at TW; cases TW
  obtain ⟨kv,e1,e2,_⟩:=hf.1 x
  have:=og e1 Vm
  exact ⟨en,en.val,TV,by rw [e1,this],by rw [this]; exact e2,rfl,KP⟩
 ·simp only [dR,List.map_map] at h7
  rw [List.nodup_iff_pairwise_ne] at h7 ⊢
  rw [List.pairwise_map] at h7 ⊢
  exact h7.imp fun {p q} h he=>h (congrArg f he)
 ·simp only [dR,List.map_map] at h6; exact h6
omit [DecidableEq α] in
theorem xw {c:Cx} {S:Value→Prop} {xs:List (α × β)} {jn:List MapEntry} (hl:jn.length=xs.length) (h:∀ (j:Nat) (x:α) (y:β),xs[j]?=some (x,y)→∃ (en:MapEntry) (u:Value),jn[j]?=some en∧iz (f x)=some en.key∧S en.key∧u=en.val∧au c (g y) u):(∀ en ∈ jn,S en.key)∧∀ (j:Nat) en,jn[j]?=some en→∃ x y,xs[j]?=some (x,y)∧iz (f x)=some en.key∧au c (g y) en.val:=by
 have key:∀ (j:Nat) en,jn[j]?=some en→∃ x y,xs[j]?=some (x,y)∧iz (f x)=some en.key∧S en.key∧au c (g y) en.val:=fun j en hj=>by
  have dN:j<xs.length:=by rw [← hl]; exact (List.getElem?_eq_some_iff.1 hj).1
  obtain ⟨Qp,u,h1,h2,h3,rfl,h5⟩:=h j xs[j].1 xs[j].2 (by simp [dN])
  rw [hj] at h1; cases h1
  exact ⟨xs[j].1,xs[j].2,by simp [dN],h2,h3,h5⟩
 refine ⟨fun en U9=>?_,fun j en hj=>?_⟩
 ·obtain ⟨j,hj⟩:=List.mem_iff_getElem?.1 U9
  obtain ⟨_,_,_,_,h3,_⟩:=key j en hj; exact h3
 ·obtain ⟨x,y,h1,h2,_,h4⟩:=key j en hj; exact ⟨x,y,h1,h2,h4⟩
theorem G4 {vt:TypeId} {z:LV} (h:tzero P vt=some z) (w:World):∃ zv,(zeroValue vt).run P w=.ok zv w∧∀ c,au c z zv:=by
 unfold tzero at h
 split at h
 ·rename_i i hi
  split at h
  ·rename_i zv hz
   split at h
   ·cases h
    exact ⟨zv,by simp [zeroValue,typeInfo,Sem.run,hi,hz],fun c=>pK c zv⟩
   ·cases h
  ·cases h
 ·cases h
theorem look {c:Cx} {id kt vt:Nat} {t:TypeId} {S:Value→Prop} {xs:List (α × β)} {key:α} {z:β} {v kv:Value} (ht:y1 P t=some (kt,vt)) (K:Iw P kt S) (hf:wJ f S) (hm:bU c m) (bC:m id=some (.map kt vt (dR f g xs))) (hv:au c (.mp id) v) (hk:au c (f key) kv) (hz:tzero P vt=some (g z)) (ok:Bool) :
  ∃ u,(Instr.lookup t v kv ok).run P c.w=.ok (if ok then .tuple #[u,.bool (gG xs key).isSome] else u) c.w∧au c (g ((gG xs key).getD z)) u:=by
 obtain ⟨b,jn,ck,hB,rfl,hh,hlen,q9,hnd,_⟩:=BH hm bC hv hf
 obtain ⟨hS,EC⟩:=xw hlen q9
 obtain ⟨k0,e1,e2,_⟩:=hf.1 key
 obtain rfl:k0=kv:=(og e1 hk).symm
 rcases K.find c.w k0 e2 jn.toList hS with ⟨h1,h2⟩ | ⟨j,en,h1,h2,h3⟩
 ·have km:gG xs key=.none:=CR fun p hp he=>by
   obtain ⟨j,hj⟩:=List.mem_iff_getElem?.1 hp
   obtain ⟨en,u,h4,h5,_⟩:=q9 j p.1 p.2 hj
   rw [he,e1] at h5
   exact h2 en (List.mem_of_getElem? h4) (Option.some.inj h5).symm
  obtain ⟨zv,DT,K5⟩:=G4 hz c.w
  refine ⟨zv,?_,by rw [km]; exact K5 c⟩
  simp [Instr.lookup,run_underlying (lD ht),MapKept.run_getObj_map hh,K.check c.w _ _ e2,h1,DT,Result.andThen,km]
 ·obtain ⟨x,y,h4,h5,h6⟩:=EC j en h2
  have hx:x=key:=hf.2 x key (so h5 (by rw [h3]; exact e1))
  subst hx
  have IT:gG xs x=some y:=HR hnd h4
  refine ⟨en.val,?_,by rw [IT]; exact h6⟩
  simp [Instr.lookup,run_underlying (lD ht),MapKept.run_getObj_map hh,K.check c.w _ _ e2,h1,Result.andThen,IT]
theorem s9 {id kt vt:Nat} {t:TypeId} {d:Option Nat} {x k:Operand} {ty:TypeId} {pos:String} {af:Array Edge} {gd:Option (Nat × Bool)} {S:Value→Prop} {xs:List (α × β)} {key:α} {z:β} (ht:y1 P t=some (kt,vt)) (K:Iw P kt S) (hf:wJ f S) (hx:ev x=.mp id) (bC:m id=some (.map kt vt (dR f g xs))) (hk:ev k=f key) (hz:tzero P vt=some (g z)) :
  bm P pr ⟨d,.lookup t x k true,ty,pos,af,gd⟩ ev m (.de [g ((gG xs key).getD z),.bool (gG xs key).isSome]) m :=
 bm.value fun c a bw hm=>by
  have h1:=bw x (by simp [Op.operands])
  have h2:=bw k (by simp [Op.operands])
  rw [hx] at h1; rw [hk] at h2
  obtain ⟨u,hr,hu⟩:=look ht K hf hm bC h1 h2 hz true
  refine ⟨_,c,by simp [execOp,hr,Result.andThen]; rfl,?_,hm,Step.refl pr c⟩
  simp only [au,aC]
  exact ⟨[u,.bool (gG xs key).isSome],rfl,u,_,rfl,hu,_,_,rfl,rfl,rfl⟩
theorem HS {xs:List (α × β)} {k:α} {v:β}:(dS xs k v).map (·.1)=if k ∈ xs.map (·.1) then xs.map (·.1) else xs.map (·.1)++[k]:=by
 induction xs with
 | nil=>simp [dS]
 | cons p r ih =>
  obtain ⟨a,b⟩:=p
  simp only [dS]
  by_cases h:a=k
  ·simp [h]
  ·simp only [h,if_false,List.map_cons,ih,List.mem_cons]
   have:¬ k=a:=fun h'=>h h'.symm
   simp only [this,false_or]
   split <;> simp
theorem iI {id kt vt:Nat} {t:TypeId} {x k y:Operand} {ty:TypeId} {pos:String} {af:Array Edge} {gd:Option (Nat × Bool)} {S:Value→Prop} {xs:List (α × β)} {key:α} {val:β} {op:Op} (DN:op=.mapUpdate t x k y ∨ op=.insert t x k y) (ht:y1 P t=some (kt,vt)) (K:Iw P kt S) (hf:wJ f S) (hg:∀ y,(g y).pure=true) (hx:ev x=.mp id) (bC:m id=some (.map kt vt (dR f g xs))) (hk:ev k=f key) (hy:ev y=g val) :
  bm P pr ⟨.none,op,ty,pos,af,gd⟩ ev m .eB (m.put id (.map kt vt (dR f g (dS xs key val)))) :=
 bm.skip rfl fun c a bw hm=>by
  have Ku:op.operands=#[x,k,y]:=by rcases DN with rfl | rfl <;> rfl
  have h1:=bw x (by simp [Ku])
  have h2:=bw k (by simp [Ku])
  have h3:=bw y (by simp [Ku])
  rw [hx] at h1; rw [hk] at h2; rw [hy] at h3
  obtain ⟨b,jn,ck,hB,pw,hh,hlen,q9,hnd,Wt⟩:=BH hm bC h1 hf
  obtain ⟨hS,EC⟩:=xw hlen q9
  obtain ⟨k0,e1,e2,_⟩:=hf.1 key
  have IL:=og e1 h2
  have hb:b<c.w.heap.size:=(Array.getElem?_eq_some_iff.1 hh).1
  -- a new table of entries
  have fin : ∀ G7 Iz, (∀ w' : World, w' = { c.w with heap := c.w.heap.setIfInBounds b (.map G7 Iz) } → (Instr.mapUpdate t (.map (some b)) k0 (a.eval y)).run P c.w = .ok () w') →
    (∀ c':Cx,c.Le c'→(∀ i,jk (c.B i) (c'.B i))→aC c' ((dR f g (dS xs key val)).map (·.1)) (G7.toList.map (·.key))∧aC c' ((dR f g (dS xs key val)).map (·.2)) (G7.toList.map (·.val)))→zy G7 Iz →
    ∃ c',(execOp a.eval ⟨.none,op,ty,pos,af,gd⟩).run P c.w=.ok .skip c'.w∧bU c' (m.put id (.map kt vt (dR f g (dS xs key val))))∧Step pr c c':=by
   intro G7 Iz dD bQ DI
   obtain ⟨c',hw,hT,h4,h5⟩:=hm.A9 (pr:=pr) id (.map kt vt (dR f g (dS xs key val))) (.mp b) { c.w with heap:=c.w.heap.setIfInBounds b (.map G7 Iz) } rfl rfl rfl (Nat.le_refl _) (by simp)
    (fun q hq ep=>by simp only; rw [Array.getElem?_setIfInBounds_ne]; intro he; subst he; exact ep _ hB rfl)
    (fun q hq=>.inl ⟨_,hB,hq⟩) (by rw [hB]; exact jk.refl _) (fun _ di h0=>by rw [hB] at h0; cases h0; exact .refl _)
    (fun c' hw hle dw=>by
     simp only [br]
     obtain ⟨r1,r2⟩:=bQ c' hle dw
     refine ⟨b,G7,Iz,rfl,by rw [hw]; simp [hb],r1,r2,?_,?_,?_,DI⟩
     ·refine cH.2 fun q hq=>?_
      simp only [dR,List.map_map,List.mem_map] at hq
      obtain ⟨p,_,rfl⟩:=hq
      obtain ⟨_,_,_,h⟩:=hf.1 p.1; exact h
     ·refine cH.2 fun q hq=>?_
      simp only [dR,List.map_map,List.mem_map] at hq
      obtain ⟨p,_,rfl⟩:=hq
      exact hg p.2
     ·have:(dR f g (dS xs key val)).map (·.1)=((dS xs key val).map (·.1)).map f:=by simp [dR]
      rw [this,HS]
      rw [List.nodup_iff_pairwise_ne,List.pairwise_map,← List.nodup_iff_pairwise_ne.trans ⟨fun h=>h.imp fun {p q} h' he=>h' (hf.2 p q he),fun h=>h.imp fun {p q} h' he=>h' (congrArg f he)⟩]
      split
      ·exact hnd
      ·rename_i T7
       rw [List.nodup_append]
       refine ⟨hnd,by simp,fun p hp q hq=>?_⟩
       simp at hq; subst hq; exact fun he=>T7 (he ▸ hp))
   refine ⟨c',?_,h4,h5⟩
   rw [hw]
   rcases DN with rfl | rfl <;> simp [execOp,pw,IL,dD _ rfl,Result.andThen]
  have DI:zy jn ck:=by
   have he:=hm.gr id
   rw [bC] at he
   simp only [br] at he
   obtain ⟨b2,G7,Iz,g1,g2,g3,g4,g5,g6,g7,g8⟩:=he
   rw [hB] at g1; cases g1
   rw [hh] at g2; cases g2
   exact g8
  have HQ:∀ l:List (α × β),(dR f g l).map (·.1)=l.map fun p=>f p.1:=fun l=>by simp [dR]
  have LS:∀ l:List (α × β),(dR f g l).map (·.2)=l.map fun p=>g p.2:=fun l=>by simp [dR]
  rcases K.find c.w k0 e2 jn.toList hS with ⟨q1,q2⟩ | ⟨j,en,q1,q2,q3⟩
  ·have Ky:dS xs key val=xs++[(key,val)]:=CS fun p hp he=>by
    obtain ⟨j,hj⟩:=List.mem_iff_getElem?.1 hp
    obtain ⟨en,u,h4,h5,_⟩:=q9 j p.1 p.2 hj
    rw [he,e1] at h5
    exact q2 en (List.mem_of_getElem? h4) (Option.some.inj h5).symm
   refine fin (jn.push ⟨k0,a.eval y,ck⟩) (ck+1) (fun w' He=>?_) (fun c' hle dw=>?_) ⟨?_,?_⟩
   rotate_left 2
   ·rw [Array.toList_push,List.map_append,List.nodup_append]
    refine ⟨DI.1,by simp,fun p hp q hq=>?_⟩
    simp only [List.map_cons,List.map_nil,List.mem_singleton] at hq
    subst hq
    obtain ⟨x,hx,rfl⟩:=List.mem_map.1 hp
    exact Nat.ne_of_lt (DI.2 x hx)
   ·intro x hx
    rw [Array.toList_push,List.mem_append] at hx
    rcases hx with hx | hx
    ·exact Nat.lt_succ_of_lt (DI.2 x hx)
    ·simp only [List.mem_singleton] at hx; subst hx; exact Nat.lt_succ_self _
   ·subst He
    simp [Instr.mapUpdate,run_underlying (lD ht),MapKept.run_getObj_map hh,K.check c.w _ _ e2,q1,MapKept.run_setObj_map _ hh,Result.andThen]
   ·rw [Ky,HQ,LS]
    simp only [List.map_append,List.map_cons,List.map_nil,Array.toList_push]
    have he:=hm.gr id
    rw [bC] at he
    simp only [br] at he
    obtain ⟨b2,G7,Iz,g1,g2,g3,g4,g5,g6,g7⟩:=he
    rw [hB] at g1; cases g1
    rw [hh] at g2; cases g2
    rw [HQ] at g3 g5; rw [LS] at g4 g6
    refine ⟨aC.append (aC.mono hle _ _ (fun q hq=>by rw [ay _ g5] at hq; cases hq) g3) ?_,aC.append (aC.mono hle _ _ (fun q hq=>by rw [ay _ g6] at hq; cases hq) g4) ?_⟩
    ·simp only [aC]
     refine ⟨_,_,rfl,au.mono hle _ _ (fun q _=>dw q) (by rw [← IL]; exact h2),rfl⟩
    ·simp only [aC]
     exact ⟨_,_,rfl,au.mono hle _ _ (fun q _=>dw q) h3,rfl⟩
  ·obtain ⟨x0,y0,h4,h5,h6⟩:=EC j en q2
   have IY:x0=key:=hf.2 x0 key (so h5 (by rw [q3]; exact e1))
   subst IY
   have Ky:dS xs x0 val=xs.set j (x0,val):=FD hnd h4
   have iu:j<xs.length:=(List.getElem?_eq_some_iff.1 h4).1
   have EO:jn[j]?=some en:=by simpa using q2
   have Qw:∀ (l:List MapEntry),(l.modify j fun e'=>{ e' with key:=k0,val:=a.eval y }).map (·.born)=l.map (·.born):=fun l=>by
    apply List.ext_getElem?
    intro i
    simp only [List.getElem?_map,List.getElem?_modify]
    cases l[i]? with
    | none=>simp
    | some z=>by_cases rA:j=i <;> simp [rA]
   refine fin (jn.modify j fun e'=>{ e' with key:=k0,val:=a.eval y }) ck (fun w' He=>?_) (fun c' hle dw=>?_) ⟨by rw [Array.toList_modify,Qw]; exact DI.1,fun x hx=>?_⟩
   rotate_left 2
   ·rw [Array.toList_modify] at hx
    have:x.born ∈ jn.toList.map (·.born):=by rw [← Qw]; exact List.mem_map.2 ⟨x,hx,rfl⟩
    obtain ⟨z,hz,he⟩:=List.mem_map.1 this
    rw [← he]; exact DI.2 z hz
   ·subst He
    simp [Instr.mapUpdate,run_underlying (lD ht),MapKept.run_getObj_map hh,K.check c.w _ _ e2,q1,EO,q3,K.stays c.w _ e2,MapKept.run_setObj_map _ hh,Result.andThen]
   ·rw [Ky,HQ,LS]
    have T6:(jn.modify j fun e'=>{ e' with key:=k0,val:=a.eval y }).toList.length=jn.toList.length:=by simp
    constructor
    ·refine aC.of (by simp; simpa using hlen.symm) fun i lx v IN hv=>?_
     simp only [List.getElem?_map,List.getElem?_set,Array.toList_modify,List.getElem?_modify,Option.map_eq_some_iff] at IN
     obtain ⟨p,hp,rfl⟩:=IN
     obtain ⟨Ch,Qy,rfl⟩:∃ Ch,jn.toList[i]?=some Ch∧(if j=i then { Ch with key:=k0,val:=a.eval y } else Ch:MapEntry).key=v:=by
      simp only [List.getElem?_map,Array.toList_modify,List.getElem?_modify] at hv
      cases hq:jn.toList[i]? with
      | none=>rw [hq] at hv; simp at hv
      | some Ch=>rw [hq] at hv; simp at hv; exact ⟨Ch,rfl,hv⟩
     by_cases rA:j=i
     ·subst rA
      rw [if_pos rfl,if_pos iu] at hp; cases hp
      simp only [if_true]
      exact au.mono hle _ _ (fun q _=>dw q) (by rw [← IL]; exact h2)
     ·rw [if_neg rA] at hp
      simp only [rA,if_false]
      obtain ⟨UK,u,r1,r2,r3,r4,r5⟩:=q9 i p.1 p.2 hp
      rw [Qy] at r1; cases r1
      have he:=hm.gr id
      rw [bC] at he
      simp only [br] at he
      obtain ⟨b2,G7,Iz,g1,g2,g3,g4,g5,g6,g7⟩:=he
      rw [hB] at g1; cases g1
      rw [hh] at g2; cases g2
      rw [HQ] at g3
      obtain ⟨v2,s1,s2⟩:=g3.get (i:=i) (x:=f p.1) (by simp [hp])
      simp only [List.getElem?_map,Qy,Option.map_some,Option.some.injEq] at s1
      subst s1
      exact au.mono hle _ _ (fun q _=>dw q) s2
    ·refine aC.of (by simp; simpa using hlen.symm) fun i lx v IN hv=>?_
     simp only [List.getElem?_map,List.getElem?_set,Array.toList_modify,List.getElem?_modify,Option.map_eq_some_iff] at IN
     obtain ⟨p,hp,rfl⟩:=IN
     obtain ⟨Ch,Qy,rfl⟩:∃ Ch,jn.toList[i]?=some Ch∧(if j=i then { Ch with key:=k0,val:=a.eval y } else Ch:MapEntry).val=v:=by
      simp only [List.getElem?_map,Array.toList_modify,List.getElem?_modify] at hv
      cases hq:jn.toList[i]? with
      | none=>rw [hq] at hv; simp at hv
      | some Ch=>rw [hq] at hv; simp at hv; exact ⟨Ch,rfl,hv⟩
     by_cases rA:j=i
     ·subst rA
      rw [if_pos rfl,if_pos iu] at hp; cases hp
      simp only [if_true]
      exact au.mono hle _ _ (fun q _=>dw q) h3
     ·rw [if_neg rA] at hp
      simp only [rA,if_false]
      obtain ⟨UK,u,r1,r2,r3,rfl,r5⟩:=q9 i p.1 p.2 hp
      rw [Qy] at r1; cases r1
      exact au.mono hle _ _ (fun q _=>dw q) r5
theorem ta {i id kt vt:Nat} {t:TypeId} {ty:TypeId} {pos:String} {af:Array Edge} {gd:Option (Nat × Bool)} (bC:m id=.none):bm P pr ⟨some i,.makeMap t .none,ty,pos,af,gd⟩ ev m (.mp id) (m.put id (.map kt vt [])) :=
 bm.value fun c a bw hm=>by
  have hB:=hm.fresh bC
  obtain ⟨c',hw,hb,h2,h3⟩:=hm.A9 (pr:=pr) id (.map kt vt []) (.mp c.w.heap.size) (c.w.alloc (.map #[] 0)) rfl rfl rfl (Nat.le_refl _) (by simp)
   (fun b hb _=>pn c.w _ b hb) (fun b hb=>by simp [BE.has] at hb; subst hb; exact .inr (Nat.le_refl _)) (by rw [hB]; trivial) (fun _ di h0=>by rw [hB] at h0; cases h0)
   (fun c' hw hle dw=>by
    simp only [br]
    exact ⟨c.w.heap.size,#[],0,rfl,by rw [hw]; show (c.w.heap.push _)[c.w.heap.size]?=_; simp,by simp [aC],by simp [aC],rfl,rfl,by simp,⟨by simp,by simp⟩⟩)
  refine ⟨.map (some c.w.heap.size),c',?_,?_,h2,h3⟩
  ·rw [hw]; rfl
  ·simp only [au]; exact ⟨_,hb,rfl⟩
end
theorem qw {kd:IntKind} {a:Int}:∀ (es:List MapEntry) (i:Nat),(∀ e ∈ es,∃ n,e.key=.int kd n)→(Instr.findNow (.int kd) (.int kd a) es i=some .none∧∀ e ∈ es,e.key ≠ .int kd a) ∨ ∃ j e,Instr.findNow (.int kd) (.int kd a) es i=some (some (i+j,e.val))∧es[j]?=some e∧e.key=.int kd a
 | [],i,_=>.inl ⟨rfl,by simp⟩
 | e :: es,i,h=>by
  obtain ⟨n,hn⟩:=h e (by simp)
  by_cases he:a=n
  ·subst he
   exact .inr ⟨0,e,by simp [Instr.findNow,hn,Instr.sameNow],rfl,hn⟩
  ·have hs:Instr.sameNow (.int kd) (.int kd a) e.key=some false:=by simp [hn,Instr.sameNow,he]
   rcases qw (a:=a) es (i+1) (fun e' z6=>h e' (by simp [z6])) with ⟨h1,h2⟩ | ⟨j,e',h1,h2,h3⟩
   ·refine .inl ⟨by simp [Instr.findNow,hs,h1],fun e' z6=>?_⟩
    rcases List.mem_cons.1 z6 with rfl | z6
    ·rw [hn]; intro h'; cases h'; exact he rfl
    ·exact h2 e' z6
   ·exact .inr ⟨j+1,e',by simp only [Instr.findNow,hs,h1,Option.some.injEq,Prod.mk.injEq,and_true]; omega,by simpa using h2,h3⟩
theorem Cf {P:Program} {k:TypeId} {kd:IntKind} (hk:P.underlying k=some (.int kd)) (w:World) (em:Bool) (a:Int) (n:Nat):(Instr.checkKey em (n+1) k (.int kd a)).run P w=.ok () w:=by
 simp only [Instr.checkKey]; simp [run_underlying hk]
theorem S4 {P:Program} {k:TypeId} {kd:IntKind} (hk:P.underlying k=some (.int kd)):Iw P k (fun v=>∃ n,v=.int kd n) where
 check:=fun w em v ⟨n,hn⟩=>by subst hn; exact Cf hk w em n 9999
 find:=fun w x ⟨a,ha⟩ es Cy=>by
  subst ha
  rcases qw (a:=a) es 0 Cy with ⟨h1,h2⟩ | ⟨j,e,h1,h2,h3⟩
  ·exact .inl ⟨by simp [Instr.findKey,run_underlying hk,h1],h2⟩
  ·exact .inr ⟨j,e,by simp [Instr.findKey,run_underlying hk,h1],h2,h3⟩
 stays:=fun w v ⟨n,hn⟩=>by subst hn; simp [Instr.keyThatStays,Instr.sameBits]
theorem V0 {kd:IntKind}:wJ (LV.int kd) (fun v=>∃ n,v=.int kd n):=⟨fun x=>⟨.int kd x,rfl,⟨x,rfl⟩,rfl⟩,fun x y h=>by cases h; rfl⟩
theorem Br {P:Program} {k:TypeId} {α:Type} [DecidableEq α] {enc:α→Value} (heq:∀ x y w,(Op.equal k (enc x) (enc y)).run P w=.ok (decide (x=y)) w) (w:World) (x:α):∀ (es:List MapEntry) (i:Nat),(∀ e ∈ es,∃ y,e.key=enc y)→((Instr.findAsking k (enc x) es i).run P w=.ok .none w∧∀ e ∈ es,e.key ≠ enc x) ∨ ∃ j e,(Instr.findAsking k (enc x) es i).run P w=.ok (some (i+j,e.val)) w∧es[j]?=some e∧e.key=enc x
 | [],i,_=>.inl ⟨by simp [Instr.findAsking],by simp⟩
 | e :: es,i,h=>by
  obtain ⟨y,hy⟩:=h e (by simp)
  by_cases he:x=y
  ·subst he
   exact .inr ⟨0,e,by simp [Instr.findAsking,hy,heq],rfl,hy⟩
  ·have ep:¬ e.key=enc x:=fun h'=>by
    have h1:=heq x y w
    rw [← hy,h',heq x x w] at h1
    simp [he] at h1
   rcases Br heq w x es (i+1) (fun e' z6=>h e' (by simp [z6])) with ⟨h1,h2⟩ | ⟨j,e',h1,h2,h3⟩
   ·refine .inl ⟨by simp [Instr.findAsking,hy,heq,he,h1],fun e' z6=>?_⟩
    rcases List.mem_cons.1 z6 with rfl | z6
    ·exact ep
    ·exact h2 e' z6
   ·exact .inr ⟨j+1,e',by simp [Instr.findAsking,hy,heq,he,h1]; omega,by simpa using h2,h3⟩
theorem S5 {P:Program} {k:TypeId} {ds:TypeDesc} {α:Type} [DecidableEq α] {enc:α→Value} (hk:P.underlying k=some ds) (km:∀ x y,Instr.sameNow ds (enc x) (enc y)=.none) (zh:∀ w em x,(Instr.checkKey em 10000 k (enc x)).run P w=.ok () w) (heq:∀ x y w,(Op.equal k (enc x) (enc y)).run P w=.ok (decide (x=y)) w) (ko:∀ x,Instr.sameBits 10000 (enc x) (enc x)=true):Iw P k (fun v=>∃ x,v=enc x) where
 check:=fun w em v ⟨x,hx⟩=>by subst hx; exact zh w em x
 find:=fun w v ⟨x,hx⟩ es Cy=>by
  subst hx
  cases es with
  | nil=>exact .inl ⟨by simp [Instr.findKey,run_underlying hk,Instr.findNow],by simp⟩
  | cons e es =>
   obtain ⟨y,hy⟩:=Cy e (by simp)
   have hn:Instr.findNow ds (enc x) (e :: es) 0=.none:=by simp [Instr.findNow,hy,km]
   have dD:(Instr.findKey k (enc x) (e :: es)).run P w=(Instr.findAsking k (enc x) (e :: es) 0).run P w:=by simp [Instr.findKey,run_underlying hk,hn]
   rcases Br heq w x (e :: es) 0 Cy with ⟨h1,h2⟩ | ⟨j,e',h1,h2,h3⟩
   ·exact .inl ⟨by rw [dD,h1],h2⟩
   ·exact .inr ⟨j,e',by rw [dD,h1]; simp,h2,h3⟩
 stays:=fun w v ⟨x,hx⟩=>by subst hx; simp [Instr.keyThatStays,ko]
theorem Rc {P:Program} {t:TypeId} {xs ys:List LV} {us vs:List Value} {b:Bool} (h:oZ P t xs ys b) (hx:ef xs=some us) (hy:ef ys=some vs) (w:World):(Op.equal t (.agg us.toArray) (.agg vs.toArray)).run P w=.ok b w:=by
 obtain ⟨_,QP,fH,h1,h2,h3⟩:=h
 rw [hx] at h1; rw [hy] at h2; cases h1; cases h2
 exact h3 w
end Go.L
namespace Go.L
section
variable {P:Program}
theorem iQ (w:World) (dT sT ty elem:TypeId) (k g o Hm Q7:Nat) (a:Addr) (lh tE:Nat) (cur:Array Value) (t:TypeId) (cs:List Value)
  (hu:P.underlying dT=some (.slice elem)) (hs:∀ w,(sizeOf elem).run P w=.ok k w)
  (hg:w.heap[g]?=some (.cells cur t (0,0))) (hn:cs.length=Nat.min lh Hm * k)
  (E7:∀ j v,cs[j]?=some v→w.cell? (a.add j)=some v) (xg:o+cs.length≤cur.size) (h1:∀ v ∈ cs,v.oneCell'=true) :
  (Builtin.copy_ #[dT,sT] ty #[.slice (some ⟨g,o,none⟩) Hm Q7,.slice (some a) lh tE]).run P w =
   .ok (goInt (Nat.min lh Hm)) (w.setRow g (cur.toList.take o++cs++cur.toList.drop (o+cs.length)).toArray):=by
 have hl:=run_firstCells_some (P:=P) w k (Nat.min lh Hm) a lh tE cs hn E7
 have ko:=run_storeCells_at P g o t cs 0 cur w hg (by simpa using xg) h1
 simp only [Nat.add_zero] at ko
 simp [Builtin.copy_,run_underlying hu,Builtin.lenOf,hs,hl,ko]
theorem l0 (w:World) (t tn ty e:TypeId) (i:TypeInfo) (z:Value) (kk kn:IntKind) (ht:P.underlying t=some (.slice e)) (Sp:P.underlying tn=some (.int kn)) (hi:P.info? e=some i) (hz:i.zero=some z)
  (b:Addr) (lh tE:Nat) (H0:List Value) (rB:H0.length=lh * i.size) (holds:∀ j v,H0[j]?=some v→w.cell? (b.add j)=some v)
  (n:Nat) (h0:0<n) (hs:0<i.size) (Ki:tE<lh+n) (MH:((lh+n:Nat):Int)≤9223372036854775807) (Wl:n * i.bytes≤281474976710656) (xg:Builtin.nextslicecap (lh+n) tE * i.bytes≤281474976710656) :
  (Builtin.append_ #[t,tn] ty #[.slice (some b) lh tE,.int kk n]).run P w =
   .ok (.slice (some ⟨w.heap.size,0,none⟩) (lh+n) (grownCap w (lh+n) tE e)) (w.drew.alloc (.cells (H0.toArray++Builtin.zeroCells z.cells n++Builtin.zeroCells z.cells (grownCap w (lh+n) tE e - (lh+n))) e)):=by
 have hn:¬ (lh+n≤tE):=by omega
 have hw:IntKind.i64.wrap (n:Int)=n:=by rw [IntKind.wrap_i64]; omega
 have Rj:¬ (9223372036854775807<((lh:Int)+(n:Int))):=by omega
 have Rh:¬ (281474976710656<Builtin.nextslicecap (lh+n) tE * i.bytes):=by omega
 have Ri:¬ (281474976710656<(n:Int) * (i.bytes:Int)):=by
  rw [← Int.natCast_mul]
  omega
 have Kr:¬ ((n:Int)<0):=by omega
 have Md:n ≠ 0:=by omega
 have Vv:¬ (n * i.size=0):=Nat.mul_ne_zero Md (by omega)
 have Vc:=run_firstCells_some (P:=P) w.drew i.size lh b lh tE H0 rB (by simpa using holds)
 simp [Builtin.append_,run_underlying ht,run_underlying Sp,sizeOf,typeInfo,zeroValue,hi,hz,asInt,asIntOf,hw,hn,Md,Kr,Vv,Rj,Rh,Ri,Question.forced,Vc,newRow,grownCap]
theorem mB {ops:Array Oper} {o:Oper} {a:Act} {w:World} {K:Act→World→Prop} {Q:Exit→Act→World→Prop} {E:Prop}
  (hg:o.guard=none) (d x:Operand) (dT sT:TypeId) (DN:o.op=Op.call { callee:=Callee.builtin Builtin.copy,args:=#[d,x],argTypes:=#[dT,sT] })
  (v u:Value) (hd:a.eval d=v) (hx:a.eval x=u) {v':Value} {w':World} (hr:(Builtin.copy_ #[dT,sT] o.type #[v,u]).run P w=.ok v' w') (hK:K (a.put o.dst v') w') :
  if Region.wanted o (yielded ops a.tmps)=true then Oper.wp P o a w K Q else E:=by
 have hw:Region.wanted o (yielded ops a.tmps)=true:=by simp [Region.wanted,hg]
 rw [if_pos hw]
 unfold Oper.wp
 simp [execOp,DN,resolve,invoke,builtin,hd,hx,hr,Result.andThen]
 exact hK
structure nM (w w':World) (e k:Nat) (u u':Value) (n':Nat) (tO:List Value):Prop where
 own:w'.ownsRow 0 e k u' n' tO
 grown:w.grownBy w' u.ownBlock
 mY:∀ b,u'.ownBlock=some b→u.ownBlock=some b ∨ w.heap.size≤b
 drawn:w.drawn≤w'.drawn
theorem pW {t t' ty Wg:TypeId} {vs:Array Value}:Builtin.append_ #[t,t'] ty vs=Builtin.append_ #[t,t'] Wg vs:=rfl
end
end Go.L
namespace Go.L
section
variable {P:Program} {N:Nat} {pr:Nat→Prop} {ops:Array Oper} {e:Env} {m m':Mem} {ev:Operand→LV} {o:Oper} {lv:LV} {l:List Oper} {KE:Env→Mem→Prop}
def Env.drop (e:Env) (id:Nat):Env:=fun i=>if (e i).a7 id=true then e i else .eB
theorem uC {k:Nat}:∀ {vs:List Value} (h:∀ v ∈ vs,v.cells.size=k) (i:Nat),(flat vs).take (i * k)=flat (vs.take i)
 | [],_,i=>by simp [flat]
 | v :: vs,h,0=>by simp [flat]
 | v :: vs,h,i+1=>by
  have hv:=h v (by simp)
  rw [gh,List.take_succ_cons,gh,List.take_append,Nat.succ_mul]
  have e1:(i * k+k) - v.cells.toList.length=i * k:=by simp [hv]
  rw [e1,uC (fun u hu=>h u (by simp [hu])) i,List.take_of_length_le (by simp [hv])]
theorem uB {k:Nat}:∀ {vs:List Value} (h:∀ v ∈ vs,v.cells.size=k) (i:Nat),(flat vs).drop (i * k)=flat (vs.drop i)
 | [],_,i=>by simp [flat]
 | v :: vs,h,0=>by simp [flat]
 | v :: vs,h,i+1=>by
  have hv:=h v (by simp)
  rw [gh,List.drop_succ_cons,List.drop_append,Nat.succ_mul]
  have e1:(i * k+k) - v.cells.toList.length=i * k:=by simp [hv]
  rw [e1,uB (fun u hu=>h u (by simp [hu])) i,List.drop_of_length_le (by simp [hv])]
  rfl
theorem ss {vs:List Value} (h:∀ v ∈ vs,∀ y ∈ v.cells,y.oneCell'=true):∀ y ∈ flat vs,y.oneCell'=true:=by
 intro y hy
 simp only [flat,List.mem_flatMap] at hy
 obtain ⟨v,hv,hy⟩:=hy
 exact h v hv y (by simpa using hy)
def Mr (P:Program) (f e k:Nat):Prop:=∀ (u:Value) (n i:Nat) (xs:List Value) (v:Value) (vs:List Value) (w:World),w.ownsRow 0 e k u n xs→(∀ y ∈ xs,y.oneCell'=true)→i≤n→n≤549755813887→w.ownsRow 0 e k v 1 vs→(∀ y ∈ vs,y.oneCell'=true)→(∀ b,v.ownBlock=some b→u.ownBlock ≠ some b) →
 Calls P f #[u,.int .i64 i,v] w fun en w'=>∃ u',en=.returned u'∧nM w w' e k u u' (n+1) (xs.take (i * k)++vs++xs.drop (i * k))
def zA (P:Program) (f e k:Nat):Prop:=∀ (a:Option Addr) (n cap:Nat) (news:List Value) (w:World),news.length=n * k→(a=none→n=0)→(∀ ad,a=some ad→∀ j u,news[j]?=some u→w.cell? (ad.add j)=some u)→(∀ u ∈ news,u.oneCell'=true)→n≤549755813888 →
 Calls P f #[.slice a n cap] w fun en w'=>∃ u',en=.returned u'∧nM w w' e k (.slice none 0 0) u' n news
def HO {α:Type} (xs:List α) (i:Int) (z:α):Option (List α):=if 0≤i∧i≤xs.length∧xs.length≤549755813887 then some (xs.take i.toNat++[z]++xs.drop i.toNat) else .none
theorem JP {f : Nat} {xs : Array Operand} {ts : Array TypeId} {d : Option Nat} {ty : TypeId} {pos : String} {af : Array Edge} {gd : Option (Nat × Bool)} (hf : ∃ fn, P.funcs[f]? = some fn ∧ (fn.name == "runtime.NumGoroutine") = false ∧ fn.body.isNone = false) (a : Act) (w : World) :
  (execOp a.eval ⟨d,.call ⟨.value (.func f),xs,ts⟩,ty,pos,af,gd⟩).run P w=.ok (.enter f (xs.map a.eval)) w:=by
 obtain ⟨fn,hf,EV,xb⟩:=hf
 have Ad : ¬ fn.name = "runtime.NumGoroutine" := by simpa using EV
 have zR:¬ fn.body=.none:=fun hn=>by rw [hn] at xb; cases xb
 simp [execOp,resolve,Deferred.ofValue,Act.eval,invoke,callFunc,hf,Ad,zR]
theorem Ax {d id kk len:Nat} {t el:TypeId} {ty:TypeId} {pos:String} {af:Array Edge} {gd:Option (Nat × Bool)} {α:Type} {g:α→LV} {ys:List α} {ps:List (Nat × Operand)} (he:telem P t=some el) (ow:gy P el=true) (hk:tsize P el=kk) (KO:Nat.ble (len * kk) 16777216=true) (M1:ps.map (·.1)=List.range len) (Mg:(ps.map fun p=>ev p.2)=ys.map g) (gv:pU kk g) (bC:m id=.none) :
  cd P pr ⟨some d,.buildSlice t len ps.toArray,ty,pos,af,gd⟩ ev m (.arr id ys.length) (m.put id (.arr el kk (ys.map g))):=by
 subst hk
 have Nq:=Nat.le_of_ble_eq_true KO
 have hu:=fG he
 obtain ⟨i,zv,hi,DU,zm,DT,eY,DJ,qB⟩:=qa ow
 obtain ⟨parts,Bx⟩:∃ parts:Array (Nat × Operand),parts=ps.toArray:=⟨_,rfl⟩
 have Ni:parts.toList=ps:=by rw [Bx]
 have EM:parts.toList.map (·.1)=List.range len:=by rw [Ni]; exact M1
 have EJ:qE (tsize P el) (parts.toList.map fun p=>ev p.2):=by rw [Ni,Mg]; exact gv.TF ys
 obtain ⟨o,T8⟩:∃ o:Oper,o=⟨some d,.buildSlice t len ps.toArray,ty,pos,af,gd⟩:=⟨_,rfl⟩
 have ho:o.op=.buildSlice t len parts:=by rw [T8,Bx]
 rw [← T8]
 refine cd.value fun c a bw hm=>?_
 have mv:parts.toList.length=len:=by have:=congrArg List.length EM; simpa using this
 let vs:=parts.toList.map fun p=>a.eval p.2
 have hl:aC c (parts.toList.map fun p=>ev p.2) vs:=aC.of (by simp [vs]) fun j x v hx hv=>by
  simp only [vs,List.getElem?_map,Option.map_eq_some_iff] at hx hv
  obtain ⟨p,hp,rfl⟩:=hx
  obtain ⟨p',Ag,rfl⟩:=hv
  rw [hp] at Ag; cases Ag; exact bw _
 have hcell:∀ v ∈ vs,v.cells.size=i.size∧∀ y ∈ v.cells,y.oneCell'=true:=by
  intro v hv
  simp only [vs,List.mem_map] at hv
  obtain ⟨p,hp,rfl⟩:=hv
  obtain ⟨_,e1,e2⟩:=EJ (ev p.2) (List.mem_map.2 ⟨p,hp,rfl⟩)
  obtain ⟨e3,e4⟩:=(bw p.2).cellsOf e2
  refine ⟨?_,e4⟩
  have:=e3.length
  rw [e1,qB] at this
  simpa using this.symm
 have E0:LV.bj (parts.toList.map fun p=>ev p.2)=true:=cH.2 fun x hx=>(EJ x hx).1
 have Ah:(parts.map fun (p:Nat × Operand)=>(p.1,a.eval p.2)).toList=(vs.zipIdx 0).map fun x=>(x.2,x.1):=by
  apply List.ext_getElem?
  intro j
  have hj:=congrArg (fun l=>l[j]?) EM
  simp only [List.getElem?_map,List.getElem?_range] at hj
  simp only [Array.toList_map,List.getElem?_map,List.getElem?_zipIdx,vs,Nat.zero_add]
  cases hp:parts.toList[j]? with
  | none=>simp
  | some p =>
   rw [hp] at hj
   have iu:j<len:=by
    rw [← mv]; exact (List.getElem?_eq_some_iff.1 hp).1
   rw [List.getElem?_range iu] at hj
   simp at hj
   simp [hj]
 obtain ⟨cells,xf,xh⟩:∃ cells,Instr.fill (fun i'=>some (i' * i.size,i.size)) ((Array.range (len * i.size)).map (zv.cells[· % zv.cells.size]!)) (parts.map fun (p:Nat × Operand)=>(p.1,a.eval p.2)).toList=some cells∧cells.toList=flat vs:=by
  have nh:vs.length=len:=by simp [vs,mv]
  obtain ⟨r,hr,Uc,No⟩:=Great.fill_dense eY vs 0 ((Array.range (len * i.size)).map (zv.cells[· % zv.cells.size]!)) (fun v hv=>(hcell v hv).1) (by simp [nh])
  refine ⟨r,by rw [Ah]; exact hr,?_⟩
  apply List.ext_getElem?
  intro j
  rw [flat_get eY (fun v hv=>(hcell v hv).1),Array.getElem?_toList,No j]
  simp only [Nat.zero_mul,Nat.zero_le,true_and,Nat.zero_add,Nat.sub_zero,nh]
  by_cases hj:j<len * i.size
  ·rw [if_pos hj]
  ·rw [if_neg hj]
   have h1:¬ j / i.size<len:=fun hh=>hj ((Nat.div_lt_iff_lt_mul eY).1 hh)
   rw [List.getElem?_eq_none (by omega:vs.length≤j / i.size)]
   simp; omega
 have om:cells=(flat vs).toArray:=by rw [← xh]
 subst om
 have dD:(execOp a.eval o).run P c.w=.ok (.value (.slice (some ⟨c.w.heap.size,0,.none⟩) len len)) (c.w.alloc (.cells (flat vs).toArray el)):=by
  by_cases IM:len=0
  ·subst IM
   have CH:parts=#[]:=by apply Array.ext'; simpa using mv
   subst CH
   simp [execOp,ho,Instr.buildSlice,run_underlying hu,sizeOf,typeInfo,hi,Instr.fill,newRow,vs,flat,Array.range_zero']
  ·have HH:¬ len * i.size=0:=by
    intro h0
    rcases Nat.mul_eq_zero.1 h0 with h0 | h0 <;> omega
   have hb:=run_buildSlice (P:=P) c.w t el len (parts.map fun (p:Nat × Operand)=>(p.1,a.eval p.2)) (flat vs).toArray i zv hu hi DU (by rw [qB] at Nq; omega) HH xf
   simp [execOp,ho,hb]
 have hlen:ys.length=len:=by rw [← mv,Ni]; have:=congrArg List.length Mg; simpa using this.symm
 have hB:=hm.fresh bC
 have iD:aC c (ys.map g) vs:=by rw [← Mg,← Ni]; exact hl
 have Bw:(flat vs).length=len * i.size:=by
  rw [dt (fun v hv=>(hcell v hv).1)]; congr 1; rw [← mv]; simp [vs]
 have bd:(c.w.alloc (.cells (flat vs).toArray el)).ownsRow 0 el i.size (.slice (some ⟨c.w.heap.size,0,.none⟩) len len) len (flat vs) :=
  ⟨Bw,.inr ⟨c.w.heap.size,len,(flat vs).toArray,rfl,Nat.zero_le _,heap_alloc_new c.w _,Nat.le_refl _,by
   have:len≤len * tsize P el:=Nat.le_mul_of_pos_right _ (by rw [qB]; exact eY)
   simp only [maxLen]; omega,by simp [Bw],by rw [← Bw]; simp⟩⟩
 obtain ⟨c',hw,hb,h2,h3⟩:=hm.A9 (pr:=pr) id (.arr el (tsize P el) (ys.map g)) (.arr (.slice (some ⟨c.w.heap.size,0,.none⟩) len len) (tsize P el) len []) (c.w.alloc (.cells (flat vs).toArray el)) rfl rfl rfl (Nat.le_refl _) (by simp)
  (fun b hb _=>pn c.w _ b hb) (fun b hb=>by simp [BE.has,Value.ownBlock] at hb; exact .inr (by omega)) (by rw [hB]; trivial) (fun _ di h0=>by rw [hB] at h0; cases h0)
  (fun c' hw hle dw=>by
   simp only [br]
   refine ⟨.slice (some ⟨c.w.heap.size,0,.none⟩) len len,vs,by simp [hlen],by rw [qB]; exact eY,?_,aC.mono hle _ _ (fun j _=>dw j) iD,fun u hu=>by rw [qB]; exact hcell u hu,by rw [← Mg,← Ni]; exact E0⟩
   rw [hw,qB]; simpa [hlen] using bd)
 refine ⟨_,c',by rw [hw]; exact dD,?_,h2,h3⟩
 simp only [au]
 exact ⟨rfl,_,_,_,_,hb,by omega,fun _=>rfl⟩
theorem wS {f e0 k:Nat} (W:zA P f e0 k) (hk:Nat.ble 1 k=true) {α:Type} {g:α→LV} {xs r:List α} (id:Nat) (h:app [] xs=some r):aP P f [.ak k (xs.map g)] (Mem.of []) (.arr id r.length) (Mem.of [(id,.arr e0 k (r.map g))]):=by
 unfold app at h
 split at h
 ·rename_i hb
  obtain rfl:xs=r:=by simpa using h
  intro c vs hm ha
  simp only [aC] at ha
  obtain ⟨v,fH,rfl,hv,rfl⟩:=ha
  simp only [au] at hv
  obtain ⟨a,cap,rfl,mu,xm,hp,hx⟩:=hv
  have nS:∃ us,(flat us).length=xs.length * k∧(a=none→xs.length=0)∧(∀ ad,a=some ad→∀ j u,(flat us)[j]?=some u→c.w.cell? (ad.add j)=some u)∧aC c (xs.map g) us∧∀ u ∈ us,u.cells.size=k∧∀ y ∈ u.cells,y.oneCell'=true:=by
   rcases hx with hx | ⟨b,off,us,rfl,TQ,hX,hl,hc,fQ⟩
   ·have IY:xs=[]:=by simpa using hx
    subst IY
    exact ⟨[],by simp [flat],fun _=>rfl,by simp [flat],by simp [aC],by simp⟩
   ·refine ⟨us,?_,(fun h=>by cases h),fun ad U4 j u hu=>?_,hl,hc⟩
    ·rw [dt (fun v hv=>(hc v hv).1)]; congr 1; have:=hl.length; simpa using this.symm
    ·cases U4; rw [Addr.add_lit]; exact fQ j u hu
  obtain ⟨us,h1,h2,h3,hl,hc⟩:=nS
  have hlen:(xs.map g).length=xs.length:=by simp
  have:=W a xs.length cap (flat us) c.w h1 h2 h3 (ss fun v hv=>(hc v hv).2) (by simpa using hb)
  rw [hlen]
  refine this.mono ?_
  rintro en w' ⟨u',rfl,hr⟩
  have hB:=hm.fresh (id:=id) rfl
  obtain ⟨c',hw,hT,h4,h5⟩:=hm.A9 (pr:=fun id=>Mem.of [] id ≠ .none) id (.arr e0 k (xs.map g)) (.arr u' k xs.length []) w' hr.grown.os hr.grown.tape hr.grown.output hr.drawn hr.grown.size
   (fun b hb _=>hr.grown.block b hb (by simp [Value.ownBlock])) (fun b hb=>.inr (hb.elim (fun hb=>(hr.mY b hb).elim (fun h=>by simp [Value.ownBlock] at h) (fun h=>h)) (fun hh=>by cases hh))) (by rw [hB]; trivial) (fun _ di h0=>by rw [hB] at h0; cases h0)
   (fun c' hw hle dw=>by
    simp only [br]
    exact ⟨u',us,by simp,Nat.le_of_ble_eq_true hk,by rw [hw]; simpa using hr.own,aC.mono hle _ _ (fun j _=>dw j) hl,hc,hp⟩)
  refine ⟨u',c',rfl,hw,h4,?_,h5.grow⟩
  simp only [au]
  refine ⟨?_,_,_,_,_,hT,Nat.le_refl _,fun _=>rfl⟩
  rcases hr.own.2 with ⟨rfl,_⟩ | ⟨g,cap,cur,rfl,_⟩ <;> rfl
 ·cases h
def oQ (k:IntKind) (u w:Int):Int:=u.fdiv (2 ^ min w.toNat k.bits)
theorem Lw {d:Option Nat} {x y:Operand} {t t' ty:TypeId} {pos:String} {af:Array Edge} {gd:Option (Nat × Bool)} {k yk:IntKind} {u w:Int} (hx:ev x=.int k u) (hy:ev y=.int yk w) (hw:0≤w):bm P pr ⟨d,.binOp .shr t x y t',ty,pos,af,gd⟩ ev m (.int k (oQ k u w)) m :=
 bm.value fun c a bw hm=>by
  have h1:=bw x (by simp [Op.operands])
  have h2:=bw y (by simp [Op.operands])
  rw [hx] at h1; rw [hy] at h2
  simp only [au] at h1 h2
  refine ⟨.int k (oQ k u w),c,?_,by simp [au],hm,Step.refl pr c⟩
  have hn:¬ w<0:=by omega
  simp [execOp,h1,h2,binOp,Op.shift,hn,oQ,eqGuard]
theorem Lz {c:List LV} (hc:LV.bj c=true):∀ {l:List LV},LV.bj l=true→LV.bj (l++c)=true:=fun h=>jJ h hc
theorem Ej {cs:Array Value} (h:∀ y ∈ cs.toList,(∃ k n,y=.int k n) ∨ ∃ b,y=.bool b) (n:Nat):Instr.sameBits (n+1) (.agg cs) (.agg cs)=true:=by
 simp only [Instr.sameBits,beq_self_eq_true,Bool.true_and,List.all_eq_true]
 intro p hp
 have Ua:p.1=p.2∧p.1 ∈ cs.toList:=by
  obtain ⟨i,hi,rfl⟩:=List.mem_iff_getElem.1 hp
  simp [List.getElem_zip]
 obtain ⟨a,b⟩:=p
 simp only at Ua ⊢
 obtain ⟨he,hm⟩:=Ua
 subst he
 rcases h _ hm with ⟨k,m,h⟩ | ⟨b,h⟩ <;> subst h <;> cases n <;> simp [Instr.sameBits]
mutual
theorem Dq:∀ (x:LV),x.pure=true→x.refs=[]
 | .eB,_ | .int _ _,_ | .bool _,_ | .nil,_ | .pL _,_ | .full _ _,_ | .str _,_ | .it _,_ | .lZ,_ | .fe,_ | .ak _ _,_ | .aJ _ _ _ _,_=>by simp [LV.refs]
 | .ag cs,h=>by simp only [LV.pure] at h; simp only [LV.refs]; exact fj cs h
 | .fI _ cs,h=>by simp only [LV.pure] at h; simp only [LV.refs]; exact fj cs h
 | .arr _ _,h | .ptr _ _,h | .bE _ _ _ _,h | .mp _,h=>by simp [LV.pure] at h
 | .agg cs,h=>by simp only [LV.pure] at h; simp only [LV.refs]; exact fj cs h
 | .de cs,h=>by simp only [LV.pure] at h; simp only [LV.refs]; exact fj cs h
 | .fn _ cs,h=>by simp only [LV.pure] at h; simp only [LV.refs]; exact fj cs h
 | .vj _ cs,h=>by simp only [LV.pure] at h; simp only [LV.refs]; exact fj cs h
theorem fj:∀ (xs:List LV),LV.bj xs=true→LV.bG xs=[]
 | [],_=>by simp [LV.bG]
 | x :: xs,h=>by
  simp only [LV.bj,Bool.and_eq_true] at h
  simp only [LV.bG,Dq x h.1,fj xs h.2,List.append_nil]
end
theorem fU {xs:List LV} (h:LV.bj xs=true):LV.bG xs=[]:=fj xs h
end
end Go.L
namespace Go.L
section
variable {P:Program} {N:Nat} {pr:Nat→Prop} {ops:Array Oper} {e:Env} {m m':Mem} {ev:Operand→LV} {o:Oper} {lv:LV} {l:List Oper} {KE:Env→Mem→Prop}
end
end Go.L
namespace Go.L
mutual
/-- Q8 the value not P4 of memory Ih Au Uq -/
def LV.kA:LV→Bool
 | .ak _ _=>false
 | .full _ _=>false
 | .ag _=>false
 | .fI _ _=>false
 | .aJ _ _ _ _=>false
 | .agg cs=>LV.j0 cs
 | .de cs=>LV.j0 cs
 | .fn _ cs=>LV.j0 cs
 | .vj _ cs=>LV.j0 cs
 | _=>true
def LV.j0:List LV→Bool
 | []=>true
 | x :: xs=>x.kA && LV.j0 xs
end
mutual
theorem au.je {c c':Cx}:∀ (x:LV) (v:Value),x.kA=true→(∀ id,x.a7 id=false→c'.B id=c.B id)→au c x v→au c' x v
 | .eB,v,_,_,h=>by simp only [au]
 | .int _ _,v,_,_,h=>by simpa only [au] using h
 | .bool _,v,_,_,h=>by simpa only [au] using h
 | .nil,v,_,_,h=>by simpa only [au] using h
 | .pL _,v,_,_,h=>by simpa only [au] using h
 | .str _,v,_,_,h=>by simpa only [au] using h
 | .it _,v,_,_,h=>by simpa only [au] using h
 | .full _ _,v,hn,_,h=>by simp [LV.kA] at hn
 | .lZ,v,_,_,h=>by simpa only [au] using h
 | .fe,v,_,_,h=>by simpa only [au] using h
 | .ak _ _,v,hn,_,h=>by simp [LV.kA] at hn
 | .ag _,v,hn,_,h=>by simp [LV.kA] at hn
 | .fI _ _,v,hn,_,h=>by simp [LV.kA] at hn
 | .aJ _ _ _ _,v,hn,_,h=>by simp [LV.kA] at hn
 | .arr id n,v,_,hB,h=>by simp only [au] at h ⊢; rw [hB id (by simp [LV.a7])]; exact h
 | .ptr id o,v,_,hB,h=>by simp only [au] at h ⊢; rw [hB id (by simp [LV.a7])]; exact h
 | .bE id n i o,v,_,hB,h=>by simp only [au] at h ⊢; rw [hB id (by simp [LV.a7])]; exact h
 | .mp id,v,_,hB,h=>by simp only [au] at h ⊢; rw [hB id (by simp [LV.a7])]; exact h
 | .agg cs,v,hn,hB,h=>by
  simp only [au] at h ⊢
  obtain ⟨vs,h1,h2⟩:=h
  exact ⟨vs,h1,aC.je cs vs (by simpa [LV.kA] using hn) (fun id bC=>hB id (by simpa [LV.a7] using bC)) h2⟩
 | .de cs,v,hn,hB,h=>by
  simp only [au] at h ⊢
  obtain ⟨vs,h1,h2⟩:=h
  exact ⟨vs,h1,aC.je cs vs (by simpa [LV.kA] using hn) (fun id bC=>hB id (by simpa [LV.a7] using bC)) h2⟩
 | .fn f cs,v,hn,hB,h=>by
  simp only [au] at h ⊢
  obtain ⟨vs,h1,h2⟩:=h
  exact ⟨vs,h1,aC.je cs vs (by simpa [LV.kA] using hn) (fun id bC=>hB id (by simpa [LV.a7] using bC)) h2⟩
 | .vj f cs,v,hn,hB,h=>by
  simp only [au] at h ⊢
  obtain ⟨vs,h1,h2⟩:=h
  exact ⟨vs,h1,aC.je cs vs (by simpa [LV.kA] using hn) (fun id bC=>hB id (by simpa [LV.a7] using bC)) h2⟩
theorem aC.je {c c':Cx}:∀ (xs:List LV) (vs:List Value),LV.j0 xs=true→(∀ id,LV.cj id xs=false→c'.B id=c.B id)→aC c xs vs→aC c' xs vs
 | [],vs,_,_,h=>by simpa only [aC] using h
 | x :: xs,vs,hn,hB,h=>by
  simp only [aC] at h ⊢
  obtain ⟨v,fH,rfl,h1,h2⟩:=h
  simp only [LV.j0,Bool.and_eq_true] at hn
  exact ⟨v,fH,rfl,au.je x v hn.1 (fun id bC=>hB id (by simp [LV.cj,bC])) h1,aC.je xs fH hn.2 (fun id bC=>hB id (by simp [LV.cj,bC])) h2⟩
end
def LE.plain (id:Nat):LE→Prop
 | .box cs=>LV.j0 cs=true∧LV.cj id cs=true
 | .arr _ _ xs=>LV.j0 xs=true
 | .map _ _ es=>LV.j0 (es.map (·.1))=true∧LV.j0 (es.map (·.2))=true
 | .nest _ _ _ _=>False
 | .cU _ _ _ _ _ _ _ _=>False
 | .dead=>True
theorem br.je {c c':Cx} {id:Nat} (hw:c'.w=c.w) (hB:∀ i,i ≠ id→c'.B i=c.B i) {x:LE} (hx:x.plain id) {y:Option BE} (h:br c (some x) y):br c' (some x) y:=by
 cases x with
 | box cs =>
  simp only [br] at h ⊢
  obtain ⟨b,vs,e,h1,h2,h3,h4⟩:=h
  exact ⟨b,vs,e,h1,by rw [hw]; exact h2,aC.je cs vs hx.1 (fun i hi=>hB i (fun he=>by subst he; rw [hx.2] at hi; cases hi)) h3,h4⟩
 | arr e k xs =>
  simp only [br] at h ⊢
  obtain ⟨u,vs,h1,h0,h2,h3,h4,h5⟩:=h
  exact ⟨u,vs,h1,h0,by rw [hw]; exact h2,aC.je xs vs hx (fun i hi=>by rw [ay xs h5] at hi; cases hi) h3,h4,h5⟩
 | nest e k os xs=>exact hx.elim
 | cU _ _ _ _ _ _ _ _=>exact hx.elim
 | dead=>simpa only [br] using h
 | map kt vt es =>
  simp only [br] at h ⊢
  obtain ⟨b,jn,ck,h1,h2,h3,h4,h5,h6,h7⟩:=h
  exact ⟨b,jn,ck,h1,by rw [hw]; exact h2,aC.je _ _ hx.1 (fun i hi=>by rw [ay _ h5] at hi; cases hi) h3,aC.je _ _ hx.2 (fun i hi=>by rw [ay _ h6] at hi; cases hi) h4,h5,h6,h7⟩
inductive o2 (id k:Nat) (xs:List LV):List LV→List LV→Prop
 | nil:o2 id k xs [] []
 | row {n:Nat} {l l':List LV} (hn:n=xs.length) (h:o2 id k xs l l'):o2 id k xs (.arr id n :: l) (.ak k xs :: l')
 | jr {x:LV} {l l':List LV} (hx:x.a7 id=true) (h:o2 id k xs l l'):o2 id k xs (x :: l) (x :: l')
theorem o2.rep {id k:Nat} {xs:List LV} {c c':Cx} (hV:∀ x v,x.a7 id=true→au c x v→au c' x v) (hR:∀ v,au c (.arr id xs.length) v→au c' (.ak k xs) v):∀ {l l':List LV} (h:o2 id k xs l l') {vs:List Value},aC c l vs→aC c' l' vs
 | _,_,.nil,vs,hr=>by simpa only [aC] using hr
 | _,_,.row hn h,vs,hr=>by
  subst hn
  simp only [aC] at hr ⊢
  obtain ⟨v,fH,rfl,h1,h2⟩:=hr
  exact ⟨v,fH,rfl,hR v h1,h.rep hV hR h2⟩
 | _,_,.jr hx h,vs,hr=>by
  simp only [aC] at hr ⊢
  obtain ⟨v,fH,rfl,h1,h2⟩:=hr
  exact ⟨v,fH,rfl,hV _ v hx h1,h.rep hV hR h2⟩
def zE (id:Nat) (ml:List (Nat × LE)):Prop:=∀ i le,Mem.of ml i=some le→le.plain id
theorem Ur {id:Nat}:zE id []:=fun i le h=>by simp [Mem.of] at h
theorem aP.S6 {P:Program} {f:Nat} {args gk:List LV} {ml dg:List (Nat × LE)} {r:LV} (id e k:Nat) {xs:List LV} (h:aP P f gk (Mem.of ml) r (Mem.of dg)) (ha:o2 id k xs args gk)
  (h1:Mem.of ml id=.none) (h2:Mem.of dg id=.none) (jX:su id ml=true) (hr:r.kA=true) (Sk:r.a7 id=true) (tQ:zE id dg) (vI:Mem.of ml dj=.none:=by exact rfl) :
  aP P f args (Mem.of ((id,.arr e k xs) :: ml)) r (Mem.of ((id,.arr e k xs) :: dg)):=by
 intro c vs hm hargs
 have bC:Mem.of ((id,LE.arr e k xs) :: ml) id=some (.arr e k xs):=by simp [Mem.of]
 obtain ⟨u,us,hB,hk,bd,hl,hc,hp⟩:=jS hm bC
 have pe:∀ i le,i ≠ id→Mem.of ((id,LE.arr e k xs) :: ml) i=some le→le.kN id=true:=fun i cs hi xl=>by
  simp only [Mem.of,hi,if_false] at xl
  exact mr jX i cs hi xl
 obtain ⟨c1,hw,hO,iv,hV,gP,hX,Ht⟩:=hm.del id pe
 have Ke:(Mem.of ((id,LE.arr e k xs) :: ml)).del id=Mem.of ml:=by
  funext i
  unfold Mem.del
  by_cases hi:i=id
  ·subst hi; simp [h1]
  ·simp [hi,Mem.of]
 rw [Ke] at iv
 have ES:c.Le c1:=Cx.sub_le hw hO gP
 have hR:∀ v,au c (.arr id xs.length) v→au c1 (.ak k xs) v:=by
  intro v hv
  obtain ⟨fH,zf,DL,hZ,iD,wB,Ag⟩:=gf hm hv bC rfl
  simp only [au]
  have Kl:=aC.mono ES xs fH (fun j hj=>by rw [ay xs Ag] at hj; cases hj) iD
  rcases hZ.2 with ⟨rfl,h0⟩ | ⟨g,cap,cur,rfl,_,hg,kf,_⟩
  ·exact ⟨.none,0,by rw [h0],by omega,fun _=>rfl,Ag,.inl (List.eq_nil_of_length_eq_zero h0)⟩
  ·refine ⟨some ⟨g,0,.none⟩,cap,rfl,kf,by simp,Ag,.inr ⟨g,0,fH,rfl,by rw [hw]; exact (Array.getElem?_eq_some_iff.1 hg).1,hX g _ zf (.inl rfl),Kl,wB,?_⟩⟩
   rw [hw]; exact cR hZ rfl
 have nP:=h c1 vs iv (ha.rep hV hR hargs)
 rw [hw] at nP
 refine nP.mono ?_
 rintro en w' ⟨v,c2,rfl,rfl,jc,wE,hg⟩
 have vz:c2.B id=.none:=jc.fresh h2
 have CH:¬ (fun i=>Mem.of ml i ≠ .none) dj:=fun h'=>h' vI
 have lI:gM c c2:=fun b n hb=>by
  have:=hg.keeps CH iv b n (by rw [hO.2]; exact hb)
  rw [hw] at this; exact this
 -- the block of the row
 have hblk:∀ b,u.ownBlock=some b→b<c.w.heap.size∧c2.w.heap[b]?=c.w.heap[b]?∧¬ c2.own b∧¬ c2.O b:=by
  intro b hb
  have dN:=(hm.gr id).lt hB (show (BE.arr u k xs.length []).has b from .inl hb)
  have Nf:¬ c1.X b:=hX b _ hB (.inl hb)
  have km:¬ c1.own b:=fun ho=>Nf (.inr ho)
  refine ⟨dN,?_,?_,?_⟩
  ·have:=hg.jr b (by rw [hw]; exact dN) km (.inr CH); rw [hw] at this; exact this
  ·intro ho
   rcases hg.own b ho with h' | h'
   ·exact km h'
   ·rw [hw] at h'; omega
  ·rw [hg.O]; exact fun ho=>Nf (.inl (.inl ho))
 let c3:Cx:=⟨c2.w,fun i=>if i=id then c.B id else c2.B i,c2.O,c2.Q⟩
 have vA:∀ i,i ≠ id→c3.B i=c2.B i:=fun i hi=>by simp [c3,hi]
 have sw:c3.B id=c.B id:=by simp [c3]
 have pk:∀ b,c3.own b→c2.own b ∨ u.ownBlock=some b:=by
  rintro b ⟨i,be,g1,g2⟩
  by_cases hi:i=id
  ·subst hi; rw [sw,hB] at g1; cases g1; exact .inr (g2.elim (fun h=>h) (fun h=>by cases h))
  ·rw [vA i hi] at g1; exact .inl ⟨i,be,g1,g2⟩
 have MJ:c3.O=c.O:=by show c2.O=c.O; rw [hg.O,hO.1]
 have ET:c.Le c3:=by
  refine ⟨by have:=hg.size; rw [hw] at this; exact this,fun b hb hx=>⟨?_,?_⟩,lI⟩
  ·have:=hg.jr b (by rw [hw]; exact hb) (fun ho=>hx (.inr (gP b ho))) (.inr CH); rw [hw] at this; exact this
  ·rintro ((ho | ho) | ho)
   ·rw [MJ] at ho; exact hx (.inl (.inl ho))
   ·rcases hg.qn b ho with h' | h' | h'
    ·rw [hO.2] at h'; exact hx (.inl (.inr h'))
    ·exact hx (.inr (gP b h'))
    ·rw [hw] at h'; omega
   ·rcases pk b ho with h' | h'
    ·rcases hg.own b h' with xa | xa
     ·exact hx (.inr (gP b xa))
     ·rw [hw] at xa; omega
    ·exact hx (.inr ⟨id,_,hB,.inl h'⟩)
 have RU:∀ b,c3.Q b ≠ .none→¬ c3.O b∧¬ c3.own b∧b<c3.w.heap.size:=fun b hb=>by
  refine ⟨(jc.cN b hb).1,fun ho=>?_,(jc.cN b hb).2.2⟩
  rcases pk b ho with h' | h'
  ·exact (jc.cN b hb).2.1 h'
  ·rcases hg.qn b hb with q | q | q
   ·rw [hO.2] at q; exact (hm.cN b q).2.1 ⟨id,_,hB,.inl h'⟩
   ·exact hX b _ hB (.inl h') (.inr q)
   ·have:=(hblk b h').1; rw [hw] at q; omega
 refine ⟨v,c3,rfl,rfl,⟨fun i=>?_,?_,?_,?_,RU⟩,?_,?_⟩
 ·by_cases hi:i=id
  ·subst hi
   rw [sw,hB]
   simp only [Mem.of,if_true,br]
   exact ⟨u,us,rfl,hk,dF bd (fun b hb=>(hblk b hb).2.1),aC.mono ET xs us (fun j hj=>by rw [ay xs hp] at hj; cases hj) hl,hc,hp⟩
  ·rw [vA i hi]
   simp only [Mem.of,hi,if_false]
   have he:=jc.gr i
   cases xl:Mem.of dg i with
   | none=>rw [xl] at he; simpa only [br] using he
   | some le=>rw [xl] at he; exact br.je (c:=c2) (c':=c3) rfl vA (tQ i le xl) he
 ·intro i j be ey b g1 g2 g3 g4
  by_cases hi:i=id
  ·by_cases hj:j=id
   ·rw [hi,hj]
   ·subst hi
    rw [sw,hB] at g1; cases g1
    rw [vA j hj] at g2
    exact absurd ⟨j,ey,g2,g4⟩ (hblk b (g3.elim (fun h=>h) (fun h=>by cases h))).2.2.1
  ·by_cases hj:j=id
   ·subst hj
    rw [sw,hB] at g2; cases g2
    rw [vA i hi] at g1
    exact absurd ⟨i,be,g1,g3⟩ (hblk b (g4.elim (fun h=>h) (fun h=>by cases h))).2.2.1
   ·rw [vA i hi] at g1; rw [vA j hj] at g2
    exact jc.inj i j be ey b g1 g2 g3 g4
 ·intro b ho
  rcases pk b ho with h' | h'
  ·exact jc.jG b h'
  ·exact (hblk b h').2.2.2
 ·intro b ho; exact jc.o3 b ho
 ·exact au.je r v hr (fun i hi=>vA i (fun he=>by subst he; rw [Sk] at hi; cases hi)) wE
 ·refine ⟨MJ,?_,?_,?_,?_,?_,?_,fun _ b n hb=>(lI b n hb).2,fun b hb=>?_,?_,?_⟩
  ·have:=hg.os; rw [hw] at this; exact this
  ·have:=hg.tape; rw [hw] at this; exact this
  ·have:=hg.output; rw [hw] at this; exact this
  ·have:=hg.drawn; rw [hw] at this; exact this
  ·have:=hg.size; rw [hw] at this; exact this
  ·intro b hb ho _
   have:=hg.jr b (by rw [hw]; exact hb) (fun rb=>ho (gP b rb)) (.inr CH); rw [hw] at this; exact this
  ·rcases hg.qn b hb with q | q | q
   ·rw [hO.2] at q; exact .inl q
   ·exact .inr (.inl (gP b q))
   ·rw [hw] at q; exact .inr (.inr q)
  ·intro b ho
   rcases pk b ho with h' | h'
   ·rcases hg.own b h' with xa | xa
    ·exact .inl (gP b xa)
    ·rw [hw] at xa; exact .inr xa
   ·exact .inl ⟨id,_,hB,.inl h'⟩
  ·intro i be Ai ML
   by_cases hi:i=id
   ·subst hi; exact ⟨be,by rw [sw]; exact ML,.refl be⟩
   ·rw [vA i hi]
    have JX:c1.B i=some be:=by rw [Ht i hi]; exact ML
    exact hg.AB i be (by simpa [Mem.of,hi] using Ai) JX
end Go.L
namespace Go.L
section
variable {P:Program} {N:Nat} {pr:Nat→Prop} {ops:Array Oper} {e:Env} {m m':Mem} {ev:Operand→LV} {o:Oper} {lv:LV} {l:List Oper} {KE:Env→Mem→Prop}
theorem dJ.at {c:Cx} {os:List (Nat × Nat × Nat)}:∀ {xs:List LV} {vs:List Value} {bs:List Nat},dJ c os xs vs bs→∀ {i:Nat} {x:LV},xs[i]?=some x →
  ∃ v bp b bq,vs[i]?=some v∧bs=bp++(b++bq)∧JK c os x v b∧∀ {c':Cx} {x':LV} {v':Value} {b':List Nat},c.Le c'→(∀ q ∈ bp++bq,c'.w.heap[q]?=c.w.heap[q]?)→JK c' os x' v' b'→dJ c' os (xs.set i x') (vs.set i v') (bp++(b'++bq))
 | [],_,_,h,i,x,hx=>by simp at hx
 | y :: ys,vs,bs,h,i,x,hx=>by
  simp only [dJ] at h
  obtain ⟨v,fH,b1,b2,rfl,rfl,h1,h2⟩:=h
  cases i with
  | zero =>
   simp at hx; subst hx
   refine ⟨v,[],b1,b2,by simp,by simp,h1,fun {c' x' v' b'} hle hh he=>?_⟩
   simp only [List.set_cons_zero,dJ,List.nil_append]
   exact ⟨v',fH,b',b2,rfl,rfl,he,h2.mono hle (fun q hq=>hh q (by simp [hq]))⟩
  | succ i =>
   simp at hx
   obtain ⟨u,bp,b,bq,g1,rfl,g3,g4⟩:=h2.at hx
   refine ⟨u,b1++bp,b,bq,by simpa using g1,by simp,g3,fun {c' x' v' b'} hle hh he=>?_⟩
   simp only [List.set_cons_succ,dJ]
   refine ⟨v,fH.set i v',b1,bp++(b'++bq),rfl,by simp,?_,g4 hle (fun q hq=>hh q (by simp at hq ⊢; rcases hq with h | h <;> simp [h])) he⟩
   obtain ⟨cs,ws,rfl,hv,hc⟩:=h1
   exact ⟨cs,ws,rfl,hv,hc.mono hle (fun q hq=>hh q (by simp [hq]))⟩
theorem wV {k i:Nat} {vs:List Value} (h:∀ v ∈ vs,v.cells.size=k) (hi:i<vs.length) {v':Value} (hv:v'.cells.size=k):flat (vs.set i v')=(flat vs).take (i * k)++v'.cells.toList++(flat vs).drop (i * k+k):=by
 have e1:vs.set i v'=vs.take i++v' :: vs.drop (i+1):=by rw [List.set_eq_take_append_cons_drop,if_pos hi]
 obtain ⟨f1,f2⟩:=fM h (i:=i) (u:=vs[i]) (by simp [hi])
 have hu:vs[i].cells.toList.length=k:=by simpa using h _ (List.getElem_mem hi)
 rw [e1,eD,gh,f1,← f2]
 rw [List.take_left' rfl]
 have:(flat (vs.take i)).length+k=(flat (vs.take i)).length+vs[i].cells.toList.length:=by omega
 have hd:∀ (A B C:List Value),(A++(B++C)).drop (A.length+B.length)=C:=fun A B C=>by
  rw [← List.append_assoc,← List.length_append,List.drop_left' rfl]
 rw [this,hd]
 simp
theorem bU.sS {c:Cx} (hm:bU c m) {id e0 k:Nat} {os:List (Nat × Nat × Nat)} {xs:List LV} (bC:m id=some (.nest e0 k os xs)) {i:Nat} {x:LV} (hx:xs[i]?=some x) :
  ∃ g cap cur v bs ins,c.B id=some (.arr (.slice (some ⟨g,0,.none⟩) xs.length cap) k xs.length ins)∧c.w.heap[g]?=some (.cells cur e0 (0,0))∧cur.size=cap * k∧xs.length≤cap∧0<k ∧
   v.cells.size=k∧(∀ y ∈ v.cells,y.oneCell'=true)∧(cur.toList.drop (i * k)).take k=v.cells.toList∧JK c os x v bs∧bs.Nodup∧g ∉ bs∧(∀ b ∈ bs,b ∈ ins) ∧
   ∀ (w':World) (x':LV) (v':Value) (Bk:List Nat),w'.os=c.w.os→w'.tape=c.w.tape→w'.output=c.w.output→c.w.drawn≤w'.drawn→c.w.heap.size≤w'.heap.size →
    (∀ b,b<c.w.heap.size→b ≠ g→b ∉ bs→w'.heap[b]?=c.w.heap[b]?) →
    w'.heap[g]?=some (.cells (cur.toList.take (i * k)++v'.cells.toList++cur.toList.drop (i * k+k)).toArray e0 (0,0))→v'.cells.size=k→(∀ y ∈ v'.cells,y.oneCell'=true) →
    (∀ b ∈ Bk,b ∈ bs ∨ c.w.heap.size≤b)→Bk.Nodup→(∀ c':Cx,c'.w=w'→c.Le c'→JK c' os x' v' Bk) →
    ∃ c':Cx,c'.w=w'∧bU c' (m.put id (.nest e0 k os (xs.set i x')))∧Step pr c c':=by
 have he:=hm.gr id
 rw [bC] at he
 simp only [br] at he
 obtain ⟨u,vs,ins,hB,hk,bd,hn,hc,hnd,km⟩:=he
 have hi:i<xs.length:=(List.getElem?_eq_some_iff.1 hx).1
 obtain ⟨v,bp,bs,bq,hv,rfl,q9,iE⟩:=hn.at hx
 have KX:=List.mem_of_getElem? hv
 have nh:=hn.length
 rcases bd.2 with ⟨_,h0⟩ | ⟨g,cap,cur,rfl,vD,hg,kf,zi,hcs,wD⟩
 ·omega
 ·have qA : g ∉ bp ++ (bs ++ bq) := km g rfl
  have TS:xs.length * k≤cap * k:=Nat.mul_le_mul_right k kf
  have Kj:i * k+k≤xs.length * k:=by
   have:=Nat.mul_le_mul_right k (show i+1≤xs.length by omega)
   rw [Nat.add_mul,Nat.one_mul] at this; exact this
  have ll:cur.toList.length=cur.size:=by simp
  have Bw:(flat vs).length=xs.length * k:=bd.1
  have EI:(cur.toList.drop (i * k)).take k=v.cells.toList:=by
   obtain ⟨f1,f2⟩:=fM (fun v hv=>(hc v hv).1) hv
   have By:v.cells.toList.length=k:=by simpa using (hc v KX).1
   have:(cur.toList.drop (i * k)).take k=((flat vs).drop (i * k)).take k:=by
    rw [← wD,List.drop_take,List.take_take]
    congr 1
    omega
   rw [this,f1,← f2,List.drop_left' rfl,← By,List.take_left' rfl]
  have ou:=List.nodup_append.1 hnd
  have HE:=List.nodup_append.1 ou.2.1
  refine ⟨g,cap,cur,v,bs,_,hB,hg,hcs,kf,hk,(hc v KX).1,(hc v KX).2,EI,q9,HE.1,fun h=>qA (by simp [h]),fun b hb=>by simp [hb],?_⟩
  intro w' x' v' Bk a1 a2 a3 a4 a5 gl sA sL KR Hz Rx Kf
  have dN:∀ b ∈ bp++(bs++bq),b<c.w.heap.size:=hn.lt
  obtain ⟨c',hw,hT,h2,h3⟩:=hm.A9 (pr:=pr) id (.nest e0 k os (xs.set i x')) (.arr (.slice (some ⟨g,0,.none⟩) xs.length cap) k xs.length (bp++(Bk++bq))) w' a1 a2 a3 a4 a5
   (fun b hb ep=>by
    have:=ep _ hB
    refine gl b hb (fun Cr=>this (.inl (by rw [Cr]; rfl))) (fun qz=>this (.inr (by simp [qz]))))
   (fun b hb=>by
    rcases hb with hb | hb
    ·exact .inl ⟨_,hB,.inl hb⟩
    ·simp only [List.mem_append] at hb
     rcases hb with hb | hb | hb
     ·exact .inl ⟨_,hB,.inr (by simp [hb])⟩
     ·rcases Hz b hb with h | h
      ·exact .inl ⟨_,hB,.inr (by simp [h])⟩
      ·exact .inr h
     ·exact .inl ⟨_,hB,.inr (by simp [hb])⟩)
   (by rw [hB]; exact ⟨_,_,_,rfl,Nat.le_refl _,fun _=>rfl⟩) (fun _ di h0=>by rw [hB] at h0; cases h0; exact ⟨_,_,_,rfl,Nat.le_refl _,fun _=>rfl⟩)
   (fun c' hw hle dw=>by
    simp only [br,List.length_set]
    refine ⟨.slice (some ⟨g,0,.none⟩) xs.length cap,vs.set i v',bp++(Bk++bq),rfl,hk,⟨?_,.inr ⟨g,cap,_,rfl,vD,by rw [hw]; exact sA,kf,zi,?_,?_⟩⟩,iE hle (fun q hq=>?_) (Kf c' hw hle),?_,?_,?_⟩
    ·rw [dt (k:=k) (fun y hy=>?_)]
     ·simp [nh]
     ·rcases List.mem_or_eq_of_mem_set hy with h | h
      ·exact (hc y h).1
      ·rw [h]; exact sL
    ·have:v'.cells.toList.length=k:=by simpa using sL
     simp only [List.size_toArray,List.length_append,List.length_take,List.length_drop,ll,this,hcs]
     omega
    ·rw [wV (fun y hy=>(hc y hy).1) (by omega) sL,← wD]
     have e2:v'.cells.toList.length=k:=by simpa using sL
     apply List.ext_getElem?
     intro j
     simp only [List.toList_toArray,List.getElem?_take,List.getElem?_append,List.length_append,List.length_take,List.getElem?_drop,e2,ll]
     repeat' split
     all_goals first | rfl | omega | (congr 1; omega) | skip
    ·refine (hw ▸ gl q (dN q (by simp at hq ⊢; rcases hq with h | h <;> simp [h])) (fun Nk=>qA (by rw [← Nk]; simp at hq ⊢; rcases hq with h | h <;> simp [h])) (fun HI=>?_))
     rcases List.mem_append.1 hq with h | h
     ·exact ou.2.2 q h q (by simp [HI]) rfl
     ·exact HE.2.2 q HI q h rfl
    ·intro y hy
     rcases List.mem_or_eq_of_mem_set hy with h | h
     ·exact hc y h
     ·rw [h]; exact ⟨sL,KR⟩
    ·refine List.nodup_append.2 ⟨ou.1,List.nodup_append.2 ⟨Rx,HE.2.1,fun a ha b hb pd=>?_⟩,fun a ha b hb pd=>?_⟩
     ·subst pd
      rcases Hz a ha with h | h
      ·exact HE.2.2 a h a hb rfl
      ·have:=dN a (by simp [hb]); omega
     ·subst pd
      rcases List.mem_append.1 hb with h | h
      ·rcases Hz a h with h' | h'
       ·exact ou.2.2 a ha a (by simp [h']) rfl
       ·have:=dN a (by simp [ha]); omega
      ·exact ou.2.2 a ha a (by simp [h]) rfl
    ·intro b hb
     have Cr:g=b:=by simpa [Value.ownBlock] using hb
     subst Cr
     intro wB
     simp only [List.mem_append] at wB
     rcases wB with h | h | h
     ·exact qA (by simp [h])
     ·rcases Hz g h with h' | h'
      ·exact qA (by simp [h'])
      ·have:=(Array.getElem?_eq_some_iff.1 hg).1; omega
     ·exact qA (by simp [h]))
  exact ⟨c',hw,h2,h3⟩
theorem FE {c:Cx} {m:Mem} (hm:bU c m) {id n e0 k:Nat} {os:List (Nat × Nat × Nat)} {xs:List LV} {v:Value} (hv:au c (.arr id n) v) (bC:m id=some (.nest e0 k os xs)) (hn:n=xs.length) :
  ∃ vs ins,c.B id=some (.arr v k xs.length ins)∧0<k∧c.w.ownsRow 0 e0 k v xs.length (flat vs)∧dJ c os xs vs ins∧(∀ v ∈ vs,v.cells.size=k∧∀ y ∈ v.cells,y.oneCell'=true):=by
 have he:=hm.gr id
 rw [bC] at he
 simp only [br] at he
 obtain ⟨u,vs,ins,hB,hk,bd,hl,hc,_⟩:=he
 simp only [au] at hv
 obtain ⟨_,u',k',len,k7,iq,xk,hv⟩:=hv
 rw [hB] at iq
 cases iq
 have:=hv hn
 subst this
 exact ⟨vs,ins,hB,hk,bd,hl,hc⟩
theorem Lq {d:Option Nat} {x y:Operand} {t ty:TypeId} {pos:String} {af:Array Edge} {g:Option (Nat × Bool)} {el kk id n:Nat} {os:List (Nat × Nat × Nat)} {xs:List LV} {k:IntKind} {u:Int} (he:telem P t=some el) (hk:tok P el=true) (hs:tsize P el=kk) (hx:ev x=.arr id n) (hm:m id=some (.nest el kk os xs)) (hn:n=xs.length) (hy:ev y=.int k u) (h0:0≤u) (h1:u.toNat<xs.length) :
  bm P pr ⟨d,.indexAddr t x y,ty,pos,af,g⟩ ev m (.bE id n u.toNat 0) m:=by
 have hu:=fG he
 refine bm.value fun c a bw hM=>?_
 have Fi:=bw y (by simp [Op.operands])
 rw [hy] at Fi
 simp only [au] at Fi
 have hv:=bw x (by simp [Op.operands])
 rw [hx] at hv
 obtain ⟨vs,ins,hB,IL,bd,hl,hc⟩:=FE hM hv hm hn
 subst hn
 rcases bd.2 with ⟨_,Rg⟩ | ⟨g,cap,cur,KZ,_⟩
 ·omega
 ·refine ⟨.pointer (some ⟨g,u.toNat * kk,.none⟩),c,?_,?_,hM,Step.refl pr c⟩
  ·unfold tok at hk
   cases sC:P.info? el with
   | none=>simp [sC] at hk
   | some ie =>
    have lI:kk=ie.size:=by rw [← hs]; simp [tsize,sC]
    have vE:u<(xs.length:Int):=by omega
    simp [execOp,KZ,Fi,Instr.indexAt,asIntOf,run_underlying hu,h0,vE,sizeOf,typeInfo,sC,Addr.add_mid,lI]
  ·simp only [au]
   exact ⟨rfl,_,kk,xs.length,_,hB,by omega,fun _=>⟨g,by rw [KZ]; rfl,by simp⟩⟩
end
theorem rT.zP {c c':Cx} (hle:c.Le c') (hw:c'.w=c.w) {e k:Nat} {x:LV} {v:Value} {bs:List Nat} (hX:∀ b ∈ bs,¬ c'.X b) (h:rT c e k x v bs):au c' x v:=by
 rcases h with ⟨rfl,_⟩ | ⟨ys,us,rfl,hk,bd,hl,hc,hp,rfl⟩
 ·simp only [au]
 ·simp only [au]
  have iD:=aC.mono hle ys us (fun j hj=>by rw [ay ys hp] at hj; cases hj) hl
  rcases bd.2 with ⟨rfl,h0⟩ | ⟨g,cap,cur,rfl,_,hg,kf,_⟩
  ·exact ⟨.none,0,by rw [h0],by omega,fun _=>rfl,hp,.inl (List.eq_nil_of_length_eq_zero h0)⟩
  ·refine ⟨some ⟨g,0,.none⟩,cap,rfl,kf,by simp,hp,.inr ⟨g,0,us,rfl,by rw [hw]; exact (Array.getElem?_eq_some_iff.1 hg).1,hX g (by simp [Value.ownBlock]),iD,hc,?_⟩⟩
   rw [hw]; exact cR bd rfl
theorem il.zP {c c':Cx} (hle:c.Le c') (hw:c'.w=c.w) {os:List (Nat × Nat × Nat)}:∀ {o:Nat} {xs:List LV} {ws:List Value} {bs:List Nat},(∀ b ∈ bs,¬ c'.X b)→il c os o xs ws bs→aC c' xs ws
 | _,[],_,_,_,h=>by simp only [il] at h; simp only [aC]; exact h.1
 | o,x :: xs,ws,bs,hX,h=>by
  simp only [il] at h
  obtain ⟨w,D0,b1,b2,rfl,rfl,h1,h2⟩:=h
  simp only [aC]
  refine ⟨w,D0,rfl,?_,il.zP hle hw (fun b hb=>hX b (by simp [hb])) h2⟩
  unfold fq at h1
  split at h1
  ·exact rT.zP hle hw (fun b hb=>hX b (by simp [hb])) h1
  ·exact au.mono hle x w (fun id bC=>by rw [eP x h1.2.1] at bC; cases bC) h1.1
theorem dJ.zP {c c':Cx} (hle:c.Le c') (hw:c'.w=c.w) {os:List (Nat × Nat × Nat)}:∀ {xs:List LV} {vs:List Value} {bs:List Nat},(∀ b ∈ bs,¬ c'.X b)→dJ c os xs vs bs→aC c' xs vs
 | [],_,_,_,h=>by simp only [dJ] at h; simp only [aC]; exact h.1
 | x :: xs,vs,bs,hX,h=>by
  simp only [dJ] at h
  obtain ⟨v,fH,b1,b2,rfl,rfl,⟨cs,ws,rfl,rfl,h1⟩,h2⟩:=h
  simp only [aC]
  refine ⟨_,fH,rfl,?_,dJ.zP hle hw (fun b hb=>hX b (by simp [hb])) h2⟩
  simp only [au]
  exact ⟨ws,rfl,h1.zP hle hw (fun b hb=>hX b (by simp [hb]))⟩
theorem mX {P:Program} {pr:Nat→Prop} {ro:List Nat} {ops:Array Oper} {l:List Oper} {ei:List Nat} {KE:Env→Mem→Prop} {e:Env} {m m':Mem} {lv:LV} {i:Nat} {op:Op} {ty:TypeId} {pos:String} {af:Array Edge} (h:bm P pr ⟨some i,op,ty,pos,af,.none⟩ (cZ e) m lv m') (hr:cA P pr ro ops (List.zip l ei) KE (e.put i lv) m'):cA P pr ro ops (List.zip (⟨some i,op,ty,pos,af,.none⟩ :: l) (3 :: ei)) KE e m:=⟨lv,m',h,hr⟩
theorem Un {P:Program} {pr:Nat→Prop} {ro:List Nat} {ops:Array Oper} {l:List Oper} {ei:List Nat} {KE:Env→Mem→Prop} {e:Env} {m m':Mem} {lv:LV} {op:Op} {ty:TypeId} {pos:String} {af:Array Edge} (h:bm P pr ⟨.none,op,ty,pos,af,.none⟩ (cZ e) m lv m') (hr:cA P pr ro ops (List.zip l ei) KE e m'):cA P pr ro ops (List.zip (⟨.none,op,ty,pos,af,.none⟩ :: l) (3 :: ei)) KE e m:=⟨lv,m',h,hr⟩
end Go.L
namespace Go.L
section
variable {P:Program} {N:Nat} {pr:Nat→Prop} {ops:Array Oper} {ev:Operand→LV} {o:Oper} {lv:LV} {m m':Mem}
theorem bU.Io {c:Cx} (h:bU c m) (id id2:Nat) (ep:id ≠ id2) (le Uk:LE) (be Bj:BE) (w':World)
  (DO:w'.os=c.w.os) (pt:w'.tape=c.w.tape) (ov:w'.output=c.w.output) (xd:c.w.drawn≤w'.drawn) (fh:c.w.heap.size≤w'.heap.size)
  (gl:∀ b,b<c.w.heap.size→(∀ di,c.B id=some di→¬ di.has b)→(∀ di,c.B id2=some di→¬ di.has b)→w'.heap[b]?=c.w.heap[b]?)
  (hblk:∀ b,be.has b ∨ Bj.has b→(∃ di,c.B id=some di∧di.has b) ∨ (∃ di,c.B id2=some di∧di.has b) ∨ c.w.heap.size≤b) (Cw:∀ b,be.has b→Bj.has b→False)
  (hle:jk (c.B id) (some be)) (ot:jk (c.B id2) (some Bj)) (lX:pr id→∀ di,c.B id=some di→di.kI be) (sI:pr id2→∀ di,c.B id2=some di→di.kI Bj)
  (im:∀ c':Cx,c'.w=w'→c.Le c'→(∀ i,jk (c.B i) (c'.B i))→c'.B id2=some Bj→br c' (some le) (some be)) (xe:∀ c':Cx,c'.w=w'→c.Le c'→(∀ i,jk (c.B i) (c'.B i))→br c' (some Uk) (some Bj)) :
  ∃ c':Cx,c'.w=w'∧c'.B id=some be∧c'.B id2=some Bj∧bU c' ((m.put id le).put id2 Uk)∧Step pr c c':=by
 let c':Cx:=⟨w',fun i=>if i=id2 then some Bj else if i=id then some be else c.B i,c.O,c.Q⟩
 have e1:c'.B id=some be:=by simp [c',ep]
 have e2:c'.B id2=some Bj:=by simp [c']
 have e3:∀ i,i ≠ id→i ≠ id2→c'.B i=c.B i:=fun i h1 h2=>by simp [c',h1,h2]
 have key:∀ i b1 b,c'.B i=some b1→b1.has b→(∃ j di,c.B j=some di∧di.has b∧(j=i ∨ (i=id ∨ i=id2)∧(j=id ∨ j=id2))) ∨ c.w.heap.size≤b:=by
  intro i b1 b g1 g2
  by_cases hi:i=id
  ·subst hi; rw [e1] at g1; cases g1
   rcases hblk b (.inl g2) with ⟨di,q1,q2⟩ | ⟨di,q1,q2⟩ | q
   ·exact .inl ⟨i,di,q1,q2,.inl rfl⟩
   ·exact .inl ⟨id2,di,q1,q2,.inr ⟨.inl rfl,.inr rfl⟩⟩
   ·exact .inr q
  ·by_cases oV:i=id2
   ·subst oV; rw [e2] at g1; cases g1
    rcases hblk b (.inr g2) with ⟨di,q1,q2⟩ | ⟨di,q1,q2⟩ | q
    ·exact .inl ⟨id,di,q1,q2,.inr ⟨.inr rfl,.inl rfl⟩⟩
    ·exact .inl ⟨i,di,q1,q2,.inl rfl⟩
    ·exact .inr q
   ·rw [e3 i hi oV] at g1; exact .inl ⟨i,b1,g1,g2,.inl rfl⟩
 have bd:∀ b,c'.own b→c.own b ∨ c.w.heap.size≤b:=by
  rintro b ⟨i,ey,h1,h2⟩
  rcases key i ey b h1 h2 with ⟨j,di,q1,q2,_⟩ | q
  ·exact .inl ⟨j,di,q1,q2⟩
  ·exact .inr q
 have jx:Grow pr c c':=by
  refine ⟨rfl,DO,pt,ov,xd,fh,fun b hb ho _=>gl b hb (fun di h0 h1=>ho ⟨id,di,h0,h1⟩) (fun di h0 h1=>ho ⟨id2,di,h0,h1⟩),fun _ _ _ h=>h,fun _ h=>.inl h,bd,fun i ey hp hb=>?_⟩
  by_cases hi:i=id
  ·subst hi; exact ⟨be,e1,lX hp ey hb⟩
  ·by_cases oV:i=id2
   ·subst oV; exact ⟨Bj,e2,sI hp ey hb⟩
   ·exact ⟨ey,by rw [e3 i hi oV]; exact hb,.refl ey⟩
 have lI:gM c c':=h.Fx ⟨rfl,rfl⟩ fun b hb ho=>gl b hb (fun di h0 h1=>ho ⟨id,di,h0,h1⟩) (fun di h0 h1=>ho ⟨id2,di,h0,h1⟩)
 have lW:=jx.le lI
 have dw:∀ i,jk (c.B i) (c'.B i):=by
  intro i
  by_cases hi:i=id
  ·subst hi; rw [e1]; exact hle
  ·by_cases oV:i=id2
   ·subst oV; rw [e2]; exact ot
   ·rw [e3 i hi oV]; exact jk.refl _
 refine ⟨c',rfl,e1,e2,⟨fun i=>?_,?_,?_,?_,h.Uo ⟨rfl,rfl⟩ fh bd⟩,jx,dw,lI⟩
 ·by_cases oV:i=id2
  ·subst oV; rw [e2]; simp only [Mem.put,if_true]; exact xe c' rfl lW dw
  ·by_cases hi:i=id
   ·subst hi; rw [e1]; simp only [Mem.put,oV,if_false,if_true]; exact im c' rfl lW dw e2
   ·rw [e3 i hi oV]
    simp only [Mem.put,hi,oV,if_false]
    refine (h.gr i).mono lW dw fun ey b hb qz=>?_
    refine gl b ((h.gr i).lt hb qz) (fun di h0 h1=>?_) (fun di h0 h1=>?_)
    ·exact hi (h.inj i id ey di b hb h0 qz h1)
    ·exact oV (h.inj i id2 ey di b hb h0 qz h1)
 ·intro i i' b1 b2 b h1 h2 h3 h4
  rcases key i b1 b h1 h3 with ⟨j,di,q1,q2,q3⟩ | q
  ·rcases key i' b2 b h2 h4 with ⟨j',Mu,Tj,Tk,zn⟩ | q'
   ·have hj := h.inj j j' di Mu b q1 Tj q2 Tk
    subst hj
    by_cases hi:i=id
    ·by_cases gV:i'=id
     ·rw [hi,gV]
     ·by_cases oV:i'=id2
      ·rw [hi,e1] at h1; rw [oV,e2] at h2; cases h1; cases h2; exact (Cw b h3 h4).elim
      ·rcases zn with zn | ⟨q,_⟩
       ·subst zn
        rcases q3 with q3 | ⟨_,q3⟩
        ·exact q3.symm
        ·rcases q3 with q3 | q3
         ·exact absurd q3 gV
         ·exact absurd q3 oV
       ·rcases q with q | q
        ·exact absurd q gV
        ·exact absurd q oV
    ·by_cases oV:i=id2
     ·by_cases gV:i'=id
      ·rw [oV,e2] at h1; rw [gV,e1] at h2; cases h1; cases h2; exact (Cw b h4 h3).elim
      ·by_cases CA:i'=id2
       ·rw [oV,CA]
       ·rcases zn with zn | ⟨q,_⟩
        ·subst zn
         rcases q3 with q3 | ⟨_,q3⟩
         ·exact q3.symm
         ·rcases q3 with q3 | q3
          ·exact absurd q3 gV
          ·exact absurd q3 CA
        ·rcases q with q | q
         ·exact absurd q gV
         ·exact absurd q CA
     ·rcases q3 with q3 | ⟨q,_⟩
      ·subst q3
       rcases zn with zn | ⟨_,zn⟩
       ·exact zn
       ·rcases zn with zn | zn
        ·exact absurd zn hi
        ·exact absurd zn oV
      ·rcases q with q | q
       ·exact absurd q hi
       ·exact absurd q oV
   ·have:=(h.gr j).lt q1 q2; omega
  ·rcases key i' b2 b h2 h4 with ⟨j',Mu,Tj,Tk,zn⟩ | q'
   ·have:=(h.gr j').lt Tj Tk; omega
   ·by_cases hi:i=id
    ·by_cases gV:i'=id
     ·rw [hi,gV]
     ·by_cases oV:i'=id2
      ·rw [hi,e1] at h1; rw [oV,e2] at h2; cases h1; cases h2; exact (Cw b h3 h4).elim
      ·rw [e3 i' gV oV] at h2; have:=(h.gr i').lt h2 h4; omega
    ·by_cases oV:i=id2
     ·by_cases gV:i'=id
      ·rw [oV,e2] at h1; rw [gV,e1] at h2; cases h1; cases h2; exact (Cw b h4 h3).elim
      ·by_cases CA:i'=id2
       ·rw [oV,CA]
       ·rw [e3 i' gV CA] at h2; have:=(h.gr i').lt h2 h4; omega
     ·rw [e3 i hi oV] at h1; have:=(h.gr i).lt h1 h3; omega
 ·intro b ho hO
  rcases bd b ho with ho | hs
  ·exact h.jG b ho hO
  ·have:=h.o3 b hO; omega
 ·intro b hO; exact Nat.lt_of_lt_of_le (h.o3 b hO) fh
theorem il.at {c:Cx} {os:List (Nat × Nat × Nat)}:∀ {q:Nat} {xs:List LV} {ws:List Value} {bs:List Nat},il c os q xs ws bs→∀ {j:Nat} {x:LV},xs[j]?=some x →
  ∃ w bp b bq,ws[j]?=some w∧bs=bp++(b++bq)∧fq c os (q+j) x w b∧∀ {c':Cx} {x':LV} {w':Value} {b':List Nat},c.Le c'→(∀ r ∈ bp++bq,c'.w.heap[r]?=c.w.heap[r]?)→fq c' os (q+j) x' w' b'→il c' os q (xs.set j x') (ws.set j w') (bp++(b'++bq))
 | _,[],_,_,h,j,x,hx=>by simp at hx
 | q,y :: ys,ws,bs,h,j,x,hx=>by
  simp only [il] at h
  obtain ⟨w,D0,b1,b2,rfl,rfl,h1,h2⟩:=h
  cases j with
  | zero =>
   simp at hx; subst hx
   refine ⟨w,[],b1,b2,by simp,by simp,h1,fun {c' x' w' b'} hle hh he=>?_⟩
   simp only [List.set_cons_zero,il,List.nil_append]
   exact ⟨w',D0,b',b2,rfl,rfl,he,h2.mono hle (fun r hr=>hh r (by simp [hr]))⟩
  | succ j =>
   simp at hx
   obtain ⟨u,bp,b,bq,g1,rfl,g3,g4⟩:=il.at h2 hx
   have hq:q+1+j=q+(j+1):=by omega
   rw [hq] at g3
   refine ⟨u,b1++bp,b,bq,by simpa using g1,by simp,g3,fun {c' x' w' b'} hle hh he=>?_⟩
   simp only [List.set_cons_succ,il]
   refine ⟨w,D0.set j w',b1,bp++(b'++bq),rfl,by simp,h1.mono hle (fun r hr=>hh r (by simp [hr])),g4 hle (fun r hr=>hh r (by simp at hr ⊢; rcases hr with h | h <;> simp [h])) (by rw [hq]; exact he)⟩
theorem nm {w:World} {g i k o0 e0:Nat} {cur:Array Value} {ws:List Value} {x:Value} (hg:w.heap[g]?=some (.cells cur e0 (0,0))) (tP:(cur.toList.drop (i * k)).take k=ws) (hw:ws[o0]?=some x):w.cell? ⟨g,i * k+o0,.none⟩=some x:=by
 rw [← tP,List.getElem?_take] at hw
 split at hw
 ·rw [List.getElem?_drop] at hw
  simp [World.cell?,hg]
  simpa using hw
 ·cases hw
theorem qK {cur ws:List Value} {ik k o0:Nat} {w':Value} (tP:(cur.drop ik).take k=ws) (hk:ik+k≤cur.length) (ho:o0<k):cur.take (ik+o0)++[w']++cur.drop (ik+o0+1)=cur.take ik++ws.set o0 w'++cur.drop (ik+k):=by
 have BA:ws.length=k:=by rw [← tP]; simp; omega
 have e1:cur.take (ik+o0)++[w']++cur.drop (ik+o0+1)=cur.set (ik+o0) w':=by
  rw [List.set_eq_take_append_cons_drop,if_pos (by omega)]; simp
 have e2:cur=cur.take ik++(ws++cur.drop (ik+k)):=by
  rw [← tP]
  have:cur.drop (ik+k)=(cur.drop ik).drop k:=by rw [List.drop_drop]
  rw [this,List.take_append_drop,List.take_append_drop]
 have hl:(cur.take ik).length=ik:=by simp; omega
 rw [e1]
 conv=>lhs; rw [e2]
 rw [List.set_append_right _ _ (by omega),hl,show ik+o0 - ik=o0 by omega,List.set_append_left _ _ (by omega)]
 simp
theorem iX {c:Cx} {id n i o0 g cap k len:Nat} {ins:List Nat} {v:Value} (hv:au c (.bE id n i o0) v) (hB:c.B id=some (.arr (.slice (some ⟨g,0,.none⟩) len cap) k len ins)) (hn:n=len):v=.pointer (some ⟨g,i * k+o0,.none⟩):=by
 simp only [au] at hv
 obtain ⟨_,u',k',k8,k7,iq,xk,hv⟩:=hv
 rw [hB] at iq
 cases iq
 obtain ⟨b,hb,he⟩:=hv hn
 have:g=b:=by simpa [Value.ownBlock] using hb
 rw [this]; exact he
section
variable {d:Option Nat} {d1:Nat} {x y:Operand} {t ty:TypeId} {pos:String} {af:Array Edge} {gd:Option (Nat × Bool)} {e0 k id n i o0:Nat} {os:List (Nat × Nat × Nat)} {xs cs:List LV} {z:LV}
theorem fB (hx:ev x=.bE id n i o0) (hm:m id=some (.nest e0 k os xs)) (hn:n=xs.length) (hz:xs[i]?=some z):bm P pr ⟨d,.nilCheck x,ty,pos,af,gd⟩ ev m (.bE id n i o0) m:=by
 refine bm.value fun c a bw hM=>?_
 have hv:=bw x (by simp [Op.operands])
 rw [hx] at hv
 obtain ⟨g,cap,cur,v,bs,ins,hB,_⟩:=hM.sS (pr:=pr) hm hz
 have he:=iX hv hB hn
 exact ⟨a.eval x,c,by simp [execOp,he],hv,hM,Step.refl pr c⟩
theorem fA {f off ft kk:Nat} (hf:tfield P t f=some (off,ft)) (hk:tok P ft=true) (hs:tsize P ft=kk+1) (hx:ev x=.bE id n i o0) (hm:m id=some (.nest e0 k os xs)) (hn:n=xs.length) (hz:xs[i]?=some z):bm P pr ⟨d,.fieldAddr t x f,ty,pos,af,gd⟩ ev m (.bE id n i (o0+off)) m:=by
  obtain ⟨fs,fd,hu,Bv,rfl,rfl⟩:∃ fs fd,P.underlying t=some (.struct fs)∧fs[f]?=some fd∧fd.offset=off∧fd.type=ft:=by
    unfold tfield at hf
    split at hf
    · rename_i fs hu
      cases Kh:fs[f]? with
      | none=>simp [Kh] at hf
      | some fd=>simp [Kh] at hf; exact ⟨fs,fd,hu,Kh,hf.1,hf.2⟩
    · cases hf
  refine bm.value fun c a bw hM=>?_
  have hv:=bw x (by simp [Op.operands])
  rw [hx] at hv
  obtain ⟨g,cap,cur,v,bs,ins,hB,_⟩:=hM.sS (pr:=pr) hm hz
  have he:=iX hv hB hn
  have hi:∃ i,P.info? fd.type=some i∧i.size ≠ 0:=by
    unfold tok at hk
    cases hi:P.info? fd.type with
    | none=>simp [hi] at hk
    | some i => exact ⟨i, rfl, by have : tsize P fd.type = i.size := by simp [tsize, hi]
                                  omega⟩
  obtain ⟨ii,hi,MZ⟩:=hi
  refine ⟨.pointer (some ⟨g,i * k+(o0+fd.offset),.none⟩),c,?_,?_,hM,Step.refl pr c⟩
  · simp [execOp,he,Instr.fieldAt,run_underlying hu,Bv,Instr.sureAddr,fieldPlace,sizeOf,typeInfo,hi,MZ,Addr.add_mid,Nat.add_assoc]
  · simp only [au]
    exact ⟨rfl,_,k,xs.length,_,hB,by omega,fun _=>⟨g,rfl,rfl⟩⟩
theorem uN {c:Cx} (hM:bU c m) (hm:m id=some (.nest e0 k os xs)) (hn:n=xs.length) (hz:xs[i]?=some (.agg cs)) (hc:cs[o0]?=some z) {v:Value} (hv:au c (.bE id n i o0) v) (ht:tok P t=true) (ha:tagg P t=false) :
  ∃ w b,fq c os o0 z w b∧(Instr.loadAt t v).run P c.w=.ok w c.w:=by
 obtain ⟨g,cap,cur,v0,bs,ins,hB,hg,hcs,kf,hk,By,kz,tP,q9,_⟩:=hM.sS (pr:=fun _=>False) hm hz
 have he:=iX hv hB hn
 obtain ⟨dr,ws,h1,rfl,hC⟩:=q9
 cases h1
 obtain ⟨w,bp,b,bq,g1,_,g3,_⟩:=hC.at hc
 have sz:(cur.toList.drop (i * k)).take k=ws:=by simpa [Value.cells] using tP
 have hcell:=nm hg sz g1
 rw [Nat.zero_add] at g3
 refine ⟨w,b,g3,?_⟩
 rw [he]
 exact (fW (cs:=[.eB]) (vs:=[w]) (c:=c) ht (by simp [aC,au]) (fun j v hj=>by
  cases j with
  | zero=>simp at hj; subst hj; simpa using hcell
  | succ j=>simp at hj)).2 ha w [] rfl
theorem vO (hx:ev x=.bE id n i o0) (hm:m id=some (.nest e0 k os xs)) (hn:n=xs.length) (hz:xs[i]?=some (.agg cs)) (hc:cs[o0]?=some z) (hl:os.lookup o0=.none) (ht:tok P t=true) (ha:tagg P t=false):bm P pr ⟨d,.load t x,ty,pos,af,gd⟩ ev m z m:=by
 refine bm.value fun c a bw hM=>?_
 have hv:=bw x (by simp [Op.operands])
 rw [hx] at hv
 obtain ⟨w,b,h1,h2⟩:=uN hM hm hn hz hc hv ht ha
 unfold fq at h1
 rw [hl] at h1
 exact ⟨w,c,by simp [execOp,h2],h1.1,hM,Step.refl pr c⟩
theorem Lr {e' k':Nat} {ys:List LV} (hx:ev x=.bE id n i o0) (hm:m id=some (.nest e0 k os xs)) (hn:n=xs.length) (hz:xs[i]?=some (.agg cs)) (hc:cs[o0]?=some (.ak k' ys)) (hl:os.lookup o0=some (e',k')) (ht:tok P t=true) (ha:tagg P t=false):bm P pr ⟨d,.load t x,ty,pos,af,gd⟩ ev m (.pL ys.length) m:=by
 refine bm.value fun c a bw hM=>?_
 have hv:=bw x (by simp [Op.operands])
 rw [hx] at hv
 obtain ⟨w,b,h1,h2⟩:=uN hM hm hn hz hc hv ht ha
 unfold fq at h1
 rw [hl] at h1
 refine ⟨w,c,by simp [execOp,h2],?_,hM,Step.refl pr c⟩
 rcases h1 with ⟨h,_⟩ | ⟨UD,us,h,_,bd,_⟩
 ·cases h
 ·cases h
  obtain ⟨ad,cp,he⟩:=du bd
  simp only [au]; exact ⟨ad,cp,he⟩
theorem vP {el nn:Nat} (he:telem P t=some el) (hx:ev x=.pL nn):bm P pr ⟨d,.call ⟨.builtin .len,#[x],#[t]⟩,ty,pos,af,gd⟩ ev m (.int .i64 nn) m:=by
 have hu:=fG he
 refine bm.value fun c a bw hM=>?_
 have hv:=bw x (by simp [Op.operands,Call.operands])
 rw [hx] at hv
 simp only [au] at hv
 obtain ⟨ad,cp,hv⟩:=hv
 exact ⟨.int .i64 nn,c,by simp [execOp,resolve,invoke,builtin,Builtin.len_,hv,run_underlying hu,goInt],by simp [au],hM,Step.refl pr c⟩
theorem Lv {z':LV} (hx:ev x=.bE id n i o0) (hm:m id=some (.nest e0 k os xs)) (hn:n=xs.length) (hz:xs[i]?=some (.agg cs)) (hc:cs[o0]?=some z) (hl:os.lookup o0=.none) (hy:ev y=z') (wC:z'.scalar=true) (hp:z'.pure=true) (ht:tok P t=true) (hs:tsize P t=1) :
  bm P pr ⟨.none,.store t x y,ty,pos,af,gd⟩ ev m .eB (m.put id (.nest e0 k os (xs.set i (.agg (cs.set o0 z'))))):=by
 refine bm.skip rfl fun c a bw hM=>?_
 have hv:=bw x (by simp [Op.operands])
 rw [hx] at hv
 have oX:=bw y (by simp [Op.operands])
 rw [hy] at oX
 obtain ⟨g,cap,cur,v0,bs,ins,hB,hg,hcs,kf,hk,By,kz,tP,q9,hnd,MU,Vj,oo⟩:=hM.sS (pr:=pr) hm hz
 have he:=iX hv hB hn
 obtain ⟨dr,ws,h1,rfl,hC⟩:=q9
 cases h1
 have BA:ws.length=k:=by simpa [Value.cells] using By
 have sz:(cur.toList.drop (i * k)).take k=ws:=by simpa [Value.cells] using tP
 obtain ⟨w,bp,b,bq,g1,rfl,g3,g4⟩:=hC.at hc
 have gv:o0<k:=by rw [← BA]; exact (List.getElem?_eq_some_iff.1 g1).1
 have hi:i<xs.length:=(List.getElem?_eq_some_iff.1 hz).1
 have Kj:i * k+k≤cur.size:=by
  have h1:=Nat.mul_le_mul_right k (show i+1≤cap by omega)
  rw [Nat.add_mul,Nat.one_mul] at h1; omega
 have ue:=eF wC oX
 have CN:=dm ue
 have dD:=iR (P:=P) (t:=t) (v:=a.eval y) (off:=i * k+o0) ht (by rw [hs,CN]; rfl) hg (by rw [CN]; simp; omega) (by rw [CN]; simpa using ue)
 rw [CN] at dD
 have iE:=qK (w':=a.eval y) sz (by simpa using Kj) gv
 have ow:(cur.toList.take (i * k+o0)++[a.eval y]++cur.toList.drop (i * k+o0+1))=cur.toList.take (i * k)++(Value.agg (ws.set o0 (a.eval y)).toArray).cells.toList++cur.toList.drop (i * k+k):=by rw [iE]; simp [Value.cells]
 have Hw:b=[]:=by unfold fq at g3; rw [Nat.zero_add,hl] at g3; exact g3.2.2
 subst Hw
 obtain ⟨c',hw,h2,h3⟩:=oo (c.w.setRow g (cur.toList.take (i * k+o0)++[a.eval y]++cur.toList.drop (i * k+o0+1)).toArray) (.agg (cs.set o0 z')) (.agg (ws.set o0 (a.eval y)).toArray) (bp++([]++bq)) rfl rfl rfl (Nat.le_refl _) (by simp)
  (fun b hb ep _=>setRow_other _ _ _ _ ep) (by rw [ow]; exact setRow_heap c.w g _ _ e0 _ hg) (by simp [Value.cells,BA]) (fun q hq=>by
   simp only [Value.cells] at hq kz
   have oW:q ∈ ws.set o0 (a.eval y):=by simpa using hq
   rcases List.mem_or_eq_of_mem_set oW with h | h
   ·exact kz q (by simpa using h)
   ·rw [h]; exact ue) (fun b hb=>.inl hb) hnd (fun c' hw hle=>⟨_,_,rfl,rfl,g4 hle (fun r hr=>by rw [hw]; exact setRow_other _ _ _ _ (fun Nn=>MU (by rw [← Nn]; simp at hr ⊢; exact hr)))
   (by unfold fq; rw [Nat.zero_add,hl]; exact ⟨au.mono hle z' _ (fun q hq=>by rw [eP z' hp] at hq; cases hq) oX,hp,rfl⟩)⟩)
 refine ⟨c',?_,h2,h3⟩
 rw [hw]
 simp [execOp,he,dD]
end
end
end Go.L
namespace Go.L
theorem pB {c:Cx} {e0 k:Nat} {os:List (Nat × Nat × Nat)} {xs:List LV} {y:Option BE} (he:br c (some (.nest e0 k os xs)) y) {i:Nat} {x:LV} (hx:xs[i]?=some x) :
  ∃ g cap cur v bp bs bq,y=some (.arr (.slice (some ⟨g,0,.none⟩) xs.length cap) k xs.length (bp++(bs++bq)))∧c.w.heap[g]?=some (.cells cur e0 (0,0))∧cur.size=cap * k∧xs.length≤cap∧0<k ∧
   v.cells.size=k∧(∀ y ∈ v.cells,y.oneCell'=true)∧(cur.toList.drop (i * k)).take k=v.cells.toList∧JK c os x v bs∧(bp++(bs++bq)).Nodup∧g ∉ bp++(bs++bq) ∧
   ∀ (c':Cx) (x':LV) (v':Value) (Bk:List Nat),c.Le c'→c'.w.heap[g]?=some (.cells (cur.toList.take (i * k)++v'.cells.toList++cur.toList.drop (i * k+k)).toArray e0 (0,0))→(∀ q ∈ bp++bq,c'.w.heap[q]?=c.w.heap[q]?) →
    v'.cells.size=k→(∀ y ∈ v'.cells,y.oneCell'=true)→JK c' os x' v' Bk→(bp++(Bk++bq)).Nodup→g ∉ Bk→br c' (some (.nest e0 k os (xs.set i x'))) (some (.arr (.slice (some ⟨g,0,.none⟩) xs.length cap) k xs.length (bp++(Bk++bq)))):=by
 simp only [br] at he
 obtain ⟨u,vs,ins,rfl,hk,bd,hn,hc,hnd,km⟩:=he
 have hi:i<xs.length:=(List.getElem?_eq_some_iff.1 hx).1
 obtain ⟨v,bp,bs,bq,hv,rfl,q9,iE⟩:=hn.at hx
 have KX:=List.mem_of_getElem? hv
 have nh:=hn.length
 rcases bd.2 with ⟨_,h0⟩ | ⟨g,cap,cur,rfl,vD,hg,kf,zi,hcs,wD⟩
 ·omega
 ·have qA:g ∉ bp++(bs++bq):=km g rfl
  have TS:xs.length * k≤cap * k:=Nat.mul_le_mul_right k kf
  have Kj:i * k+k≤xs.length * k:=by
   have:=Nat.mul_le_mul_right k (show i+1≤xs.length by omega)
   rw [Nat.add_mul,Nat.one_mul] at this; exact this
  have ll:cur.toList.length=cur.size:=by simp
  have EI:(cur.toList.drop (i * k)).take k=v.cells.toList:=by
   obtain ⟨f1,f2⟩:=fM (fun v hv=>(hc v hv).1) hv
   have By:v.cells.toList.length=k:=by simpa using (hc v KX).1
   have:(cur.toList.drop (i * k)).take k=((flat vs).drop (i * k)).take k:=by
    rw [← wD,List.drop_take,List.take_take]
    congr 1
    omega
   rw [this,f1,← f2,List.drop_left' rfl,← By,List.take_left' rfl]
  refine ⟨g,cap,cur,v,bp,bs,bq,rfl,hg,hcs,kf,hk,(hc v KX).1,(hc v KX).2,EI,q9,hnd,qA,?_⟩
  intro c' x' v' Bk hle sA gl sL KR Kf ou MU
  simp only [br,List.length_set]
  refine ⟨.slice (some ⟨g,0,.none⟩) xs.length cap,vs.set i v',bp++(Bk++bq),rfl,hk,⟨?_,.inr ⟨g,cap,_,rfl,vD,sA,kf,zi,?_,?_⟩⟩,iE hle gl Kf,?_,ou,?_⟩
  ·rw [dt (k:=k) (fun y hy=>?_)]
   ·simp [nh]
   ·rcases List.mem_or_eq_of_mem_set hy with h | h
    ·exact (hc y h).1
    ·rw [h]; exact sL
  ·have:v'.cells.toList.length=k:=by simpa using sL
   simp only [List.size_toArray,List.length_append,List.length_take,List.length_drop,ll,this,hcs]
   omega
  ·rw [wV (fun y hy=>(hc y hy).1) (by omega) sL,← wD]
   have e2:v'.cells.toList.length=k:=by simpa using sL
   apply List.ext_getElem?
   intro j
   simp only [List.toList_toArray,List.getElem?_take,List.getElem?_append,List.length_append,List.length_take,List.getElem?_drop,e2,ll]
   repeat' split
   all_goals first | rfl | omega | (congr 1; omega) | skip
  ·intro y hy
   rcases List.mem_or_eq_of_mem_set hy with h | h
   ·exact hc y h
   ·rw [h]; exact ⟨sL,KR⟩
  ·intro b hb
   have Cr:g=b:=by simpa [Value.ownBlock] using hb
   subst Cr
   intro wB
   simp only [List.mem_append] at wB qA
   rcases wB with h | h | h
   ·exact qA (.inl h)
   ·exact MU h
   ·exact qA (.inr (.inr h))
section
variable {P:Program} {N:Nat} {pr:Nat→Prop} {ev:Operand→LV} {m:Mem} {d:Option Nat} {x y:Operand} {t ty:TypeId} {pos:String} {af:Array Edge} {gd:Option (Nat × Bool)} {e0 k id n i o0 id2 e' k':Nat} {os:List (Nat × Nat × Nat)} {xs cs ys:List LV}
theorem FT (hx:ev x=.bE id n i o0) (hm:m id=some (.nest e0 k os xs)) (hn:n=xs.length) (hz:xs[i]?=some (.agg cs)) (hc:cs[o0]?=some (.ak k' ys)) (hl:os.lookup o0=some (e',k')) (bC:m id2=.none) (ht:tok P t=true) (ha:tagg P t=false) :
  bm P pr ⟨d,.load t x,ty,pos,af,gd⟩ ev m (.arr id2 ys.length) ((m.put id (.nest e0 k os (xs.set i (.agg (cs.set o0 .eB))))).put id2 (.arr e' k' ys)):=by
 have ep:id ≠ id2:=fun h=>by rw [h,bC] at hm; cases hm
 refine bm.value fun c a bw hM=>?_
 have hv:=bw x (by simp [Op.operands])
 rw [hx] at hv
 have im:=hM.gr id
 rw [hm] at im
 obtain ⟨g,cap,cur,v,bp,bs,bq,hB,hg,hcs,kf,hk,By,kz,tP,q9,hnd,qA,oo⟩:=pB im hz
 have he:=iX hv hB hn
 obtain ⟨dr,ws,h1,rfl,hC⟩:=q9
 cases h1
 have sz:(cur.toList.drop (i * k)).take k=ws:=by simpa [Value.cells] using tP
 obtain ⟨w,cp,cb,cq,g1,rfl,g3,g4⟩:=hC.at hc
 have hcell:=nm hg sz g1
 rw [Nat.zero_add] at g3 g4
 unfold fq at g3
 rw [hl] at g3
 obtain ⟨us,DL,bd,zk,KQ,E2,rfl⟩:∃ us,0<k'∧c.w.ownsRow 0 e' k' w ys.length (flat us)∧aC c ys us∧(∀ u ∈ us,u.cells.size=k'∧∀ y ∈ u.cells,y.oneCell'=true)∧LV.bj ys=true∧cb=w.ownBlock.toList:=by
  rcases g3 with ⟨h,_⟩ | ⟨UD,us,h,q0,q1,q2,q3,q4,q5⟩
  ·cases h
  ·cases h; exact ⟨us,q0,q1,q2,q3,q4,q5⟩
 have dD:(Instr.loadAt t (a.eval x)).run P c.w=.ok w c.w:=by
  rw [he]
  exact (fW (cs:=[.eB]) (vs:=[w]) (c:=c) ht (by simp [aC,au]) (fun j v hj=>by
   cases j with
   | zero=>simp at hj; subst hj; simpa using hcell
   | succ j=>simp at hj)).2 ha w [] rfl
 have vz:=hM.fresh bC
 have ox:∀ b,b ∈ bp++((cp++([]++cq))++bq)→b ∈ bp++((cp++(w.ownBlock.toList++cq))++bq):=fun b hb=>by
  simp only [List.mem_append,List.nil_append] at hb ⊢
  rcases hb with h | (h | h) | h <;> simp [h]
 have ou:(bp++((cp++([]++cq))++bq)).Nodup:=by
  refine List.Nodup.sublist ?_ hnd
  refine List.Sublist.append (List.Sublist.refl _) (List.Sublist.append (List.Sublist.append (List.Sublist.refl _) ?_) (List.Sublist.refl _))
  exact List.Sublist.append (List.nil_sublist _) (List.Sublist.refl _)
 have pq:ws.set o0 w=ws:=by
  obtain ⟨dN,hw⟩:=List.getElem?_eq_some_iff.1 g1
  rw [← hw]; exact List.set_getElem_self dN
 obtain ⟨c',hw,Q9,Mz,h2,h3⟩:=hM.Io (pr:=pr) id id2 ep (.nest e0 k os (xs.set i (.agg (cs.set o0 .eB)))) (.arr e' k' ys) (.arr (.slice (some ⟨g,0,.none⟩) xs.length cap) k xs.length (bp++((cp++([]++cq))++bq))) (.arr w k' ys.length []) c.w rfl rfl rfl (Nat.le_refl _) (Nat.le_refl _)
  (fun b _ _ _=>rfl)
  (fun b hb=>by
   rcases hb with hb | hb
   ·rcases hb with hb | hb
    ·exact .inl ⟨_,hB,.inl hb⟩
    ·exact .inl ⟨_,hB,.inr (ox b hb)⟩
   ·rcases hb with hb | hb
    ·exact .inl ⟨_,hB,.inr (by simp [hb])⟩
    ·cases hb)
  (fun b hb cL=>by
   have ED:w.ownBlock=some b:=by
    rcases cL with h | h
    ·exact h
    ·cases h
   rcases hb with hb | hb
   ·have:g=b:=by simpa [Value.ownBlock] using hb
    subst this
    exact qA (by simp [ED])
   ·have n1:=List.nodup_append.1 hnd
    have n2:=List.nodup_append.1 n1.2.1
    have n3:=List.nodup_append.1 n2.1
    have n4:=List.nodup_append.1 n3.2.1
    have DK:b ∈ w.ownBlock.toList:=by simp [ED]
    simp only [List.mem_append,List.nil_append] at hb
    rcases hb with h | (h | h) | h
    ·exact n1.2.2 b h b (by simp [ED]) rfl
    ·exact n3.2.2 b h b (by simp [ED]) rfl
    ·exact n4.2.2 b DK b h rfl
    ·exact n2.2.2 b (by simp [ED]) b h rfl)
  (by rw [hB]; exact ⟨_,_,_,rfl,Nat.le_refl _,fun _=>rfl⟩) (by rw [vz]; trivial) (fun _ di h0=>by rw [hB] at h0; cases h0; exact ⟨_,_,_,rfl,Nat.le_refl _,fun _=>rfl⟩) (fun _ di h0=>by rw [vz] at h0; cases h0)
  (fun c' hw hle dw _=>by
   refine oo c' _ (.agg ws.toArray) _ hle ?_ (fun q _=>by rw [hw]) By kz ⟨_,ws,rfl,rfl,?_⟩ ou (fun h=>qA (by
    simp only [List.mem_append,List.nil_append] at h ⊢
    rcases h with h | h <;> simp [h]))
   ·rw [hw,hg]
    congr 2
    apply Array.toList_inj.1
    simp only [List.toList_toArray]
    rw [← tP,← List.drop_drop,List.append_assoc,List.take_append_drop,List.take_append_drop]
   ·have:=g4 (c':=c') (x':=.eB) (w':=w) (b':=[]) hle (fun r _=>by rw [hw]) (by unfold fq; rw [hl]; exact .inl ⟨rfl,rfl⟩)
    rw [pq] at this
    exact this)
  (fun c' hw hle dw=>by
   simp only [br]
   exact ⟨w,us,rfl,DL,by rw [hw]; exact bd,aC.mono hle ys us (fun j hj=>by rw [ay ys E2] at hj; cases hj) zk,KQ,E2⟩)
 refine ⟨w,c',by rw [hw]; simp [execOp,dD],?_,h2,h3⟩
 simp only [au]
 refine ⟨?_,_,_,_,_,Mz,Nat.le_refl _,fun _=>rfl⟩
 obtain ⟨ad,Mx,Fj⟩:=du bd
 rw [Fj]; rfl
theorem HZ {n2:Nat} (hx:ev x=.bE id n i o0) (hm:m id=some (.nest e0 k os xs)) (hn:n=xs.length) (hz:xs[i]?=some (.agg cs)) (hc:cs[o0]?=some .eB) (hl:os.lookup o0=some (e',k')) (hy:ev y=.arr id2 n2) (jc:m id2=some (.arr e' k' ys)) (HC:n2=ys.length) (sI:¬ pr id2) (ht:tok P t=true) (hs:tsize P t=1) :
  bm P pr ⟨.none,.store t x y,ty,pos,af,gd⟩ ev m .eB ((m.put id (.nest e0 k os (xs.set i (.agg (cs.set o0 (.ak k' ys)))))).put id2 .dead):=by
 have ep:id ≠ id2:=fun h=>by rw [h,jc] at hm; cases hm
 refine bm.skip rfl fun c a bw hM=>?_
 have hv:=bw x (by simp [Op.operands])
 rw [hx] at hv
 have oX:=bw y (by simp [Op.operands])
 rw [hy] at oX
 obtain ⟨us,vz,DL,bd,zk,KQ,E2⟩:=gf hM oX jc HC
 have im:=hM.gr id
 rw [hm] at im
 obtain ⟨g,cap,cur,v,bp,bs,bq,hB,hg,hcs,kf,hk,By,kz,tP,q9,hnd,qA,oo⟩:=pB im hz
 have he:=iX hv hB hn
 obtain ⟨dr,ws,h1,rfl,hC⟩:=q9
 cases h1
 have BA:ws.length=k:=by simpa [Value.cells] using By
 have sz:(cur.toList.drop (i * k)).take k=ws:=by simpa [Value.cells] using tP
 obtain ⟨w0,cp,cb,cq,g1,rfl,g3,g4⟩:=hC.at hc
 rw [Nat.zero_add] at g3 g4
 have MN:cb=[]:=by
  unfold fq at g3
  rw [hl] at g3
  rcases g3 with ⟨_,h⟩ | ⟨_,_,h,_⟩
  ·exact h
  ·cases h
 subst MN
 have gv:o0<k:=by rw [← BA]; exact (List.getElem?_eq_some_iff.1 g1).1
 have hi:i<xs.length:=(List.getElem?_eq_some_iff.1 hz).1
 have Kj:i * k+k≤cur.size:=by
  have h1:=Nat.mul_le_mul_right k (show i+1≤cap by omega)
  rw [Nat.add_mul,Nat.one_mul] at h1; omega
 have ue:(a.eval y).oneCell'=true:=by
  obtain ⟨ad,Mx,Fj⟩:=du bd
  rw [Fj]; rfl
 have CN:=dm ue
 have dD:=iR (P:=P) (t:=t) (v:=a.eval y) (off:=i * k+o0) ht (by rw [hs,CN]; rfl) hg (by rw [CN]; simp; omega) (by rw [CN]; simpa using ue)
 rw [CN] at dD
 have iE:=qK (w':=a.eval y) sz (by simpa using Kj) gv
 have ow:(cur.toList.take (i * k+o0)++[a.eval y]++cur.toList.drop (i * k+o0+1))=cur.toList.take (i * k)++(Value.agg (ws.set o0 (a.eval y)).toArray).cells.toList++cur.toList.drop (i * k+k):=by rw [iE]; simp [Value.cells]
 -- the block of the slice is not one of the P0
 have oq:∀ b,(a.eval y).ownBlock=some b→b ≠ g∧b ∉ bp++((cp++([]++cq))++bq):=fun b hb=>by
  constructor
  ·intro Cr
   exact ep (hM.inj id id2 _ _ b hB vz (.inl (by rw [Cr]; rfl)) (.inl hb))
  ·intro DK
   exact ep (hM.inj id id2 _ _ b hB vz (.inr DK) (.inl hb))
 have ou:(bp++((cp++((a.eval y).ownBlock.toList++cq))++bq)).Nodup:=by
  cases hb:(a.eval y).ownBlock with
  | none=>simpa [hb] using hnd
  | some b =>
   have hf:=(oq b hb).2
   have hp:(bp++((cp++((some b).toList++cq))++bq)).Perm (b :: (bp++((cp++([]++cq))++bq))):=by
    simp only [Option.toList_some,List.singleton_append,List.nil_append]
    refine (List.Perm.append_left bp ?_).trans (List.perm_middle)
    rw [List.append_assoc,List.append_assoc,List.cons_append]
    exact List.perm_middle
   exact hp.nodup_iff.2 (List.nodup_cons.2 ⟨hf,hnd⟩)
 obtain ⟨c',hw,Q9,Mz,h2,h3⟩:=hM.Io (pr:=pr) id id2 ep (.nest e0 k os (xs.set i (.agg (cs.set o0 (.ak k' ys))))) .dead (.arr (.slice (some ⟨g,0,.none⟩) xs.length cap) k xs.length (bp++((cp++((a.eval y).ownBlock.toList++cq))++bq))) (.arr (.slice .none 0 0) k' (ys.length+1) []) (c.w.setRow g (cur.toList.take (i * k+o0)++[a.eval y]++cur.toList.drop (i * k+o0+1)).toArray) rfl rfl rfl (Nat.le_refl _) (by simp)
  (fun b _ h1 _=>setRow_other _ _ _ _ (fun Cr=>h1 _ hB (.inl (by rw [Cr]; rfl))))
  (fun b hb=>by
   rcases hb with hb | hb
   ·rcases hb with hb | hb
    ·exact .inl ⟨_,hB,.inl hb⟩
    ·simp only [List.mem_append,Option.mem_toList] at hb
     rcases hb with h | (h | h | h) | h
     ·exact .inl ⟨_,hB,.inr (by simp [h])⟩
     ·exact .inl ⟨_,hB,.inr (by simp [h])⟩
     ·exact .inr (.inl ⟨_,vz,.inl h⟩)
     ·exact .inl ⟨_,hB,.inr (by simp [h])⟩
     ·exact .inl ⟨_,hB,.inr (by simp [h])⟩
   ·rcases hb with hb | hb
    ·simp [Value.ownBlock] at hb
    ·cases hb)
  (fun b _ cL=>by
   rcases cL with hb | hb
   ·simp [Value.ownBlock] at hb
   ·cases hb)
  (by rw [hB]; exact ⟨_,_,_,rfl,Nat.le_refl _,fun _=>rfl⟩) (by rw [vz]; exact ⟨_,_,_,rfl,by omega,fun h=>by omega⟩) (fun _ di h0=>by rw [hB] at h0; cases h0; exact ⟨_,_,_,rfl,Nat.le_refl _,fun _=>rfl⟩) (fun h=>absurd h sI)
  (fun c' hw hle dw _=>by
   have Af:∀ b,b ≠ g→c'.w.heap[b]?=c.w.heap[b]?:=fun b hb=>by rw [hw]; exact setRow_other _ _ _ _ hb
   refine oo c' _ (.agg (ws.set o0 (a.eval y)).toArray) _ hle (by rw [hw,ow]; exact setRow_heap c.w g _ _ e0 _ hg) (fun q hq=>Af q (fun Nk=>qA (by rw [← Nk]; simp at hq ⊢; rcases hq with h | h <;> simp [h]))) (by simp [Value.cells,BA]) (fun q hq=>by
    simp only [Value.cells] at hq kz
    have oW:q ∈ ws.set o0 (a.eval y):=by simpa using hq
    rcases List.mem_or_eq_of_mem_set oW with h | h
    ·exact kz q (by simpa using h)
    ·rw [h]; exact ue) ⟨_,_,rfl,rfl,?_⟩ ou (fun h=>?_)
   ·refine g4 (c':=c') (x':=.ak k' ys) (w':=a.eval y) (b':=(a.eval y).ownBlock.toList) hle (fun r hr=>Af r (fun Nn=>qA (by rw [← Nn]; simp at hr ⊢; rcases hr with h | h <;> simp [h]))) ?_
    unfold fq
    rw [hl]
    exact .inr ⟨ys,us,rfl,DL,dF bd (fun b hb=>Af b (oq b hb).1),aC.mono hle ys us (fun j hj=>by rw [ay ys E2] at hj; cases hj) zk,KQ,E2,rfl⟩
   ·simp only [List.mem_append,Option.mem_toList] at h
    rcases h with h | h | h
    ·exact qA (by simp [h])
    ·exact (oq g h).1 rfl
    ·exact qA (by simp [h]))
  (fun c' hw hle dw=>by simp only [br]; exact ⟨_,_,_,rfl,rfl⟩)
 refine ⟨c',?_,h2,h3⟩
 rw [hw]
 simp [execOp,he,dD]
end
end Go.L
namespace Go.L
section
variable {P:Program} {N:Nat} {pr:Nat→Prop} {ev:Operand→LV} {m m':Mem} {d:Option Nat} {x y:Operand} {t ty:TypeId} {pos:String} {af:Array Edge} {gd:Option (Nat × Bool)} {lv:LV}
end
end Go.L
namespace Go.L
section
variable {P:Program} {N:Nat} {pr:Nat→Prop} {ev:Operand→LV} {m m':Mem} {d:Option Nat} {x y:Operand} {t ty:TypeId} {pos:String} {af:Array Edge} {gd:Option (Nat × Bool)} {lv:LV} {α β:Type} {f:α→LV} {g:β→LV} {e0 k id n:Nat} {os:List (Nat × Nat × Nat)} {xs:List α} {u:Int} {z0:α} {cs:List LV} {o0:Nat} {z:LV}
theorem pb (h:idx xs u=some z0):some (LE.nest e0 k os (xs.map f))=some (LE.nest e0 k os ((xs.map f).set u.toNat (f z0))):=by
 obtain ⟨_,h2⟩:=dC h
 obtain ⟨h3,h4⟩:=List.getElem?_eq_some_iff.1 h2
 have:(xs.map f).set u.toNat (f z0)=xs.map f:=by
  rw [← List.map_set,← h4,List.set_getElem_self]
 rw [this]
theorem b4 (h:idx xs u=some z0) {w:LV}:((xs.map f).set u.toNat w)[u.toNat]?=some w:=by
 obtain ⟨_,h2⟩:=dC h
 have h3:=(List.getElem?_eq_some_iff.1 h2).1
 rw [List.getElem?_set_self (by simpa using h3)]
theorem Il {z':α} {ys:List α} (hz:f z'=.agg cs) (hy:ys=xs.set u.toNat z'):some (LE.nest e0 k os ((xs.map f).set u.toNat (.agg cs)))=some (LE.nest e0 k os (ys.map f)):=by
 rw [hy,List.map_set,hz]
theorem Lu {z':LV} {ls:List LV} {i:Nat} (hx:ev x=.bE id n i o0) (hm:m id=some (.nest e0 k os (ls.set i (.agg cs)))) (hn:n=ls.length) (hz:(ls.set i (.agg cs))[i]?=some (.agg cs)) (hc:cs[o0]?=some z) (hl:os.lookup o0=.none) (hy:ev y=z') (wC:z'.scalar=true) (hp:z'.pure=true) (ht:tok P t=true) (hs:tsize P t=1) {dr:List LV} (hcs:cs.set o0 z'=dr) :
  bm P pr ⟨.none,.store t x y,ty,pos,af,gd⟩ ev m .eB (m.put id (.nest e0 k os (ls.set i (.agg dr)))):=by
 subst hcs
 have:=Lv (pr:=pr) (ty:=ty) (pos:=pos) (af:=af) (gd:=gd) hx hm (by simpa using hn) hz hc hl hy wC hp ht hs
 rwa [List.set_set] at this
theorem Ay {e' k':Nat} {ys:List β} {ls:List LV} {i:Nat} (hx:ev x=.bE id n i o0) (hm:m id=some (.nest e0 k os ls)) (hn:n=ls.length) (hz:ls[i]?=some (.agg cs)) (hc:cs[o0]?=some (.ak k' (ys.map g))) (hl:os.lookup o0=some (e',k')) (ht:tok P t=true) (ha:tagg P t=false):bm P pr ⟨d,.load t x,ty,pos,af,gd⟩ ev m (.pL ys.length) m:=by
 have:=Lr (pr:=pr) (d:=d) (ty:=ty) (pos:=pos) (af:=af) (gd:=gd) hx hm hn hz hc hl ht ha
 rwa [List.length_map] at this
theorem td {e' k' id2:Nat} {ys:List β} {ls:List LV} {i:Nat} (hx:ev x=.bE id n i o0) (hm:m id=some (.nest e0 k os (ls.set i (.agg cs)))) (hn:n=ls.length) (hz:(ls.set i (.agg cs))[i]?=some (.agg cs)) (hc:cs[o0]?=some (.ak k' (ys.map g))) (hl:os.lookup o0=some (e',k')) (bC:m id2=.none) (ht:tok P t=true) (ha:tagg P t=false) {dr:List LV} (hcs:cs.set o0 .eB=dr) :
  bm P pr ⟨d,.load t x,ty,pos,af,gd⟩ ev m (.arr id2 ys.length) ((m.put id (.nest e0 k os (ls.set i (.agg dr)))).put id2 (.arr e' k' (ys.map g))):=by
 subst hcs
 have:=FT (pr:=pr) (d:=d) (ty:=ty) (pos:=pos) (af:=af) (gd:=gd) hx hm (by simpa using hn) hz hc hl bC ht ha
 rwa [List.length_map,List.set_set] at this
theorem vQ {e' k' id2 n2:Nat} {ys:List β} {ls:List LV} {i:Nat} (hx:ev x=.bE id n i o0) (hm:m id=some (.nest e0 k os (ls.set i (.agg cs)))) (hn:n=ls.length) (hz:(ls.set i (.agg cs))[i]?=some (.agg cs)) (hc:cs[o0]?=some .eB) (hl:os.lookup o0=some (e',k')) (hy:ev y=.arr id2 n2) (jc:m id2=some (.arr e' k' (ys.map g))) (HC:n2=ys.length) (sI:¬ pr id2) (ht:tok P t=true) (hs:tsize P t=1) {dr:List LV} (hcs:cs.set o0 (.ak k' (ys.map g))=dr) :
  bm P pr ⟨.none,.store t x y,ty,pos,af,gd⟩ ev m .eB ((m.put id (.nest e0 k os (ls.set i (.agg dr)))).put id2 .dead):=by
 subst hcs
 have:=HZ (pr:=pr) (ty:=ty) (pos:=pos) (af:=af) (gd:=gd) hx hm (by simpa using hn) hz hc hl hy jc (by simpa using HC) sI ht hs
 rwa [List.set_set] at this
theorem Lp {el kk:Nat} {kd:IntKind} (he:telem P t=some el) (hk:tok P el=true) (hs:tsize P el=kk) (hx:ev x=.arr id n) (hm:m id=some (.nest el kk os (xs.map f))) (hn:n=xs.length) (hy:ev y=.int kd u) (hz:idx xs u=some z0) :
  bm P pr ⟨d,.indexAddr t x y,ty,pos,af,gd⟩ ev m (.bE id n u.toNat 0) m:=by
 obtain ⟨h0,h2⟩:=dC hz
 exact Lq he hk hs hx hm (by simpa using hn) hy h0 (by simpa using (List.getElem?_eq_some_iff.1 h2).1)
theorem Ls {kd S3:IntKind} {u w:Int} {ts:Array TypeId} (hx:ev x=.int kd u) (hy:ev y=.int S3 w):bm P pr ⟨d,.call ⟨.builtin .min,#[x,y],ts⟩,ty,pos,af,gd⟩ ev m (.int kd (min u w)) m:=by
 refine bm.value fun c a bw hM=>?_
 have hv:=bw x (by simp [Op.operands,Call.operands])
 have hw:=bw y (by simp [Op.operands,Call.operands])
 rw [hx] at hv
 rw [hy] at hw
 simp only [au] at hv hw
 have RO:(if w<u then w else u)=min u w:=by omega
 exact ⟨.int kd (min u w),c,by simp [execOp,resolve,invoke,builtin,Builtin.min_,Builtin.min2,hv,hw,RO],by simp [au],hM,Step.refl pr c⟩
theorem FQ {kd S3:IntKind} {u w:Int} {ts:Array TypeId} (hx:ev x=.int kd u) (hy:ev y=.int S3 w):bm P pr ⟨d,.call ⟨.builtin .max,#[x,y],ts⟩,ty,pos,af,gd⟩ ev m (.int kd (max u w)) m:=by
 refine bm.value fun c a bw hM=>?_
 have hv:=bw x (by simp [Op.operands,Call.operands])
 have hw:=bw y (by simp [Op.operands,Call.operands])
 rw [hx] at hv
 rw [hy] at hw
 simp only [au] at hv hw
 have RO:(if w > u then w else u)=max u w:=by omega
 exact ⟨.int kd (max u w),c,by simp [execOp,resolve,invoke,builtin,Builtin.max_,Builtin.max2,hv,hw,RO],by simp [au],hM,Step.refl pr c⟩
end
end Go.L
namespace Go.L
theorem bU.re {c:Cx} {m:Mem} (h:bU c m) {kx:Nat} {cs dr:List LV} (hm:m kx=some (.box cs)) {vs:List Value} {b:Nat} {e:TypeId} (hB:c.B kx=some (.box b cs.length)) (hh:c.w.heap[b]?=some (.cells vs.toArray e (0,0))) (hl:aC c dr vs) (h1:∀ v ∈ vs,v.oneCell'=true) (hn:dr.length=cs.length):bU c (m.put kx (.box dr)):=by
 refine ⟨fun i=>?_,h.inj,h.jG,h.o3,h.cN⟩
 by_cases hi:i=kx
 ·subst hi
  simp only [Mem.put,if_true,br]
  exact ⟨b,vs,e,by rw [hn]; exact hB,hh,hl,h1⟩
 ·simp only [Mem.put,hi,if_false]
  exact h.gr i
theorem tA {c:Cx}:∀ (cs:List LV) (vs:List Value),aC c cs vs→aC c (cs.map fun _=>LV.eB) vs
 | [],vs,h=>by simpa only [aC,List.map_nil] using h
 | x :: xs,vs,h=>by
  simp only [aC,List.map_cons] at h ⊢
  obtain ⟨v,fH,rfl,h1,h2⟩:=h
  exact ⟨v,fH,rfl,by simp [au],tA xs fH h2⟩
theorem oF {id:Nat}:∀ (cs:List LV),LV.cj id (cs.map fun _=>LV.eB)=true
 | []=>by simp [LV.cj]
 | x :: xs=>by simp [LV.cj,LV.a7,oF xs]
theorem pc {id k:Nat} {xs:List LV}:∀ (cs:List LV),(LV.fO id k xs cs).length=cs.length
 | []=>by simp [LV.fO]
 | x :: cs=>by simp [LV.fO,pc cs]
def Ez (id kx:Nat) (ml:List (Nat × LE)):Bool:=ml.all fun q=>q.1 == id || q.1 == kx || match q.2 with | .box cs=>LV.cj id cs | .arr _ _ _=>true | .map _ _ _=>true | .nest _ _ _ _=>true | .cU _ _ _ _ _ _ id2 _=>id2 != id | .dead=>true
theorem Wk.gO {pr:Nat→Prop} {el:List (Nat × LV)} {ml:List (Nat × LE)} {α:Type} {f:α→LV} (id e k:Nat) (xs:List α) (kx:Nat) {cs dr:List LV} (bC:Mem.of ml id=some (.arr e k (xs.map f))) (hb:Mem.of ml kx=some (.box cs)) (ep:(kx == id)=false) (hcs:LV.fO id k (xs.map f) cs=dr) (jX:Ez id kx ml=true) (z7:(el.all fun p=>p.2.a7 id)=true) (lX:¬ pr id) :
  Wk pr (Env.of el) (Mem.of ml) (Env.of el) (((Mem.of ml).del id).put kx (.box dr)):=by
 intro N c a bQ
 have ep:kx ≠ id:=by simpa using ep
 obtain ⟨b,vs,e1,zf,hh,hl,h1⟩:=iV bQ.mem hb
 have iv:=bQ.mem.re (dr:=cs.map fun _=>LV.eB) hb zf hh (tA cs vs hl) h1 (by simp)
 obtain ⟨c',hw,hO,gW,hV,bd,hX,hB⟩:=iv.del id (by
  intro i ds hi hd
  by_cases CB:i=kx
  ·subst CB
   simp only [Mem.put,if_true,Option.some.injEq] at hd
   rw [← hd]; exact oF cs
  ·simp only [Mem.put,CB,if_false] at hd
   have:=List.all_eq_true.1 jX _ (fl hd)
   cases ds with
   | box cs=>simpa [hi,CB,LE.kN] using this
   | cU _ _ _ _ _ _ _ _=>simpa [hi,CB,LE.kN] using this
   | _=>rfl)
 have hle:c.Le c':=Cx.sub_le hw hO bd
 have Rt:∀ v,au c (.arr id (xs.map f).length) v→au c' (.ak k (xs.map f)) v:=by
  intro v hv
  obtain ⟨us,UT,hk,hZ,hl,hc,hp⟩:=gf bQ.mem hv bC rfl
  simp only [au]
  have iD:=aC.mono hle (xs.map f) us (fun j hj=>by rw [ay _ hp] at hj; cases hj) hl
  rcases hZ.2 with ⟨rfl,h0⟩ | ⟨g,cap,cur,rfl,_,hg,kf,_⟩
  ·exact ⟨.none,0,by rw [h0],by omega,fun _=>rfl,hp,.inl (List.eq_nil_of_length_eq_zero h0)⟩
  ·refine ⟨some ⟨g,0,.none⟩,cap,rfl,kf,by simp,hp,.inr ⟨g,0,us,rfl,by rw [hw]; exact (Array.getElem?_eq_some_iff.1 hg).1,hX g _ UT (.inl rfl),iD,hc,?_⟩⟩
   rw [hw]; exact cR hZ rfl
 have DM:aC c' dr vs:=by rw [← hcs]; exact jO hV Rt cs vs hl
 have hlen:dr.length=cs.length:=by rw [← hcs,pc]
 have jc:=gW.re (kx:=kx) (cs:=cs.map fun _=>LV.eB) (dr:=dr) (by simp [Mem.del,Mem.put,ep]) (by rw [hB kx ep]; simpa using zf) (by rw [hw]; exact hh) DM h1 (by simpa using hlen)
 have gu:(((Mem.of ml).put kx (.box (cs.map fun _=>LV.eB))).del id).put kx (.box dr)=((Mem.of ml).del id).put kx (.box dr):=by
  funext i
  simp only [Mem.put,Mem.del]
  by_cases CB:i=kx <;> simp [CB]
 rw [gu] at jc
 refine ⟨c',hw,⟨fun i=>hV _ _ ?_ (bQ.env i),jc,bQ.size,bQ.defers⟩,?_⟩
 ·clear bQ
  induction el with
  | nil=>simp [Env.of,LV.a7]
  | cons p el ih =>
   simp only [List.all_cons,Bool.and_eq_true] at z7
   simp only [Env.of]
   split
   ·exact z7.1
   ·exact ih z7.2
 ·refine Cx.mE hw hO bd (fun i be Ai hb=>?_)
  exact ⟨be,by rw [hB i (fun h=>lX (h ▸ Ai))]; exact hb,.refl be⟩
theorem kZ {id k:Nat} {ys:List LV}:LV.fO id k ys []=[]:=by simp [LV.fO]
theorem cn {id k:Nat} {ys:List LV} {x:LV} {cs dr:List LV} (h:x.a7 id=true) (hr:LV.fO id k ys cs=dr):LV.fO id k ys (x :: cs)=x :: dr:=by
 simp only [LV.fO,oh x h,hr]
theorem k5 {α:Type} {f:α→LV} {id k:Nat} {ys:List α} {cs dr:List LV} (hr:LV.fO id k (ys.map f) cs=dr):LV.fO id k (ys.map f) (.arr id ys.length :: cs)=.ak k (ys.map f) :: dr:=by
 simp [LV.fO,LV.eE,hr]
section
variable {α β γ:Type} {n:Nat} {v w:Option (α × List β)}
end
end Go.L
namespace Go.L
section
variable {P:Program} {N:Nat} {pr:Nat→Prop} {ev:Operand→LV} {m m':Mem} {d:Option Nat} {x y z:Operand} {t ty:TypeId} {pos:String} {af:Array Edge} {gd:Option (Nat × Bool)} {lv:LV} {α β:Type} {f:α→LV} {g:β→LV} {e0 k id n:Nat} {os:List (Nat × Nat × Nat)} {xs:List α} {u:Int} {z0:α} {cs:List LV} {o0:Nat}
theorem cd.mem {o:Oper} {m2:Mem} (h:cd P pr o ev m lv m') (hs:∀ c,bU c m'→bU c m2):cd P pr o ev m lv m2:=by
 intro c a Q bw hm
 refine Oper.wp_mono ?_ (h c a Q bw hm)
 rintro a' w' ⟨v,c',h1,h2,h3,h4,h5⟩
 exact ⟨v,c',h1,h2,h3,hs c' h4,h5⟩
end
theorem bU.Tm {c:Cx} {m:Mem} {id e k:Nat} {xs ys:List LV} (hs:fu xs ys) (hp:LV.bj ys=true) (h:bU c (m.put id (.arr e k xs))):bU c (m.put id (.arr e k ys)):=by
 refine ⟨fun i=>?_,h.inj,h.jG,h.o3,h.cN⟩
 have he:=h.gr i
 by_cases hi:i=id
 ·subst hi
  simp only [Mem.put,if_true,br] at he ⊢
  obtain ⟨u,vs,h1,h2,h3,h4,h5,h6⟩:=he
  have hl:ys.length=xs.length:=by rw [h4.length,(hs.rep h4).length]
  exact ⟨u,vs,by rw [hl]; exact h1,h2,by rw [hl]; exact h3,hs.rep h4,h5,hp⟩
 ·simp only [Mem.put,hi,if_false] at he ⊢
  exact he
theorem fu.PY {x y:LV} (h:Sub x y):∀ n,fu (List.replicate n x) (List.replicate n y)
 | 0=>trivial
 | n+1=>⟨h,fu.PY h n⟩
end Go.L
namespace Go.L
def zK:Option BE→Option BE
 | some (.arr u k len _)=>some (.arr (.slice .none 0 0) k (len+1) [])
 | y=>y
def Mem.gone (m:Mem) (id:Nat) (le:LE) (S:List Nat):Mem:=fun i=>if i=id then some le else if i ∈ S then some .dead else m i
theorem bU.LQ {pr:Nat→Prop} {c:Cx} {m:Mem} (h:bU c m) (id:Nat) (S:List Nat) (hS:id ∉ S) (Rn:∀ j ∈ S,∃ u k len ins,c.B j=some (.arr u k len ins)) (Rp:∀ j ∈ S,¬ pr j) (le:LE) (be:BE) (w':World)
  (DO:w'.os=c.w.os) (pt:w'.tape=c.w.tape) (ov:w'.output=c.w.output) (xd:c.w.drawn≤w'.drawn) (fh:c.w.heap.size≤w'.heap.size)
  (gl:∀ b,b<c.w.heap.size→(∀ di,c.B id=some di→¬ di.has b)→w'.heap[b]?=c.w.heap[b]?)
  (hblk:∀ b,be.has b→(∃ di,c.B id=some di∧di.has b) ∨ (∃ j ∈ S,∃ di,c.B j=some di∧di.has b) ∨ c.w.heap.size≤b)
  (hle:jk (c.B id) (some be)) (lX:pr id→∀ di,c.B id=some di→di.kI be)
  (im:∀ c':Cx,c'.w=w'→c.Le c'→(∀ i,jk (c.B i) (c'.B i))→c'.OQ c→(∀ b,c'.own b→be.has b ∨ ∃ j di,j ≠ id∧c.B j=some di∧di.has b)→br c' (some le) (some be)) :
  ∃ c':Cx,c'.w=w'∧c'.B id=some be∧bU c' (m.gone id le S)∧Step pr c c':=by
 let c':Cx:=⟨w',fun i=>if i=id then some be else if i ∈ S then zK (c.B i) else c.B i,c.O,c.Q⟩
 have e1:c'.B id=some be:=by simp [c']
 have e2:∀ i,i ∈ S→c'.B i=zK (c.B i):=fun i hi=>by
  have:i ≠ id:=fun h=>hS (h ▸ hi)
  simp [c',this,hi]
 have e3:∀ i,i ≠ id→i ∉ S→c'.B i=c.B i:=fun i h1 h2=>by simp [c',h1,h2]
 have key:∀ i b1 b,c'.B i=some b1→b1.has b→(i=id∧be.has b) ∨ (i ≠ id∧i ∉ S∧c.B i=some b1):=by
  intro i b1 b g1 g2
  by_cases hi:i=id
  ·subst hi; rw [e1] at g1; cases g1; exact .inl ⟨rfl,g2⟩
  ·by_cases hs:i ∈ S
   ·rw [e2 i hs] at g1
    obtain ⟨u,k,len,ins,hB⟩:=Rn i hs
    rw [hB] at g1
    simp only [zK,Option.some.injEq] at g1
    subst g1
    rcases g2 with g2 | g2
    ·simp [Value.ownBlock] at g2
    ·cases g2
   ·rw [e3 i hi hs] at g1; exact .inr ⟨hi,hs,g1⟩
 have bd:∀ b,c'.own b→c.own b ∨ c.w.heap.size≤b:=by
  rintro b ⟨i,ey,h1,h2⟩
  rcases key i ey b h1 h2 with ⟨_,h3⟩ | ⟨_,_,h3⟩
  ·rcases hblk b h3 with ⟨di,q1,q2⟩ | ⟨j,_,di,q1,q2⟩ | q
   ·exact .inl ⟨id,di,q1,q2⟩
   ·exact .inl ⟨j,di,q1,q2⟩
   ·exact .inr q
  ·exact .inl ⟨i,ey,h3,h2⟩
 have jx:Grow pr c c':=by
  refine ⟨rfl,DO,pt,ov,xd,fh,fun b hb ho _=>gl b hb (fun di h0 h1=>ho ⟨id,di,h0,h1⟩),fun _ _ _ h=>h,fun _ h=>.inl h,bd,fun i ey hp hb=>?_⟩
  by_cases hi:i=id
  ·subst hi; exact ⟨be,e1,lX hp ey hb⟩
  ·have hs:i ∉ S:=fun hs=>Rp i hs hp
   exact ⟨ey,by rw [e3 i hi hs]; exact hb,.refl ey⟩
 have lI:gM c c':=h.Fx ⟨rfl,rfl⟩ fun b hb ho=>gl b hb (fun di h0 h1=>ho ⟨id,di,h0,h1⟩)
 have lW:=jx.le lI
 have dw:∀ i,jk (c.B i) (c'.B i):=by
  intro i
  by_cases hi:i=id
  ·subst hi; rw [e1]; exact hle
  ·by_cases hs:i ∈ S
   ·rw [e2 i hs]
    obtain ⟨u,k,len,ins,hB⟩:=Rn i hs
    rw [hB]
    exact ⟨_,_,_,rfl,by omega,fun h=>by omega⟩
   ·rw [e3 i hi hs]; exact jk.refl _
 have uF:∀ b,c'.own b→be.has b ∨ ∃ j di,j ≠ id∧c.B j=some di∧di.has b:=by
  rintro b ⟨i,ey,h1,h2⟩
  rcases key i ey b h1 h2 with ⟨_,h3⟩ | ⟨q1,_,h3⟩
  ·exact .inl h3
  ·exact .inr ⟨i,ey,q1,h3,h2⟩
 refine ⟨c',rfl,e1,⟨fun i=>?_,?_,?_,?_,h.Uo ⟨rfl,rfl⟩ fh bd⟩,jx,dw,lI⟩
 ·by_cases hi:i=id
  ·subst hi; rw [e1]; simp only [Mem.gone,if_true]; exact im c' rfl lW dw ⟨rfl,rfl⟩ uF
  ·by_cases hs:i ∈ S
   ·rw [e2 i hs]
    simp only [Mem.gone,hi,hs,if_true,if_false,br]
    obtain ⟨u,k,len,ins,hB⟩:=Rn i hs
    rw [hB]
    exact ⟨_,_,_,rfl,rfl⟩
   ·rw [e3 i hi hs]
    simp only [Mem.gone,hi,hs,if_false]
    refine (h.gr i).mono lW dw fun ey b hb qz=>?_
    refine gl b ((h.gr i).lt hb qz) (fun di h0 h1=>?_)
    exact hi (h.inj i id ey di b hb h0 qz h1)
 ·have one:∀ i b1 b,i ≠ id→i ∉ S→c.B i=some b1→b1.has b→be.has b→False:=by
   intro i b1 b h1 h2 h3 h4 h5
   rcases hblk b h5 with ⟨di,q1,q2⟩ | ⟨j,hj,di,q1,q2⟩ | q
   ·exact h1 (h.inj i id b1 di b h3 q1 h4 q2)
   ·exact h2 (h.inj i j b1 di b h3 q1 h4 q2 ▸ hj)
   ·have:=(h.gr i).lt h3 h4; omega
  intro i i' b1 b2 b h1 h2 h3 h4
  rcases key i b1 b h1 h3 with ⟨q1,q2⟩ | ⟨q1,q2,q3⟩
  ·rcases key i' b2 b h2 h4 with ⟨r1,r2⟩ | ⟨r1,r2,r3⟩
   ·rw [q1,r1]
   ·exact (one i' b2 b r1 r2 r3 h4 q2).elim
  ·rcases key i' b2 b h2 h4 with ⟨r1,r2⟩ | ⟨r1,r2,r3⟩
   ·exact (one i b1 b q1 q2 q3 h3 r2).elim
   ·exact h.inj i i' b1 b2 b q3 r3 h3 h4
 ·intro b ho hO
  rcases bd b ho with ho | hs
  ·exact h.jG b ho hO
  ·have:=h.o3 b hO; omega
 ·intro b hO; exact Nat.lt_of_lt_of_le (h.o3 b hO) fh
theorem Wk.GW {pr:Nat→Prop} {el:List (Nat × LV)} {ml:List (Nat × LE)} {α:Type} {f:α→LV} (id e k:Nat) (os:List (Nat × Nat × Nat)) (xs:List α) (bC:Mem.of ml id=some (.nest e k os (xs.map f))) (gv:pU k f) :
  Wk pr (Env.of el) (Mem.of ml) (Env.of el) ((Mem.of ml).gone id (.arr e k (xs.map f)) []):=by
 intro N c a bQ
 have he:=bQ.mem.gr id
 rw [bC] at he
 simp only [br] at he
 obtain ⟨u,vs,bs,hB,hk,bd,hn,hc,hnd,km⟩:=he
 obtain ⟨c',hw,hb,h2,h3⟩:=bQ.mem.LQ (pr:=pr) id [] (by simp) (by simp) (by simp) (.arr e k (xs.map f)) (.arr u k (xs.map f).length []) c.w rfl rfl rfl (Nat.le_refl _) (Nat.le_refl _)
  (fun b _ _=>rfl) (fun b hb=>.inl ⟨_,hB,hb.elim .inl (fun h=>by cases h)⟩) (by rw [hB]; exact ⟨_,_,_,rfl,Nat.le_refl _,fun _=>rfl⟩) (fun _ di h0=>by rw [hB] at h0; cases h0; exact ⟨_,_,_,rfl,Nat.le_refl _,fun _=>rfl⟩)
  (fun c' hw hle dw hO uF=>by
   simp only [br]
   refine ⟨u,vs,rfl,hk,by rw [hw]; exact bd,hn.zP hle hw (fun b hb=>?_),hc,gv.bj xs⟩
   have DI:c.own b:=⟨id,_,hB,.inr hb⟩
   rintro (h | h)
   ·exact bQ.mem.Tc DI (hO.U h)
   ·rcases uF b h with h | ⟨j,di,q1,q2,q3⟩
    ·rcases h with h | h
     ·exact km b h hb
     ·cases h
    ·exact q1 (bQ.mem.inj j id di _ b q2 hB q3 (.inr hb)))
 exact ⟨c',hw,⟨fun i=>h3.wg (bQ.env i),h2,bQ.size,bQ.defers⟩,h3.grow⟩
theorem Wk.uQ {pr:Nat→Prop} {el:List (Nat × LV)} {ml:List (Nat × LE)} (id e k kx j:Nat) {cs dr:List LV} (bC:Mem.of ml id=.none) (hk:Nat.ble 1 k=true) (hb:Mem.of ml kx=some (.box cs)) (hj:cs[j]?=some .nil) (hcs:cs.set j (.arr id 0)=dr) (lX:¬ pr id) :
  Wk pr (Env.of el) (Mem.of ml) (Env.of el) (((Mem.of ml).put id (.arr e k [])).put kx (.box dr)):=by
 intro N c a bQ
 have ep:kx ≠ id:=fun h=>by rw [h,bC] at hb; cases hb
 have hB:=bQ.mem.fresh bC
 obtain ⟨c',hw,hT,h2,h3⟩:=bQ.mem.A9 (pr:=pr) id (.arr e k []) (.arr (.slice .none 0 0) k 0 []) c.w rfl rfl rfl (Nat.le_refl _) (Nat.le_refl _)
  (fun b _ _=>rfl) (fun b hb=>by simp [BE.has,Value.ownBlock] at hb) (by rw [hB]; trivial) (fun h=>absurd h lX)
  (fun c' hw hle dw=>by
   simp only [br]
   exact ⟨.slice .none 0 0,[],rfl,Nat.le_of_ble_eq_true hk,by rw [hw]; exact World.ownsRow_nil c.w 0 e k,by simp [aC],by simp,by simp [LV.bj]⟩)
 have cL:((Mem.of ml).put id (.arr e k [])) kx=some (.box cs):=by simp only [Mem.put,ep,if_false]; exact hb
 obtain ⟨b,vs,e1,zf,hh,hl,h1⟩:=iV h2 cL
 have iE:∀ (cs:List LV) (vs:List Value) (j:Nat),aC c' cs vs→cs[j]?=some .nil→aC c' (cs.set j (.arr id 0)) vs:=by
  intro cs
  induction cs with
  | nil=>intro vs j _ h; simp at h
  | cons x xs ih =>
   intro vs j hl hj
   simp only [aC] at hl
   obtain ⟨v,fH,rfl,hv,iD⟩:=hl
   cases j with
   | zero =>
    simp at hj; subst hj
    simp only [au] at hv
    simp only [List.set_cons_zero,aC]
    refine ⟨v,fH,rfl,?_,iD⟩
    simp only [au]
    exact ⟨by rw [hv]; rfl,_,_,_,_,hT,Nat.le_refl _,fun _=>hv⟩
   | succ j =>
    simp only [List.set_cons_succ,aC]
    exact ⟨v,fH,rfl,hv,ih fH j iD (by simpa using hj)⟩
 have jc:=h2.re (dr:=dr) cL zf hh (by rw [← hcs]; exact iE cs vs j hl hj) h1 (by rw [← hcs]; simp)
 exact ⟨c',hw,⟨fun i=>h3.wg (bQ.env i),jc,bQ.size,bQ.defers⟩,h3.grow⟩
def lR (m:Mem) (os:List (Nat × Nat × Nat)):Nat→List LV→List LV→List Nat→Prop
 | _,[],dr,S=>dr=[]∧S=[]
 | o,x :: xs,dr,S=>∃ x' tO S1 S2,dr=x' :: tO∧S=S1++S2∧lR m os (o+1) xs tO S2 ∧
   match os.lookup o with
   | .none=>x'=x∧x.pure=true∧S1=[]
   | some (e,k)=>(x=.nil∧0<k∧x'=.ak k []∧S1=[]) ∨ ∃ id2 ys,x=.arr id2 ys.length∧m id2=some (.arr e k ys)∧x'=.ak k ys∧S1=[id2]
theorem UF {m:Mem} {os:List (Nat × Nat × Nat)} {o:Nat}:lR m os o [] [] []:=⟨rfl,rfl⟩
theorem TD {m:Mem} {os:List (Nat × Nat × Nat)} {o:Nat} {x:LV} {xs tO:List LV} {S:List Nat} (hl:os.lookup o=.none) (hp:x.pure=true) (h:lR m os (o+1) xs tO S):lR m os o (x :: xs) (x :: tO) S :=
 ⟨x,tO,[],S,rfl,rfl,h,by rw [hl]; exact ⟨rfl,hp,rfl⟩⟩
theorem UG {m:Mem} {os:List (Nat × Nat × Nat)} {o e k:Nat} {xs tO:List LV} {S:List Nat} (hl:os.lookup o=some (e,k)) (hk:Nat.ble 1 k=true) (h:lR m os (o+1) xs tO S):lR m os o (.nil :: xs) (.ak k [] :: tO) S :=
 ⟨.ak k [],tO,[],S,rfl,rfl,h,by rw [hl]; exact .inl ⟨rfl,Nat.le_of_ble_eq_true hk,rfl,rfl⟩⟩
theorem TC {α:Type} {g:α→LV} {ys:List α} {m:Mem} {os:List (Nat × Nat × Nat)} {o e k id2:Nat} {xs tO:List LV} {S:List Nat} (hl:os.lookup o=some (e,k)) (hm:m id2=some (.arr e k (ys.map g))) (h:lR m os (o+1) xs tO S):lR m os o (.arr id2 ys.length :: xs) (.ak k (ys.map g) :: tO) (id2 :: S) :=
 ⟨.ak k (ys.map g),tO,[id2],S,rfl,rfl,h,by rw [hl]; exact .inr ⟨id2,ys.map g,by simp,hm,rfl,rfl⟩⟩
def lF:Option BE→List Nat
 | some (.arr u _ _ _)=>u.ownBlock.toList
 | _=>[]
def jl (c:Cx) (S:List Nat):List Nat:=S.flatMap fun j=>lF (c.B j)
theorem o6 {c:Cx} {S:List Nat} {b:Nat} (h:b ∈ jl c S):∃ j ∈ S,∃ be,c.B j=some be∧be.has b:=by
 simp only [jl,List.mem_flatMap] at h
 obtain ⟨j,hj,hb⟩:=h
 refine ⟨j,hj,?_⟩
 cases hB:c.B j with
 | none=>simp [lF,hB] at hb
 | some be =>
  cases be with
  | box _ _=>simp [lF,hB] at hb
  | mp _=>simp [lF,hB] at hb
  | arr u k len ins=>rw [hB] at hb; exact ⟨_,rfl,.inl (by simpa [lF] using hb)⟩
theorem rZ {c:Cx} {m:Mem} (hM:bU c m):∀ {S:List Nat},S.Nodup→(jl c S).Nodup
 | [],_=>by simp [jl]
 | j :: S,h=>by
  have h':=List.nodup_cons.1 h
  have:jl c (j :: S)=lF (c.B j)++jl c S:=by simp [jl]
  rw [this,List.nodup_append]
  refine ⟨?_,rZ hM h'.2,?_⟩
  ·cases hB:c.B j with
   | none=>simp [lF]
   | some be =>
    cases be with
    | box _ _=>simp [lF]
    | mp _=>simp [lF]
    | arr u k len ins=>cases hu:u.ownBlock <;> simp [lF,hu]
  ·intro a ha b hb pd
   subst pd
   obtain ⟨j1,Mb,Qn,q1,q2⟩:=o6 (c:=c) (S:=[j]) (b:=a) (by simpa [jl] using ha)
   obtain ⟨j2,EO,Bj,q3,q4⟩:=o6 hb
   have Vl:=hM.inj j1 j2 Qn Bj a q1 q3 q2 q4
   simp at Mb
   rw [← Mb,Vl] at h'
   exact h'.1 EO
theorem lR.ids {m:Mem} {os:List (Nat × Nat × Nat)}:∀ {o:Nat} {cs dr:List LV} {S:List Nat},lR m os o cs dr S→∀ j ∈ S,∃ e k ys,m j=some (.arr e k ys)
 | _,[],_,_,h=>by simp only [lR] at h; rw [h.2]; simp
 | o,x :: xs,dr,S,h=>by
  simp only [lR] at h
  obtain ⟨x',tO,S1,S2,rfl,rfl,h1,h2⟩:=h
  intro j hj
  rcases List.mem_append.1 hj with hj | hj
  ·split at h2
   ·rw [h2.2.2] at hj; cases hj
   ·rename_i e k _
    rcases h2 with ⟨_,_,_,rfl⟩ | ⟨id2,ys,_,hm,_,rfl⟩
    ·cases hj
    ·simp at hj; subst hj; exact ⟨e,k,ys,hm⟩
  ·exact h1.ids j hj
theorem lR.rep {c c':Cx} {m:Mem} (hM:bU c m) (hle:c.Le c') {os:List (Nat × Nat × Nat)}:∀ {o:Nat} {cs dr:List LV} {S:List Nat} {ws:List Value},lR m os o cs dr S→aC c cs ws→(∀ b ∈ jl c S,c'.w.heap[b]?=c.w.heap[b]?)→il c' os o dr ws (jl c S)
 | _,[],_,_,ws,h,hl,_=>by
  simp only [lR] at h
  obtain ⟨rfl,rfl⟩:=h
  simp only [aC] at hl
  simp only [il]; exact ⟨hl,by simp [jl]⟩
 | o,x :: xs,dr,S,ws,h,hl,hh=>by
  simp only [lR] at h
  obtain ⟨x',tO,S1,S2,rfl,rfl,h1,h2⟩:=h
  simp only [aC] at hl
  obtain ⟨w,D0,rfl,hw,iD⟩:=hl
  have hb:jl c (S1++S2)=jl c S1++jl c S2:=by simp [jl]
  rw [hb] at hh ⊢
  simp only [il]
  refine ⟨w,D0,jl c S1,jl c S2,rfl,rfl,?_,lR.rep hM hle h1 iD (fun b hb=>hh b (by simp [hb]))⟩
  unfold fq
  split at h2
  ·rename_i RM
   obtain ⟨rfl,hp,rfl⟩:=h2
   rw [RM]
   exact ⟨au.mono hle _ w (fun id bC=>by rw [eP _ hp] at bC; cases bC) hw,hp,by simp [jl]⟩
  ·rename_i e k RM
   rw [RM]
   rcases h2 with ⟨rfl,hk,rfl,rfl⟩ | ⟨id2,ys,rfl,hm,rfl,rfl⟩
   ·simp only [au] at hw
    subst hw
    exact .inr ⟨[],[],rfl,hk,World.ownsRow_nil c'.w 0 e k,by simp [aC],by simp,rfl,by simp [jl,Value.ownBlock]⟩
   ·obtain ⟨us,hB,hk,bd,zk,hc,hp⟩:=gf hM hw hm rfl
    refine .inr ⟨ys,us,rfl,hk,dF bd (fun b hb=>hh b ?_),aC.mono hle ys us (fun j hj=>by rw [ay ys hp] at hj; cases hj) zk,hc,hp,by simp [jl,hB,lF]⟩
    simp [jl,hB,lF,hb]
section
variable {P:Program} {N:Nat} {pr:Nat→Prop} {ev:Operand→LV} {m m':Mem} {d:Option Nat} {x y z:Operand} {t ty:TypeId} {pos:String} {af:Array Edge} {gd:Option (Nat × Bool)} {lv:LV} {α β:Type} {f:α→LV} {g:β→LV} {e0 k id n:Nat} {os:List (Nat × Nat × Nat)}
end
end Go.L
namespace Go.L
theorem Sub.ak {k:Nat} {xs ys:List LV} (h:fu xs ys) (hp:LV.bj ys=true):Sub (.ak k xs) (.ak k ys):=fun c v hv=>by
 simp only [au] at hv ⊢
 obtain ⟨a,cap,rfl,h1,h2,h3,h4⟩:=hv
 have hl:∀ {xs ys:List LV},fu xs ys→xs.length=ys.length:=by
  intro xs
  induction xs with
  | nil=>intro ys h; cases ys with
   | nil=>rfl
   | cons y ys=>cases h
  | cons x xs ih=>intro ys h; cases ys with
   | nil=>cases h
   | cons y ys=>simp [ih h.2]
 refine ⟨a,cap,by rw [hl h],by rw [← hl h]; exact h1,h2,hp,?_⟩
 rcases h4 with rfl | ⟨b,off,vs,q1,q2,q3,q4,q5⟩
 ·left; exact List.eq_nil_of_length_eq_zero (by rw [← hl h]; rfl)
 ·exact .inr ⟨b,off,vs,q1,q2,q3,h.rep q4,q5⟩
section
variable {P:Program} {N:Nat} {pr:Nat→Prop} {ev:Operand→LV} {m m':Mem} {d:Option Nat} {x y z:Operand} {t ty:TypeId} {pos:String} {af:Array Edge} {gd:Option (Nat × Bool)} {lv:LV} {α β:Type} {f:α→LV} {g:β→LV} {e0 k id n:Nat} {os:List (Nat × Nat × Nat)} {xs:List α} {u:Int} {z0:α} {cs:List LV} {o0:Nat}
theorem cd.res {o:Oper} {wG:LV} (h:cd P pr o ev m lv m') (hs:Sub lv wG):cd P pr o ev m wG m':=by
 intro c a Q bw hm
 refine Oper.wp_mono ?_ (h c a Q bw hm)
 rintro a' w' ⟨v,c',h1,h2,h3,h4,h5⟩
 exact ⟨v,c',h1,h2,hs c' v h3,h4,h5⟩
theorem V8 {k:Nat}:qE k []:=fun x hx=>by cases hx
theorem Th {k:Nat} {x:LV} {xs:List LV} (h1:x.pure=true) (h2:x.cells.length=k) (h3:x.cells.all LV.scalar=true) (h:qE k xs):qE k (x :: xs):=fun y hy=>by
 rcases List.mem_cons.1 hy with rfl | hy
 ·exact ⟨h1,h2,h3⟩
 ·exact h y hy
theorem Lo {nn el kk:Nat} {ps:List (Nat × Operand)} {ls:List LV} {ys:List α} (he:telem P t=some el) (hr:gy P el=true) (hk:tsize P el=kk) (hb:Nat.ble (nn * kk) 16777216=true) (hi:ps.map (·.1)=List.range nn) (hv:(ps.map fun p=>ev p.2)=ls) (gv:qE kk ls) (hs:fu ls (ys.map f)) (hf:pU kk f) :
  cd P pr ⟨d,.buildSlice t nn ps.toArray,ty,pos,af,gd⟩ ev m (.ak kk (ys.map f)) m:=by
 subst hk
 obtain ⟨lv,m',⟨rfl,rfl⟩,h⟩:=kT (ro:=[]) (K:=fun lv m'=>lv=.ak (tsize P el) ls∧m'=m) (P:=P) (pr:=pr) (o:=⟨d,.buildSlice t nn ps.toArray,ty,pos,af,gd⟩) (ev:=ev) (m:=m)
  (by rw [LOp_buildSlice,he]; exact ⟨hr,Nat.le_of_ble_eq_true hb,hi,by rw [hv]; exact gv,by rw [hv]; exact ⟨rfl,rfl⟩⟩)
 exact h.res (Sub.ak hs (hf.bj ys))
theorem Lt {i el kk:Nat} {zc:LV} {z:α} {r:List α} (hi:100+i=id) (he:telem P t=some el) (hz:tzero P el=some zc) (hr:gy P el=true) (hk:tsize P el=kk) (hx:ev x=.int .i64 u) (hy:ev y=.int .i64 u) (hp:zc.pure=true) (hs:Sub zc (f z)) (gv:pU kk f) (hl:DV z u=some r) (hf:m id=.none) :
  cd P pr ⟨some i,.makeSlice t x y,ty,pos,af,gd⟩ ev m (.arr id r.length) (m.put id (.arr el kk (r.map f))):=by
 have iD:DV zc u=some (List.replicate r.length zc):=by
  unfold DV at hl ⊢
  split at hl
  ·rename_i h0; cases hl; simp [h0]
  ·cases hl
 have VE:r=List.replicate r.length z:=by
  unfold DV at hl
  split at hl
  ·cases hl; simp
  ·cases hl
 obtain ⟨lv,m',⟨rfl,rfl⟩,h⟩:=kT (ro:=[]) (K:=fun lv m'=>lv=.arr id r.length∧m'=m.put id (.arr el kk ((List.replicate r.length zc).map fun x=>x))) (P:=P) (pr:=pr) (o:=⟨some i,.makeSlice t x y,ty,pos,af,gd⟩) (ev:=ev) (m:=m)
  (QM (f:=fun x:LV=>x) hi he hz hr hk hx hy hp iD hf ⟨by simp,rfl⟩)
 refine h.mem fun c hc=>?_
 have ox:fu ((List.replicate r.length zc).map fun x=>x) (r.map f):=by
  rw [List.map_id']
  conv=>rhs; rw [VE]
  rw [List.map_replicate]
  exact fu.PY hs _
 exact bU.Tm ox (gv.bj r) hc
end
theorem aP.zP {P:Program} {fn:Nat} {args:List LV} {α:Type} {f:α→LV} {id n e k:Nat} {xs:List α} (h:aP P fn args (Mem.of []) (.arr id n) (Mem.of [(id,.arr e k (xs.map f))])) (hn:n=xs.length):aP P fn args (Mem.of []) (.ak k (xs.map f)) (Mem.of []):=by
 intro c vs hM hv
 refine (h c vs hM hv).mono ?_
 rintro en w' ⟨v,c1,rfl,rfl,iv,hr,hg⟩
 obtain ⟨us,hB,hk,bd,hl,hc,hp⟩:=gf (e:=e) (k:=k) (xs:=xs.map f) iv hr (by simp [Mem.of]) (by simpa using hn)
 obtain ⟨c',hw,hO,gW,hV,hZ,hX,iq⟩:=iv.del id (by
  intro i ds hi hd
  simp [Mem.of,hi] at hd)
 have hle:c1.Le c':=Cx.sub_le hw hO hZ
 have Vs:(Mem.of [(id,.arr e k (xs.map f))]).del id=Mem.of []:=by
  funext i
  simp only [Mem.del,Mem.of]
  by_cases hi:i=id <;> simp [hi]
 rw [Vs] at gW
 refine ⟨v,c',rfl,hw,gW,?_,?_⟩
 ·simp only [au]
  have iD:=aC.mono hle (xs.map f) us (fun j hj=>by rw [ay _ hp] at hj; cases hj) hl
  rcases bd.2 with ⟨rfl,h0⟩ | ⟨g,cap,cur,rfl,_,sA,kf,_⟩
  ·exact ⟨.none,0,by rw [h0],by omega,fun _=>rfl,hp,.inl (List.eq_nil_of_length_eq_zero h0)⟩
  ·refine ⟨some ⟨g,0,.none⟩,cap,rfl,kf,by simp,hp,.inr ⟨g,0,us,rfl,by rw [hw]; exact (Array.getElem?_eq_some_iff.1 sA).1,hX g _ hB (.inl rfl),iD,hc,?_⟩⟩
   rw [hw]; exact cR bd rfl
 ·refine hg.trans (Cx.mE hw hO hZ (fun i be Ai hb=>?_))
  simp [Mem.of] at Ai
theorem mD {P:Program} {pr:Nat→Prop} {ro:List Nat} {ops:Array Oper} {l:List Oper} {ei:List Nat} {KE:Env→Mem→Prop} {e:Env} {m:Mem} {lv:LV} {le:LE} {i md id:Nat} {op:Op} {ty:TypeId} {pos:String} {af:Array Edge} (bC:fT md=id) (Ab:Mj md=true) (hm:m id=some le) (h:JI P pr ro ⟨some i,op,ty,pos,af,.none⟩ (cZ e) id le lv) (hr:cA P pr ro ops (List.zip l ei) KE (e.put i lv) m):cA P pr ro ops (List.zip (⟨some i,op,ty,pos,af,.none⟩ :: l) (md :: ei)) KE e m:=by
 subst bC
 have h1:1000≤md∧md<100000:=by simpa [Mj] using Ab
 show fL P pr ro ops md _ _ e m
 unfold fL
 have hg:Go.L.gd ops ⟨some i,op,ty,pos,af,.none⟩ e=some true:=rfl
 rw [hg]
 simp only
 split
 ·omega
 ·omega
 ·omega
 ·omega
 ·rw [if_neg (by omega),if_pos h1.2]
  exact ⟨lv,le,hm,h,hr⟩
theorem mW {P:Program} {pr:Nat→Prop} {ro:List Nat} {ops:Array Oper} {l:List Oper} {ei:List Nat} {KE:Env→Mem→Prop} {e:Env} {m:Mem} {lv:LV} {le oB:LE} {i md id:Nat} {op:Op} {ty:TypeId} {pos:String} {af:Array Edge} (bC:fT md=id) (Ab:(Nat.ble 100000 md && Nat.blt md 1000000000)=true) (hm:m id=some le) (h:JJ P pr ro ⟨some i,op,ty,pos,af,.none⟩ (cZ e) id le oB lv) (hr:cA P pr ro ops (List.zip l ei) KE (e.put i lv) (m.over (Mem.of [(id,oB)]))):cA P pr ro ops (List.zip (⟨some i,op,ty,pos,af,.none⟩ :: l) (md :: ei)) KE e m:=by
 subst bC
 have h1:100000≤md∧md<1000000000:=by simpa using Ab
 show fL P pr ro ops md _ _ e m
 unfold fL
 have hg:Go.L.gd ops ⟨some i,op,ty,pos,af,.none⟩ e=some true:=rfl
 rw [hg]
 simp only
 split
 ·omega
 ·omega
 ·omega
 ·omega
 ·rw [if_neg (by omega),if_neg (by omega),if_pos h1.2]
  exact ⟨lv,le,oB,hm,h,hr⟩
theorem mS {P:Program} {pr:Nat→Prop} {ro:List Nat} {ops:Array Oper} {l:List Oper} {ei:List Nat} {KE:Env→Mem→Prop} {e:Env} {m:Mem} {lv:LV} {le oB:LE} {md id:Nat} {op:Op} {ty:TypeId} {pos:String} {af:Array Edge} (bC:fT md=id) (Ab:(Nat.ble 100000 md && Nat.blt md 1000000000)=true) (hm:m id=some le) (h:∀ m0:Mem,m0 id=some le→∀ K':LV→Mem→Prop,K' lv (m0.put id oB)→LOp P pr ro ⟨.none,op,ty,pos,af,.none⟩ (cZ e) m0 K') (hr:cA P pr ro ops (List.zip l ei) KE e (m.put id oB)):cA P pr ro ops (List.zip (⟨.none,op,ty,pos,af,.none⟩ :: l) (md :: ei)) KE e m:=by
 subst bC
 have h1:100000≤md∧md<1000000000:=by simpa using Ab
 show fL P pr ro ops md _ _ e m
 unfold fL
 have hg:Go.L.gd ops ⟨.none,op,ty,pos,af,.none⟩ e=some true:=rfl
 rw [hg]
 simp only
 split
 ·omega
 ·omega
 ·omega
 ·omega
 ·rw [if_neg (by omega),if_neg (by omega),if_pos h1.2]
  refine ⟨lv,le,oB,hm,fun m0 h0 K' hK=>h m0 h0 K' (by rw [← pG]; exact hK),?_⟩
  rw [pG]; exact hr
theorem S9 {P:Program} {pr:Nat→Prop} {ro:List Nat} {ops:Array Oper} {l:List Oper} {ei:List Nat} {KE:Env→Mem→Prop} {e:Env} {m m':Mem} {lv:LV} {i md:Nat} {op:Op} {ty:TypeId} {pos:String} {af:Array Edge} (Ab:Nat.ble 1000000000 md=true) (h:qT P pr ⟨some i,op,ty,pos,af,.none⟩ (cZ e) (IC md) m lv m') (hr:cA P pr ro ops (List.zip l ei) KE (e.put i lv) m'):cA P pr ro ops (List.zip (⟨some i,op,ty,pos,af,.none⟩ :: l) (md :: ei)) KE e m:=by
 have h1:1000000000≤md:=by simpa using Ab
 show fL P pr ro ops md _ _ e m
 unfold fL
 have hg:Go.L.gd ops ⟨some i,op,ty,pos,af,.none⟩ e=some true:=rfl
 rw [hg]
 simp only
 split
 ·omega
 ·omega
 ·omega
 ·omega
 ·rw [if_neg (by omega),if_neg (by omega),if_neg (by omega)]
  exact ⟨lv,m',h,hr⟩
theorem mM {P:Program} {pr:Nat→Prop} {ro:List Nat} {ops:Array Oper} {l:List Oper} {ei:List Nat} {KE:Env→Mem→Prop} {e:Env} {m:Mem} {lv:LV} {i:Nat} {op:Op} {ty:TypeId} {pos:String} {af:Array Edge} (h:∀ m0,bm P pr ⟨some i,op,ty,pos,af,.none⟩ (cZ e) m0 lv m0) (hr:cA P pr ro ops (List.zip l ei) KE (e.put i lv) m):cA P pr ro ops (List.zip (⟨some i,op,ty,pos,af,.none⟩ :: l) (4 :: ei)) KE e m:=⟨lv,h,hr⟩
def Env.look (e:Env):List (Nat × LV)→List (Nat × LV)
 | []=>[]
 | (i,_) :: r=>(i,e i) :: Env.look e r
def Mem.look (m:Mem):List (Nat × LE)→List (Nat × Option LE)
 | []=>[]
 | (i,_) :: r=>(i,m i) :: Mem.look m r
def JL:List (Nat × LE)→List (Nat × Option LE)
 | []=>[]
 | (i,x) :: r=>(i,some x) :: JL r
theorem look_eq {e:Env}:∀ {el:List (Nat × LV)},Env.look e el=el→D4 e el
 | [],_=>trivial
 | (i,v) :: r,h=>by
  simp only [Env.look,List.cons.injEq,Prod.mk.injEq,true_and] at h
  exact ⟨h.1,look_eq h.2⟩
theorem xy {m:Mem}:∀ {ml:List (Nat × LE)},Mem.look m ml=JL ml→lE m ml
 | [],_=>trivial
 | (i,v) :: r,h=>by
  simp only [Mem.look,JL,List.cons.injEq,Prod.mk.injEq,true_and] at h
  exact ⟨h.1,xy h.2⟩
theorem Wk.eq {nk ml:List (Nat × LE)} {el:List (Nat × LV)} {e:Env} {m:Mem} (he:Env.look e el=el) (hm:Mem.look m ml=JL ml) (hr:aU (el.map fun p=>(p.1,e p.1)) ml=true) (lX:(nk.all fun p=>ml.any fun q=>q.1 == p.1)=true):Wk (fun id=>Mem.of nk id ≠ .none) e m (Env.of el) (Mem.of ml):=Wk.to (eQ (look_eq he)) (xy hm) hr (a8 lX)
theorem zS {P:Program} {N:Nat} {ops:Array Oper} {nk ml:List (Nat × LE)} {el:List (Nat × LV)} {e:Env} {m:Mem} (he:Env.look e el=el:=by exact rfl) (hm:Mem.look m ml=JL ml:=by exact rfl) (hr:aU (el.map fun p=>(p.1,e p.1)) ml=true:=by exact rfl) (lX:(nk.all fun p=>ml.any fun q=>q.1 == p.1)=true:=by exact rfl):cS P N (fun id=>Mem.of nk id ≠ .none) ops [] (fun e m=>Wk (fun id=>Mem.of nk id ≠ .none) e m (Env.of el) (Mem.of ml)) e m:=s0 (Wk.eq he hm hr lX)
theorem zM {P:Program} {ro:List Nat} {ops:Array Oper} {nk ml:List (Nat × LE)} {el:List (Nat × LV)} {e:Env} {m:Mem} (he:Env.look e el=el:=by exact rfl) (hm:Mem.look m ml=JL ml:=by exact rfl) (hr:aU (el.map fun p=>(p.1,e p.1)) ml=true:=by exact rfl) (lX:(nk.all fun p=>ml.any fun q=>q.1 == p.1)=true:=by exact rfl):cA P (fun id=>Mem.of nk id ≠ .none) ro ops (List.zip [] []) (fun e m=>Wk (fun id=>Mem.of nk id ≠ .none) e m (Env.of el) (Mem.of ml)) e m:=m0 (Wk.eq he hm hr lX)
theorem R {α:Type} {a:α}:a=a:=rfl
abbrev fc:List LV:=[.I 0,.I 0,.str (ByteArray.mk #[]),.nil,.nil]
theorem aX {nk:List (Nat × LE)} {e:Env} {m:Mem} (el:List (Nat × LV)) (ml:List (Nat × LE)) (he:Env.look e el=el:=by exact rfl) (hm:Mem.look m ml=JL ml:=by exact rfl) (hr:aU (el.map fun p=>(p.1,e p.1)) ml=true:=by exact rfl) (lX:(nk.all fun p=>ml.any fun q=>q.1 == p.1)=true:=by exact rfl):Wk (fun id=>Mem.of nk id ≠ .none) e m (Env.of el) (Mem.of ml):=Wk.eq he hm hr lX
abbrev dn (l:List LV):LE:=.nest 49 5 [(1,54,5),(2,4,1),(3,88,3)] l
theorem aT {α:Type} {a b:Array α} (h:a=b):a.toList=b.toList:=congrArg Array.toList h
theorem oI {α:Type} {a b:α} (h:some a=some b):a=b:=Option.some.inj h
theorem nT {a b n:Nat} (h:n=b) (h2:Nat.ble a b=true):a≤n:=by rw [h]; exact Nat.le_of_ble_eq_true h2
theorem cB {a b:Bool} (h:a=b):LV.bool a=LV.bool b:=congrArg LV.bool h
theorem bg {pr:Nat→Prop} {I:Nat→Env→Mem→Prop} {n:Nat} {Q:Exit→Env→Mem→Prop} {e e':Env} {m m':Mem} (h:I n e' m') (hw:Wk pr e m e' m'):tC pr I (n+1) Q .normal e m:=LF hw h
section
variable {P:Program} {N:Nat} {pr:Nat→Prop} {ops:Array Oper} {l:List Oper} {KE:Env→Mem→Prop} {e:Env} {m:Mem} {i:Nat} {x:Operand} {ty:TypeId} {pos:String} {af:Array Edge}
theorem bl {k:IntKind} {n:Int} (h:cZ e x=(.int k n)) (hr:cS P N pr ops l KE (e.put i (.int k n)) m):cS P N pr ops (⟨some i,.move x,ty,pos,af,.none⟩ :: l) KE e m:=sN (oM h hr)
theorem bI {b:Bool} (h:cZ e x=(.bool b)) (hr:cS P N pr ops l KE (e.put i (.bool b)) m):cS P N pr ops (⟨some i,.move x,ty,pos,af,.none⟩ :: l) KE e m:=sN (oM h hr)
theorem Ib  (h:cZ e x=.nil) (hr:cS P N pr ops l KE (e.put i .nil) m):cS P N pr ops (⟨some i,.move x,ty,pos,af,.none⟩ :: l) KE e m:=sN (oM h hr)
theorem eZ {k:Nat} {xs:List LV} (h:cZ e x=(.ak k xs)) (hr:cS P N pr ops l KE (e.put i (.ak k xs)) m):cS P N pr ops (⟨some i,.move x,ty,pos,af,.none⟩ :: l) KE e m:=sN (oM h hr)
theorem j5 {id n:Nat} (h:cZ e x=(.arr id n)) (hr:cS P N pr ops l KE (e.put i (.arr id n)) m):cS P N pr ops (⟨some i,.move x,ty,pos,af,.none⟩ :: l) KE e m:=sN (oM h hr)
theorem ib {id o:Nat} (h:cZ e x=(.ptr id o)) (hr:cS P N pr ops l KE (e.put i (.ptr id o)) m):cS P N pr ops (⟨some i,.move x,ty,pos,af,.none⟩ :: l) KE e m:=sN (oM h hr)
theorem yH {cs:List LV} (h:cZ e x=(.de cs)) (hr:cS P N pr ops l KE (e.put i (.de cs)) m):cS P N pr ops (⟨some i,.move x,ty,pos,af,.none⟩ :: l) KE e m:=sN (oM h hr)
theorem bo {k:IntKind} {n:Int} (h:cZ e x=(.int k n)) (hr:cS P N pr ops l KE (e.put i (.int k n)) m):cS P N pr ops (⟨some i,.assign x,ty,pos,af,.none⟩ :: l) KE e m:=sN (oA h hr)
theorem cm {b:Bool} (h:cZ e x=(.bool b)) (hr:cS P N pr ops l KE (e.put i (.bool b)) m):cS P N pr ops (⟨some i,.assign x,ty,pos,af,.none⟩ :: l) KE e m:=sN (oA h hr)
theorem kh  (h:cZ e x=.nil) (hr:cS P N pr ops l KE (e.put i .nil) m):cS P N pr ops (⟨some i,.assign x,ty,pos,af,.none⟩ :: l) KE e m:=sN (oA h hr)
theorem qb {k:Nat} {xs:List LV} (h:cZ e x=(.ak k xs)) (hr:cS P N pr ops l KE (e.put i (.ak k xs)) m):cS P N pr ops (⟨some i,.assign x,ty,pos,af,.none⟩ :: l) KE e m:=sN (oA h hr)
theorem nE {id n:Nat} (h:cZ e x=(.arr id n)) (hr:cS P N pr ops l KE (e.put i (.arr id n)) m):cS P N pr ops (⟨some i,.assign x,ty,pos,af,.none⟩ :: l) KE e m:=sN (oA h hr)
theorem Ut {id o:Nat} (h:cZ e x=(.ptr id o)) (hr:cS P N pr ops l KE (e.put i (.ptr id o)) m):cS P N pr ops (⟨some i,.assign x,ty,pos,af,.none⟩ :: l) KE e m:=sN (oA h hr)
end
section
variable {P:Program} {pr:Nat→Prop} {ro:List Nat} {ops:Array Oper} {l:List Oper} {ei:List Nat} {KE:Env→Mem→Prop} {e:Env} {m:Mem} {i:Nat} {x:Operand} {ty:TypeId} {pos:String} {af:Array Edge}
theorem eV {k:IntKind} {n:Int} (h:cZ e x=(.int k n)) (hr:cA P pr ro ops (List.zip l ei) KE (e.put i (.int k n)) m):cA P pr ro ops (List.zip (⟨some i,.move x,ty,pos,af,.none⟩ :: l) (0 :: ei)) KE e m:=aF (oM h ⟨rfl,hr⟩)
theorem Mk {k:IntKind} {n:Int} (h:cZ e x=(.int k n)) (hr:cA P pr ro ops (List.zip l ei) KE (e.put i (.int k n)) m):cA P pr ro ops (List.zip (⟨some i,.assign x,ty,pos,af,.none⟩ :: l) (0 :: ei)) KE e m:=aF (oA h ⟨rfl,hr⟩)
theorem iF {b:Bool} (h:cZ e x=(.bool b)) (hr:cA P pr ro ops (List.zip l ei) KE (e.put i (.bool b)) m):cA P pr ro ops (List.zip (⟨some i,.move x,ty,pos,af,.none⟩ :: l) (0 :: ei)) KE e m:=aF (oM h ⟨rfl,hr⟩)
theorem pO {k:Nat} {xs:List LV} (h:cZ e x=(.ak k xs)) (hr:cA P pr ro ops (List.zip l ei) KE (e.put i (.ak k xs)) m):cA P pr ro ops (List.zip (⟨some i,.move x,ty,pos,af,.none⟩ :: l) (0 :: ei)) KE e m:=aF (oM h ⟨rfl,hr⟩)
theorem QL {k:Nat} {xs:List LV} (h:cZ e x=(.ak k xs)) (hr:cA P pr ro ops (List.zip l ei) KE (e.put i (.ak k xs)) m):cA P pr ro ops (List.zip (⟨some i,.assign x,ty,pos,af,.none⟩ :: l) (0 :: ei)) KE e m:=aF (oA h ⟨rfl,hr⟩)
theorem OW {id n:Nat} (h:cZ e x=(.arr id n)) (hr:cA P pr ro ops (List.zip l ei) KE (e.put i (.arr id n)) m):cA P pr ro ops (List.zip (⟨some i,.move x,ty,pos,af,.none⟩ :: l) (0 :: ei)) KE e m:=aF (oM h ⟨rfl,hr⟩)
theorem V4 {id n:Nat} (h:cZ e x=(.arr id n)) (hr:cA P pr ro ops (List.zip l ei) KE (e.put i (.arr id n)) m):cA P pr ro ops (List.zip (⟨some i,.assign x,ty,pos,af,.none⟩ :: l) (0 :: ei)) KE e m:=aF (oA h ⟨rfl,hr⟩)
theorem BG {id o:Nat} (h:cZ e x=(.ptr id o)) (hr:cA P pr ro ops (List.zip l ei) KE (e.put i (.ptr id o)) m):cA P pr ro ops (List.zip (⟨some i,.move x,ty,pos,af,.none⟩ :: l) (0 :: ei)) KE e m:=aF (oM h ⟨rfl,hr⟩)
theorem V6 {cs:List LV} (h:cZ e x=(.de cs)) (hr:cA P pr ro ops (List.zip l ei) KE (e.put i (.de cs)) m):cA P pr ro ops (List.zip (⟨some i,.move x,ty,pos,af,.none⟩ :: l) (0 :: ei)) KE e m:=aF (oM h ⟨rfl,hr⟩)
theorem V5 {k:Nat} {cs:List LV} (h:cZ e x=(.fn k cs)) (hr:cA P pr ro ops (List.zip l ei) KE (e.put i (.fn k cs)) m):cA P pr ro ops (List.zip (⟨some i,.move x,ty,pos,af,.none⟩ :: l) (0 :: ei)) KE e m:=aF (oM h ⟨rfl,hr⟩)
end
structure QW (α:Type) where
 f:Nat
 c:List LV
 m:Option α
 hc:LV.bj c=true
instance {α:Type}:Inhabited (QW α):=⟨⟨0,[],.none,rfl⟩⟩
theorem QW.refs {α:Type} (x:QW α):LV.bG x.c=[]:=fU x.hc
theorem UM {α:Type} {Q:α→Prop}:∀ x ∈ ([]:List α),Q x:=fun x hx=>by cases hx
theorem TG {α:Type} {Q:α→Prop} {x:α} {xs:List α} (h:Q x) (hr:∀ y ∈ xs,Q y):∀ y ∈ x :: xs,Q y:=fun y hy=>by
 rcases List.mem_cons.1 hy with rfl | hy
 ·exact h
 ·exact hr y hy
end Go.L
namespace Go.L
variable {P:Program} {d:Nat} {t:TypeId}
def rN (P:Program) (d:Nat) (t:TypeId) (v u:Value) (b:Bool):Prop:=∀ w,(Op.equalIn d t v u).run P w=.ok b w
def Hk (P:Program) (d:Nat) (xs ys:Array Value) (fs:List Field) (b:Bool):Prop:=∀ w,(Op.eqFields d xs ys fs).run P w=.ok b w
theorem Es {k:IntKind} {a b:Int} (h:P.underlying t=some (.int k)):rN P (d+1) t (.int k a) (.int k b) (a == b):=fun w=>run_equalIn_int w d t k k a b h
theorem Re {xs ys:Array Value} {b:Bool} (hS:P.underlying t=some (.struct (P.fieldsOf t))) (hp:P.stoodInHeld t=false) (h:Hk P d xs ys (P.fieldsOf t).toList b):rN P (d+1) t (.agg xs) (.agg ys) b:=fun w=>(run_equalIn_agg w d t xs ys hS hp).trans (h w)
theorem Rb {xs ys:Array Value}:Hk P d xs ys [] true:=fun w=>by simp [Op.eqFields]
theorem Er {xs ys : Array Value} {f : Field} {fs : List Field} {v u : Value} {b c : Bool} (hn : (f.name != "_") = true) (hv : ∀ w, (part f.type xs f.offset).run P w = .ok v w) (hu : ∀ w, (part f.type ys f.offset).run P w = .ok u w) (he : rN P d f.type v u b) (hr : Hk P d xs ys fs c) : Hk P d xs ys (f :: fs) (b && c) := fun w => by
 have RQ : f.name ≠ "_" := by simpa using hn
 simp only [Op.eqFields,RQ,ne_eq,not_false_eq_true,if_true,Sem.run_bind,hv,hu,Result.andThen_ok,he w,Sem.run_ite]
 cases b with
 | false=>simp
 | true=>simp [hr w]
theorem Rf {xs ys:List LV} {vs us:List Value} {b c:Bool} (hg:P.eqGuardType P.depth t=false) (hx:ef xs=some vs) (hy:ef ys=some us) (h:rN P Op.maxDepth t (.agg vs.toArray) (.agg us.toArray) b) (hc:b=c):oZ P t xs ys c:=⟨hg,vs,us,hx,hy,fun w=>hc ▸ h w⟩
end Go.L
namespace Go.L
section
variable {P:Program} {pr:Nat→Prop} {m m':Mem} {lv:LV} {o:Oper} {e:Env} {ev:Operand→LV}
def Env.only (e:Env) (sl:List Nat):Env:=fun i=>if sl.contains i then e i else .eB
theorem cd.Tq (sl:List Nat) (hs:∀ i ∈ sl,Operand.tmp i ∈ o.op.operands) (h:cd P pr o (cZ (e.only sl)) m lv m'):bm P pr o (cZ e) m lv m':=by
 intro c a Q bw hm
 refine h c a Q (fun x=>?_) hm
 cases x with
 | tmp t =>
  simp only [cZ,Env.only]
  by_cases ht:sl.contains t=true
  ·simp only [ht,if_true]; exact bw (.tmp t) (hs t (by simpa using ht))
  ·simp only [ht,if_false,au]; simp [au]
 | const v=>exact pK c v
 | global g=>simp [cZ,au]
 | func f=>simp only [cZ,Act.eval,au]; exact ⟨[],rfl,by simp [aC]⟩
theorem bm.zP {id n k:Nat} {el:TypeId} {α:Type} {f:α→LV} {xs:List α} (hp:∀ x ∈ o.op.operands,(ev x).pure=true) (h:bm P (fun _=>False) o ev Mem.none (.arr id n) (Mem.none.put id (.arr el k (xs.map f)))) (hn:n=xs.length) (m0:Mem):bm P pr o ev m0 (.ak k (xs.map f)) m0:=by
 intro c a Q bw hm
 let c1:Cx:=⟨c.w,fun _=>.none,fun b=>c.O b ∨ c.own b,c.Q⟩
 have km:∀ b,¬ c1.own b:=by rintro b ⟨i,be,hb,_⟩; cases hb
 have Aa:c.Le c1:=⟨Nat.le_refl _,fun b _ hX=>⟨rfl,fun zQ=>zQ.elim (fun h=>h.elim (fun h=>h.elim (fun h=>hX (.inl (.inl h))) (fun h=>hX (.inr h))) (fun h=>hX (.inl (.inr h)))) (km b)⟩,fun b n hb=>⟨rfl,hb⟩⟩
 have JU:∀ b,c.X b→b<c.w.heap.size:=fun b hb=>hb.elim (fun h=>h.elim (hm.o3 b) (fun h=>(hm.cN b h).2.2)) (hm.kP)
 have iv:bU c1 Mem.none:=⟨fun i=>by simp [Mem.none,br,c1],(fun i i' be ey b h1=>by cases h1),fun b hb=>(km b hb).elim,fun b hb=>JU b (hb.elim (fun h=>.inl (.inl h)) .inr),fun b hb=>⟨fun h=>h.elim (hm.cN b hb).1 (hm.cN b hb).2.1,km b,(hm.cN b hb).2.2⟩⟩
 have Kg:∀ x ∈ o.op.operands,au c1 (ev x) (a.eval x):=fun x hx=>au.mono Aa _ _ (fun id bC=>by rw [eP _ (hp x hx)] at bC; cases bC) (bw x hx)
 refine Oper.wp_mono ?_ (h c1 a Q Kg iv)
 rintro a' w' ⟨v,c',ha,rfl,hv,gW,ko⟩
 obtain ⟨us,hB,hk,bd,hl,hc,EZ⟩:=gf (e:=el) (k:=k) (xs:=xs.map f) gW hv (by simp [Mem.put]) (by simpa using hn)
 have hold:∀ b,b<c.w.heap.size→c'.w.heap[b]?=c.w.heap[b]?:=fun b hb=>ko.grow.jr b hb (km b) (.inr fun h=>h)
 have ra:∀ b,c'.own b→c.w.heap.size≤b:=fun b hb=>(ko.grow.own b hb).elim (fun h=>(km b h).elim) (fun h=>h)
 let c2:Cx:=⟨c'.w,c.B,c.O,c'.Q⟩
 have lI:gM c c2:=fun b n hb=>ko.q b n hb
 have IS:∀ b,c'.Q b ≠ .none→c.Q b ≠ .none ∨ c.w.heap.size≤b:=fun b hb=>(ko.grow.qn b hb).imp (fun h=>h) (fun h=>h.elim (fun h=>(km b h).elim) (fun h=>h))
 have ot:c.Le c2:=⟨ko.grow.size,fun b hb hX=>⟨hold b hb,fun zQ=>zQ.elim (fun h=>h.elim (fun h=>hX (.inl (.inl h))) (fun h=>(IS b h).elim (fun h=>hX (.inl (.inr h))) (fun h=>absurd hb (Nat.not_lt.2 h)))) (fun h=>hX (.inr h))⟩,lI⟩
 have jc:bU c2 m0:=⟨fun i=>br.mono ot (fun _=>jk.refl _) (fun be b Hy hb=>hold b ((hm.gr i).lt Hy hb)) (hm.gr i),hm.inj,hm.jG,fun b hb=>Nat.lt_of_lt_of_le (hm.o3 b hb) ko.grow.size,fun b hb=>⟨fun h=>(gW.cN b hb).1 (by rw [ko.grow.O]; exact .inl h),fun h=>(IS b hb).elim (fun q=>(hm.cN b q).2.1 h) (fun q=>absurd (hm.kP h) (Nat.not_lt.2 q)),(gW.cN b hb).2.2⟩⟩
 have Km:c'.Le c2:=by
  refine ⟨Nat.le_refl _,fun b _ hX=>⟨rfl,fun zQ=>hX (.inl ?_)⟩,fun b n hb=>⟨rfl,hb⟩⟩
  rcases zQ with (h | h) | h
  ·exact .inl (by rw [ko.grow.O]; exact .inl h)
  ·exact .inr h
  ·exact .inl (by rw [ko.grow.O]; exact .inr h)
 refine ⟨v,c2,ha,rfl,?_,jc,⟨⟨rfl,ko.grow.os,ko.grow.tape,ko.grow.output,ko.grow.drawn,ko.grow.size,fun b hb _ _=>hold b hb,fun _ b n hb=>(lI b n hb).2,fun b hb=>(IS b hb).imp (fun h=>h) (fun h=>.inr h),fun b hb=>.inl hb,fun i be _ hb=>⟨be,hb,.refl be⟩⟩,fun _=>jk.refl _,lI⟩⟩
 simp only [au]
 have iD:=aC.mono Km (xs.map f) us (fun j hj=>by rw [ay _ EZ] at hj; cases hj) hl
 rcases bd.2 with ⟨rfl,h0⟩ | ⟨g,cap,cur,rfl,_,sA,kf,_⟩
 ·exact ⟨.none,0,by rw [h0],by omega,fun _=>rfl,EZ,.inl (List.eq_nil_of_length_eq_zero h0)⟩
 ·refine ⟨some ⟨g,0,.none⟩,cap,rfl,kf,by simp,EZ,.inr ⟨g,0,us,rfl,(Array.getElem?_eq_some_iff.1 sA).1,fun hX=>?_,iD,hc,cR bd rfl⟩⟩
  have h1:=ra g ⟨id,_,hB,.inl rfl⟩
  rcases hX with (h | h) | h
  ·exact absurd (hm.o3 g h) (Nat.not_lt.2 h1)
  ·exact (gW.cN g h).2.1 ⟨id,_,hB,.inl rfl⟩
  ·exact absurd (hm.kP h) (Nat.not_lt.2 h1)
end
section
variable {P:Program} {pr:Nat→Prop} {m:Mem} {ev:Operand→LV} {α β:Type} {f:α→LV} {g:β→LV} {d:Option Nat} {x y:Operand} {t ty:TypeId} {pos:String} {af:Array Edge} {gd:Option (Nat × Bool)}
end
end Go.L
namespace Go.L
section
variable {P:Program} {N:Nat} {pr:Nat→Prop} {ops:Array Oper} {e:Env} {m m':Mem} {ev:Operand→LV} {o:Oper} {lv:LV} {l:List Oper} {KE:Env→Mem→Prop} {T:Bool}
theorem Sub.To {e k:Nat} {xs:List LV}:Sub (.aJ false e k xs) (.ak k xs):=fun c v h=>by simpa only [au] using h
theorem Sub.S8 {e k:Nat} {xs:List LV}:Sub (.ak k xs) (.aJ false e k xs):=fun c v h=>by simpa only [au] using h
theorem Sub.Tb {e k:Nat} (hk:Nat.ble 1 k=true):Sub .nil (.aJ T e k []):=fun c v h=>by
 have hk:=Nat.le_of_ble_eq_true hk
 simp only [au] at h
 subst h
 cases T
 ·simp only [au]; exact ⟨.none,0,by rfl,Nat.le_refl _,fun _=>by rfl,by rfl,.inl trivial⟩
 ·simp only [au]; exact ⟨hk,by rfl,[],World.ownsRow_nil c.w 0 e k,by simp [aC],by simp,fun b hb=>by simp [Value.ownBlock] at hb⟩
theorem u5 {e k:Nat} (hk:Nat.ble 1 k=true) {xs ys:List LV} (h:fu xs ys):fu (.nil :: xs) (.aJ T e k [] :: ys):=⟨Sub.Tb hk,h⟩
theorem DB {c:Cx} {e k:Nat} {xs:List LV} {v:Value} (h:au c (.aJ T e k xs) v):∃ a cap,v=.slice a xs.length cap:=by
 cases T
 ·simp only [au] at h; obtain ⟨a,cap,h,_⟩:=h; exact ⟨a,cap,h⟩
 ·simp only [au] at h; obtain ⟨_,_,_,h,_⟩:=h; exact du h
theorem LM {c:Cx} {e k:Nat} {xs:List LV} {v:Value} (h:au c (.aJ T e k xs) v) {i:Nat} {y:LV} (hy:xs[i]?=some y) (hs:y.cells.all LV.scalar=true) :
  ∃ b off cap,v=.slice (some ⟨b,off,.none⟩) xs.length cap∧au c (.fI T y.cells) (.pointer (some ⟨b,off+i * k,.none⟩)):=by
 have dN:i<xs.length:=(List.getElem?_eq_some_iff.1 hy).1
 cases T
 ·simp only [au] at h
  obtain ⟨a,cap,he,mu,hn,hp,hr⟩:=h
  rcases hr with rfl | ⟨b,off,vs,rfl,hb,hX,hl,hc,fQ⟩
  ·simp at dN
  ·obtain ⟨u,IU,KP⟩:=hl.get hy
   obtain ⟨f1,f2⟩:=fM (k:=k) (fun v hv=>(hc v hv).1) IU
   rw [f1] at fQ
   have xn:=ia fQ
   rw [f2] at xn
   obtain ⟨vJ,E9⟩:=KP.cellsOf hs
   refine ⟨b,off,cap,he,?_⟩
   simp only [au]
   exact ⟨b,_,u.cells.toList,rfl,hb,hX,vJ,fun y hy=>E9 y (by simpa using hy),xn⟩
 ·simp only [au] at h
  obtain ⟨hk,hp,vs,ho,hl,hc,hq⟩:=h
  rcases ho.2 with ⟨_,h0⟩ | ⟨g,cap,cur,hv,_⟩
  ·omega
  ·obtain ⟨u,IU,KP⟩:=hl.get hy
   obtain ⟨f1,f2⟩:=fM (k:=k) (fun v hv=>(hc v hv).1) IU
   have fQ:=cR ho (b:=g) (by rw [hv]; rfl)
   rw [f1] at fQ
   have xn:=ia fQ
   rw [f2] at xn
   obtain ⟨vJ,E9⟩:=KP.cellsOf hs
   refine ⟨g,0,cap,hv,?_⟩
   simp only [au]
   exact ⟨g,_,u.cells.toList,_,rfl,hq g (by rw [hv]; rfl),vJ,fun y hy=>E9 y (by simpa using hy),xn⟩
theorem wz {c:Cx} {cs:List LV} {v:Value} (h:au c (.fI T cs) v):∃ b off vs,v=.pointer (some ⟨b,off,.none⟩)∧aC c cs vs∧c.w.rangeAt b off vs∧∀ n,au c (.fI T (cs.drop n)) (.pointer (some ⟨b,off+n,.none⟩)):=by
 cases T
 ·simp only [au] at h
  obtain ⟨b,off,vs,he,hb,hX,hl,h1,fQ⟩:=h
  exact ⟨b,off,vs,he,hl,fQ,fun n=>by simp only [au]; exact ⟨b,off+n,vs.drop n,rfl,hb,hX,hl.drop n,fun y hy=>h1 y (List.mem_of_mem_drop hy),fm fQ n⟩⟩
 ·simp only [au] at h
  obtain ⟨b,off,vs,q,he,hq,hl,h1,fQ⟩:=h
  exact ⟨b,off,vs,he,hl,fQ,fun n=>by simp only [au]; exact ⟨b,off+n,vs.drop n,q,rfl,hq,hl.drop n,fun y hy=>h1 y (List.mem_of_mem_drop hy),fm fQ n⟩⟩
variable {d:Option Nat} {x y:Operand} {t ty:TypeId} {pos:String} {af:Array Edge} {g:Option (Nat × Bool)} {el kk e0:Nat}
theorem s8 {α:Type} {f:α→LV} {xs:List α} (he:telem P t=some el) (hx:ev x=.aJ T e0 kk (xs.map f)):bm P pr ⟨d,.call ⟨.builtin .len,#[x],#[t]⟩,ty,pos,af,g⟩ ev m (.int .i64 xs.length) m:=by
 have hu:=fG he
 refine bm.value fun c a bw hM=>?_
 have hv:=bw x (by simp [Op.operands,Call.operands])
 rw [hx] at hv
 obtain ⟨ad,cp,hv⟩:=DB hv
 exact ⟨.int .i64 xs.length,c,by simp [execOp,resolve,invoke,builtin,Builtin.len_,hv,run_underlying hu,goInt],by simp [au],hM,Step.refl pr c⟩
theorem iH {α:Type} {f:α→LV} {xs:List α} {z:α} {k:IntKind} {u:Int} {cs:List LV} (he:telem P t=some el) (hk:tok P el=true) (hs:tsize P el=kk) (hx:ev x=.aJ T e0 kk (xs.map f)) (hy:ev y=.int k u) (gv:pU kk f) (hz:idx xs u=some z) (hc:(f z).cells=cs):bm P pr ⟨d,.indexAddr t x y,ty,pos,af,g⟩ ev m (.fI T cs) m:=by
 subst hc
 have hu:=fG he
 obtain ⟨h0,h1⟩:=dC hz
 refine bm.value fun c a bw hM=>?_
 have e1:=bw x (by simp [Op.operands])
 have e2:=bw y (by simp [Op.operands])
 rw [hx] at e1; rw [hy] at e2
 simp only [au] at e2
 obtain ⟨b,off,cap,hv,hr⟩:=LM e1 (i:=u.toNat) (y:=f z) (by simp [h1]) (gv z).2.2
 have dN:u.toNat<xs.length:=(List.getElem?_eq_some_iff.1 h1).1
 have vE:u<(xs.length:Int):=by omega
 refine ⟨.pointer (some ⟨b,off+u.toNat * kk,.none⟩),c,?_,hr,hM,Step.refl pr c⟩
 unfold tok at hk
 cases sC:P.info? el with
 | none=>simp [sC] at hk
 | some ie =>
  have lI:kk=ie.size:=by rw [← hs]; simp [tsize,sC]
  simp [execOp,hv,e2,Instr.indexAt,asIntOf,run_underlying hu,h0,vE,sizeOf,typeInfo,sC,Addr.add_mid,lI]
theorem oG {z:LV} {cs:List LV} (hx:ev x=.fI T (z :: cs)) (ht:tok P t=true) (ha:tagg P t=false):bm P pr ⟨d,.load t x,ty,pos,af,g⟩ ev m z m:=by
 refine bm.value fun c a bw hM=>?_
 have e1:=bw x (by simp [Op.operands])
 rw [hx] at e1
 obtain ⟨b,off,vs,hv,hl,fQ,_⟩:=wz e1
 obtain ⟨lv,rfl,hr⟩:=gQ (P:=P) (t:=t) (cs:=z :: cs) (K:=fun l=>l=z) ⟨ht,by rw [if_neg (by simp [ha])]⟩
 obtain ⟨v,ec,fz⟩:=hr c b off vs hl fQ
 exact ⟨v,c,by simp [execOp,hv,ec],fz,hM,Step.refl pr c⟩
theorem nr {cs dr:List LV} {n:Nat} (hx:ev x=.fI T cs) (ht:tok P t=true) (ha:tagg P t=true) (hs:tsize P t=n) (hl:Nat.ble n cs.length=true) (hc:cs.take n=dr):bm P pr ⟨d,.load t x,ty,pos,af,g⟩ ev m (.agg dr) m:=by
 subst hc; subst hs
 refine bm.value fun c a bw hM=>?_
 have e1:=bw x (by simp [Op.operands])
 rw [hx] at e1
 obtain ⟨b,off,vs,hv,iD,fQ,_⟩:=wz e1
 obtain ⟨lv,rfl,hr⟩:=gQ (P:=P) (t:=t) (cs:=cs) (K:=fun l=>l=.agg (cs.take (tsize P t))) ⟨ht,by rw [if_pos ha]; exact ⟨Nat.le_of_ble_eq_true hl,rfl⟩⟩
 obtain ⟨v,ec,fz⟩:=hr c b off vs iD fQ
 exact ⟨v,c,by simp [execOp,hv,ec],fz,hM,Step.refl pr c⟩
theorem s7 {cs dr:List LV} {n off ft k:Nat} (hf:tfield P t n=some (off,ft)) (hk:tok P ft=true) (hs:tsize P ft=k+1) (hx:ev x=.fI T cs) (hl:Nat.ble off cs.length=true) (hi:cs.drop off=dr):bm P pr ⟨d,.fieldAddr t x n,ty,pos,af,g⟩ ev m (.fI T dr) m:=by
  subst hi
  refine bm.value fun c a bw hM=>?_
  have e1:=bw x (by simp [Op.operands])
  rw [hx] at e1
  obtain ⟨b,q,vs,hv,iD,fQ,hd⟩:=wz e1
  obtain ⟨fs,fd,hu,Bv,rfl,rfl⟩:∃ fs fd,P.underlying t=some (.struct fs)∧fs[n]?=some fd∧fd.offset=off∧fd.type=ft:=by
    unfold tfield at hf
    split at hf
    · rename_i fs hu
      cases Kh:fs[n]? with
      | none=>simp [Kh] at hf
      | some fd=>simp [Kh] at hf; exact ⟨fs,fd,hu,Kh,hf.1,hf.2⟩
    · cases hf
  refine ⟨.pointer (some ⟨b,q+fd.offset,.none⟩),c,?_,hd _,hM,Step.refl pr c⟩
  unfold tok at hk
  cases sC:P.info? fd.type with
  | none=>simp [sC] at hk
  | some i =>
    have MZ : i.size ≠ 0 := by have : tsize P fd.type = i.size := by simp [tsize, sC]
                               omega
    simp [execOp,hv,Instr.fieldAt,run_underlying hu,Bv,Instr.sureAddr,fieldPlace,sizeOf,typeInfo,sC,MZ,Addr.add_mid]
theorem FI {α:Type} {f:α→LV} {ys r:List α} {i id:Nat} {K:LV→Mem→Prop} {ro:List Nat} (hi:100+i=id) (he:telem P t=some el) (hr:gy P el=true) (hs:tsize P el=kk) (hx:ev x=.nil) (hy:ev y=.aJ T e0 kk (ys.map f)) (hl:app [] ys=some r) (hf:m id=.none) (h:K (.arr id r.length) (m.put id (.arr el kk (r.map f)))):LOp P pr ro ⟨some i,.call ⟨.builtin .append,#[x,y],#[t,t]⟩,ty,pos,af,g⟩ ev m K:=by
 obtain ⟨h0,rfl⟩:=Bi hl
 subst hs; subst hi
 rw [LOp_append,he,hy,hx]
 refine ⟨rfl,hr,rfl,?_⟩
 simp only [qp]
 exact ⟨hf,by simpa using h0,by simpa using h⟩
end
theorem bU.My {T:Bool} {c:Cx} {m:Mem} {id e k:Nat} {xs:List LV} (h:bU c m) (bC:m id=some (.arr e k xs)) (pe:∀ i le,i ≠ id→m i=some le→le.kN id=true) :
  ∃ c':Cx,c'.w=c.w∧c'.O=c.O∧bU c' (m.del id)∧(∀ x v,x.a7 id=true→au c x v→au c' x v)∧(∀ b,c'.own b→c.own b)∧(∀ v,au c (.arr id xs.length) v→au c' (.aJ T e k xs) v)∧(∀ i,i ≠ id→c'.B i=c.B i)∧(∀ b n,c.Q b=some n→c'.Q b=some n)∧(∀ b,c'.Q b ≠ .none→c.Q b ≠ .none ∨ c.own b):=by
 obtain ⟨u,us,hB,hk,bd,hl,hc,hp⟩:=jS h bC
 obtain ⟨c1,hw,hO,iv,hV,gP,hX,Ht⟩:=h.del id pe
 have hle:c.Le c1:=Cx.sub_le hw hO gP
 have iD:=aC.mono hle xs us (fun j hj=>by rw [ay xs hp] at hj; cases hj) hl
 have QF:∀ v,au c (.arr id xs.length) v→v=u:=fun v hv=>by
  simp only [au] at hv
  obtain ⟨_,u',k',k8,k7,iq,_,hv⟩:=hv
  rw [hB] at iq; cases iq
  exact hv rfl
 cases T
 ·refine ⟨c1,hw,hO.1,iv,hV,gP,fun v hv=>?_,Ht,fun b n hb=>by rw [hO.2]; exact hb,fun b hb=>.inl (by rw [hO.2] at hb; exact hb)⟩
  rw [QF v hv]
  simp only [au]
  rcases bd.2 with ⟨rfl,h0⟩ | ⟨g,cap,cur,rfl,_,hg,kf,_⟩
  ·exact ⟨.none,0,by rw [h0],by omega,fun _=>rfl,hp,.inl (List.eq_nil_of_length_eq_zero h0)⟩
  ·refine ⟨some ⟨g,0,.none⟩,cap,rfl,kf,by simp,hp,.inr ⟨g,0,us,rfl,by rw [hw]; exact (Array.getElem?_eq_some_iff.1 hg).1,hX g _ hB (.inl rfl),iD,hc,?_⟩⟩
   rw [hw]; exact cR bd rfl
 ·let c2:Cx:=⟨c1.w,c1.B,c1.O,fun b=>if u.ownBlock=some b then some (xs.length * k) else c1.Q b⟩
  have hQ:∀ b,u.ownBlock=some b→c.Q b=.none:=fun b hb=>by
   cases hq:c.Q b with
   | none=>rfl
   | some n=>exact absurd ⟨id,_,hB,.inl hb⟩ (h.cN b (by rw [hq]; simp)).2.1
  have Me:∀ b n,c1.Q b=some n→c2.Q b=some n:=fun b n hb=>by
   simp only [c2]
   rw [if_neg (fun Fa=>by rw [hO.2,hQ b Fa] at hb; cases hb)]; exact hb
  have VR:∀ b,u.ownBlock=some b→¬ c1.X b:=fun b hb=>hX b _ hB (.inl hb)
  -- Wi is read at all is not read there
  have uF:∀ b,c2.own b→c1.own b:=fun b hb=>hb
  have hblk:∀ b,u.ownBlock=some b→c.own b:=fun b hb=>⟨id,_,hB,.inl hb⟩
  have ot:c.Le c2:=⟨by rw [show c2.w=c1.w from rfl,hw]; exact Nat.le_refl _,fun b hb hx=>⟨by rw [show c2.w=c1.w from rfl,hw],fun nS=>by
    rcases nS with (h' | h') | h'
    ·exact hx (.inl (.inl (by rw [← hO.1]; exact h')))
    ·simp only [c2] at h'
     by_cases Fa:u.ownBlock=some b
     ·exact hx (.inr (hblk b Fa))
     ·rw [if_neg Fa,hO.2] at h'; exact hx (.inl (.inr h'))
    ·exact hx (.inr (gP b h'))⟩,fun b n hb=>⟨by rw [show c2.w=c1.w from rfl,hw],Me b n (by rw [hO.2]; exact hb)⟩⟩
  have IE:∀ i,i ≠ id→c2.B i=c.B i:=fun i hi=>Ht i hi
  have vz:∀ x:LV,x.a7 id=true→∀ j,x.a7 j=false→jk (c.B j) (c2.B j):=fun x hx j hj=>by
   have:j ≠ id:=fun he=>by rw [he,hx] at hj; cases hj
   rw [IE j this]; exact jk.refl _
  refine ⟨c2,hw,hO.1,⟨fun i=>?_,iv.inj,fun b ho=>by have:=iv.jG b ho; exact this,iv.o3,fun b hb=>?_⟩,fun x v hx hv=>au.mono ot x v (vz x hx) hv,gP,fun v hv=>?_,IE,fun b n hb=>Me b n (by rw [hO.2]; exact hb),fun b hb=>?_⟩
  ·by_cases hi:i=id
   ·subst hi
    have:=iv.gr i
    simp only [Mem.del,if_true] at this ⊢
    simpa only [br] using this
   ·have he:=h.gr i
    have e1:m.del id i=m i:=by simp [Mem.del,hi]
    rw [e1,IE i hi]
    cases xl:m i with
    | none=>rw [xl] at he; simpa only [br] using he
    | some le =>
     rw [xl] at he
     have QD:=pe i le hi xl
     cases le with
     | box cs =>
      simp only [br] at he ⊢
      obtain ⟨b,vs,e',q1,q2,q3,q4⟩:=he
      exact ⟨b,vs,e',q1,by rw [show c2.w=c1.w from rfl,hw]; exact q2,aC.mono ot cs vs (fun j hj=>by
       have:j ≠ id:=fun he=>by rw [he] at hj; simp only [LE.kN] at QD; rw [QD] at hj; cases hj
       rw [IE j this]; exact jk.refl _) q3,q4⟩
     | arr e' k' tO =>
      simp only [br] at he ⊢
      obtain ⟨u',vs,q1,q0,q2,q3,q4,q5⟩:=he
      exact ⟨u',vs,q1,q0,by rw [show c2.w=c1.w from rfl,hw]; exact q2,aC.mono ot tO vs (fun j hj=>by rw [ay tO q5] at hj; cases hj) q3,q4,q5⟩
     | nest e' k' os tO =>
      simp only [br] at he ⊢
      obtain ⟨u',vs,bs,q1,q0,q2,q3,q4⟩:=he
      exact ⟨u',vs,bs,q1,q0,by rw [show c2.w=c1.w from rfl,hw]; exact q2,q3.mono ot (fun b _=>by rw [show c2.w=c1.w from rfl,hw]),q4⟩
     | cU e' k' os tO i1 o1 id2 n2 =>
      simp only [br] at he ⊢
      obtain ⟨u',vs,bs,q1,q0,q2,q3,⟨ws,v,g1,g2,g3⟩,q4⟩:=he
      exact ⟨u',vs,bs,q1,q0,by rw [show c2.w=c1.w from rfl,hw]; exact q2,q3.mono ot (fun b _=>by rw [show c2.w=c1.w from rfl,hw]),⟨ws,v,g1,by rw [show c2.w=c1.w from rfl,hw]; exact g2,au.mono ot (.arr id2 n2) v (fun j hj=>by
       have:j ≠ id:=fun he=>by rw [he] at hj; simp only [LE.kN] at QD; simp only [LV.a7] at hj; rw [QD] at hj; cases hj
       rw [IE j this]; exact jk.refl _) g3⟩,q4⟩
     | dead=>simpa only [br] using he
     | map kt vt es =>
      simp only [br] at he ⊢
      obtain ⟨b,jn,ck,q1,q2,q3,q4,q5,q6,q7⟩:=he
      exact ⟨b,jn,ck,q1,by rw [show c2.w=c1.w from rfl,hw]; exact q2,aC.mono ot _ _ (fun j hj=>by rw [ay _ q5] at hj; cases hj) q3,aC.mono ot _ _ (fun j hj=>by rw [ay _ q6] at hj; cases hj) q4,q5,q6,q7⟩
  ·by_cases Fa:u.ownBlock=some b
   ·have hn:=VR b Fa
    exact ⟨fun ho=>hn (.inl (.inl ho)),fun ho=>hn (.inr ho),by rw [show c2.w=c1.w from rfl,hw]; exact (h.gr id).lt hB (.inl Fa)⟩
   ·simp only [c2] at hb
    rw [if_neg Fa] at hb
    exact iv.cN b hb
  ·rw [QF v hv]
   simp only [au]
   refine ⟨hk,hp,us,by rw [show c2.w=c1.w from rfl,hw]; exact bd,aC.mono ot xs us (fun j hj=>by rw [ay xs hp] at hj; cases hj) hl,hc,fun b hb=>?_⟩
   simp only [c2,if_pos hb]
  ·simp only [c2] at hb
   by_cases Fa:u.ownBlock=some b
   ·exact .inr (hblk b Fa)
   ·rw [if_neg Fa,hO.2] at hb; exact .inl hb
theorem nV.rep {id n:Nat} {tv:LV} {c c':Cx} (hV:∀ x v,x.a7 id=true→au c x v→au c' x v) (hR:∀ v,au c (.arr id n) v→au c' tv v):∀ {el fk:List (Nat × LV)},nV id n tv el fk→∀ i v,au c (Env.of el i) v→au c' (Env.of fk i) v
 | [],[],_,i,v,h=>by simp [Env.of,au]
 | p :: r,q :: s,h,i,v,hr=>by
  obtain ⟨⟨h1,h2⟩,h3⟩:=h
  obtain ⟨pi,pv⟩:=p
  obtain ⟨qi,qv⟩:=q
  simp only at h1 h2
  subst h1
  simp only [Env.of] at hr ⊢
  by_cases hi:i=qi
  ·simp only [hi,if_true] at hr ⊢
   rcases h2 with ⟨rfl,h2⟩ | ⟨rfl,rfl⟩
   ·exact hV _ _ h2 hr
   ·exact hR _ hr
  ·simp only [hi,if_false] at hr ⊢
   exact nV.rep hV hR h3 i v hr
theorem Wk.JS {pr:Nat→Prop} {α:Type} {f:α→LV} {el fk:List (Nat × LV)} {ml:List (Nat × LE)} (T:Bool) (id e0 k0:Nat) (xs:List α) (bC:Mem.of ml id=some (.arr e0 k0 (xs.map f))) (jX:su id ml=true) (lX:¬ pr id) (h:nV id xs.length (.aJ T e0 k0 (xs.map f)) el fk) :
  Wk pr (Env.of el) (Mem.of ml) (Env.of fk) (Mem.of (ml.filter fun q=>q.1 != id)):=by
 intro N c a bQ
 rw [← Mem.Aw]
 obtain ⟨c',hw,hO,gW,hV,bd,hR,hB,RW,Me⟩:=bQ.mem.My (T:=T) bC (mr jX)
 refine ⟨c',hw,⟨fun i=>h.rep hV (by simpa using hR) i _ (bQ.env i),gW,bQ.size,bQ.defers⟩,?_⟩
 exact ⟨hO,by rw [hw],by rw [hw],by rw [hw],by rw [hw]; exact Nat.le_refl _,by rw [hw]; exact Nat.le_refl _,fun b _ _ _=>by rw [hw],fun _=>RW,fun b hb=>(Me b hb).imp (fun h=>h) .inl,fun b ho=>.inl (bd b ho),fun i be Ai hb=>⟨be,by rw [hB i (fun h=>lX (h ▸ Ai))]; exact hb,.refl be⟩⟩
def pT (id n:Nat) (tv:LV):List LV→List LV→Prop
 | [],[]=>True
 | x :: xs,y :: ys=>((y=x∧x.a7 id=true) ∨ (x=.arr id n∧y=tv))∧pT id n tv xs ys
 | _,_=>False
theorem MC {id n:Nat} {tv:LV}:pT id n tv [] []:=trivial
theorem IA {id n:Nat} {tv x:LV} {xs ys:List LV} (h0:x.a7 id=true) (h:pT id n tv xs ys):pT id n tv (x :: xs) (x :: ys):=⟨.inl ⟨rfl,h0⟩,h⟩
theorem MD {id n:Nat} {tv:LV} {xs ys:List LV} (h:pT id n tv xs ys):pT id n tv (.arr id n :: xs) (tv :: ys):=⟨.inr ⟨rfl,rfl⟩,h⟩
theorem pT.rep {id n:Nat} {tv:LV} {c c':Cx} (hV:∀ x v,x.a7 id=true→au c x v→au c' x v) (hR:∀ v,au c (.arr id n) v→au c' tv v):∀ {xs ys:List LV},pT id n tv xs ys→∀ vs,aC c xs vs→aC c' ys vs
 | [],[],_,vs,h=>by simpa only [aC] using h
 | x :: xs,y :: ys,h,vs,hr=>by
  simp only [aC] at hr ⊢
  obtain ⟨v,fH,rfl,h1,h2⟩:=hr
  refine ⟨v,fH,rfl,?_,pT.rep hV hR h.2 fH h2⟩
  rcases h.1 with ⟨rfl,h0⟩ | ⟨rfl,rfl⟩
  ·exact hV _ _ h0 h1
  ·exact hR _ h1
theorem pT.len {id n:Nat} {tv:LV}:∀ {xs ys:List LV},pT id n tv xs ys→ys.length=xs.length
 | [],[],_=>rfl
 | x :: xs,y :: ys,h=>by simp [pT.len h.2]
theorem Wk.sv {pr:Nat→Prop} {el:List (Nat × LV)} {ml:List (Nat × LE)} {α:Type} {f:α→LV} (T:Bool) (id e k:Nat) (xs:List α) (kx:Nat) {cs dr:List LV} (bC:Mem.of ml id=some (.arr e k (xs.map f))) (hb:Mem.of ml kx=some (.box cs)) (ep:(kx == id)=false) (hcs:pT id xs.length (.aJ T e k (xs.map f)) cs dr) (jX:Ez id kx ml=true) (z7:(el.all fun p=>p.2.a7 id)=true) (lX:¬ pr id) :
  Wk pr (Env.of el) (Mem.of ml) (Env.of el) (((Mem.of ml).del id).put kx (.box dr)):=by
 intro N c a bQ
 have ep:kx ≠ id:=by simpa using ep
 obtain ⟨b,vs,e1,zf,hh,hl,h1⟩:=iV bQ.mem hb
 have iv:=bQ.mem.re (dr:=cs.map fun _=>LV.eB) hb zf hh (tA cs vs hl) h1 (by simp)
 obtain ⟨c',hw,hO,gW,hV,bd,hR,hB,RW,Me⟩:=iv.My (T:=T) (id:=id) (e:=e) (k:=k) (xs:=xs.map f) (by simp [Mem.put,Ne.symm ep,bC]) (by
  intro i ds hi hd
  by_cases CB:i=kx
  ·subst CB
   simp only [Mem.put,if_true,Option.some.injEq] at hd
   rw [← hd]; exact oF cs
  ·simp only [Mem.put,CB,if_false] at hd
   have:=List.all_eq_true.1 jX _ (fl hd)
   cases ds with
   | box cs=>simpa [hi,CB,LE.kN] using this
   | cU _ _ _ _ _ _ _ _=>simpa [hi,CB,LE.kN] using this
   | _=>rfl)
 have DM:aC c' dr vs:=hcs.rep hV (by simpa using hR) vs hl
 have jc:=gW.re (kx:=kx) (cs:=cs.map fun _=>LV.eB) (dr:=dr) (by simp [Mem.del,Mem.put,ep]) (by rw [hB kx ep]; simpa using zf) (by rw [hw]; exact hh) DM h1 (by simpa using hcs.len)
 have gu:(((Mem.of ml).put kx (.box (cs.map fun _=>LV.eB))).del id).put kx (.box dr)=((Mem.of ml).del id).put kx (.box dr):=by
  funext i
  simp only [Mem.put,Mem.del]
  by_cases CB:i=kx <;> simp [CB]
 rw [gu] at jc
 refine ⟨c',hw,⟨fun i=>hV _ _ ?_ (bQ.env i),jc,bQ.size,bQ.defers⟩,?_⟩
 ·clear bQ
  induction el with
  | nil=>simp [Env.of,LV.a7]
  | cons p el ih =>
   simp only [List.all_cons,Bool.and_eq_true] at z7
   simp only [Env.of]
   split
   ·exact z7.1
   ·exact ih z7.2
 ·exact ⟨hO,by rw [hw],by rw [hw],by rw [hw],by rw [hw]; exact Nat.le_refl _,by rw [hw]; exact Nat.le_refl _,fun b _ _ _=>by rw [hw],fun _=>RW,fun b hb=>(Me b hb).imp (fun h=>h) .inl,fun b ho=>.inl (bd b ho),fun i be Ai hb=>⟨be,by rw [hB i (fun h=>lX (h ▸ Ai))]; exact hb,.refl be⟩⟩
theorem bm.JS {P:Program} {pr:Nat→Prop} {o:Oper} {ev:Operand→LV} {T:Bool} {id n k:Nat} {el:TypeId} {α:Type} {f:α→LV} {xs:List α} (hp:∀ x ∈ o.op.operands,(ev x).pure=true) (h:bm P (fun _=>False) o ev Mem.none (.arr id n) (Mem.none.put id (.arr el k (xs.map f)))) (hn:n=xs.length) (m0:Mem):bm P pr o ev m0 (.aJ T el k (xs.map f)) m0:=by
 cases T
 ·intro c a Q bw hm
  refine Oper.wp_mono ?_ (bm.zP (pr:=pr) hp h hn m0 c a Q bw hm)
  rintro a' w' ⟨v,c',h1,h2,h3,h4⟩
  exact ⟨v,c',h1,h2,Sub.S8 c' v h3,h4⟩
 intro c a Q bw hm
 let c1:Cx:=⟨c.w,fun _=>.none,fun b=>c.O b ∨ c.own b,c.Q⟩
 have km:∀ b,¬ c1.own b:=by rintro b ⟨i,be,hb,_⟩; cases hb
 have Aa:c.Le c1:=⟨Nat.le_refl _,fun b _ hX=>⟨rfl,fun zQ=>zQ.elim (fun h=>h.elim (fun h=>h.elim (fun h=>hX (.inl (.inl h))) (fun h=>hX (.inr h))) (fun h=>hX (.inl (.inr h)))) (km b)⟩,fun b n hb=>⟨rfl,hb⟩⟩
 have JU:∀ b,c.X b→b<c.w.heap.size:=fun b hb=>hb.elim (fun h=>h.elim (hm.o3 b) (fun h=>(hm.cN b h).2.2)) (hm.kP)
 have iv:bU c1 Mem.none:=⟨fun i=>by simp [Mem.none,br,c1],(fun i i' be ey b h1=>by cases h1),fun b hb=>(km b hb).elim,fun b hb=>JU b (hb.elim (fun h=>.inl (.inl h)) .inr),fun b hb=>⟨fun h=>h.elim (hm.cN b hb).1 (hm.cN b hb).2.1,km b,(hm.cN b hb).2.2⟩⟩
 have Kg:∀ x ∈ o.op.operands,au c1 (ev x) (a.eval x):=fun x hx=>au.mono Aa _ _ (fun id bC=>by rw [eP _ (hp x hx)] at bC; cases bC) (bw x hx)
 refine Oper.wp_mono ?_ (h c1 a Q Kg iv)
 rintro a' w' ⟨v,c',ha,rfl,hv,gW,ko⟩
 obtain ⟨us,hB,hk,bd,hl,hc,EZ⟩:=gf (e:=el) (k:=k) (xs:=xs.map f) gW hv (by simp [Mem.put]) (by simpa using hn)
 have hold:∀ b,b<c.w.heap.size→c'.w.heap[b]?=c.w.heap[b]?:=fun b hb=>ko.grow.jr b hb (km b) (.inr fun h=>h)
 have ra:∀ b,c'.own b→c.w.heap.size≤b:=fun b hb=>(ko.grow.own b hb).elim (fun h=>(km b h).elim) (fun h=>h)
 have IW:∀ b,v.ownBlock=some b→c.w.heap.size≤b:=fun b hb=>ra b ⟨id,_,hB,.inl hb⟩
 let c2:Cx:=⟨c'.w,c.B,c.O,fun b=>if v.ownBlock=some b then some (xs.length * k) else c'.Q b⟩
 have lI:gM c c2:=fun b n hb=>by
  have hn:=(hm.cN b (by rw [hb]; simp)).2.2
  refine ⟨(ko.q b n hb).1,?_⟩
  simp only [c2]
  rw [if_neg (fun h=>by have:=IW b h; omega)]
  exact (ko.q b n hb).2
 have IS:∀ b,c2.Q b ≠ .none→c.Q b ≠ .none ∨ c.w.heap.size≤b:=fun b hb=>by
  by_cases IV:v.ownBlock=some b
  ·exact .inr (IW b IV)
  ·simp only [c2,IV,if_false] at hb
   exact (ko.grow.qn b hb).imp (fun h=>h) (fun h=>h.elim (fun h=>(km b h).elim) (fun h=>h))
 have ot:c.Le c2:=⟨ko.grow.size,fun b hb hX=>⟨hold b hb,fun zQ=>zQ.elim (fun h=>h.elim (fun h=>hX (.inl (.inl h))) (fun h=>(IS b h).elim (fun h=>hX (.inl (.inr h))) (fun h=>absurd hb (Nat.not_lt.2 h)))) (fun h=>hX (.inr h))⟩,lI⟩
 have Kn:∀ b,c2.Q b ≠ .none→b<c'.w.heap.size:=fun b hb=>by
  by_cases IV:v.ownBlock=some b
  ·exact (gW.gr id).lt hB (.inl IV)
  ·simp only [c2,IV,if_false] at hb; exact (gW.cN b hb).2.2
 have jc:bU c2 m0:=⟨fun i=>br.mono ot (fun _=>jk.refl _) (fun be b Hy hb=>hold b ((hm.gr i).lt Hy hb)) (hm.gr i),hm.inj,hm.jG,fun b hb=>Nat.lt_of_lt_of_le (hm.o3 b hb) ko.grow.size,fun b hb=>⟨fun h=>(IS b hb).elim (fun q=>(hm.cN b q).1 h) (fun q=>absurd (hm.o3 b h) (Nat.not_lt.2 q)),fun h=>(IS b hb).elim (fun q=>(hm.cN b q).2.1 h) (fun q=>absurd (hm.kP h) (Nat.not_lt.2 q)),Kn b hb⟩⟩
 have Km:c'.Le c2:=by
  refine ⟨Nat.le_refl _,fun b _ hX=>⟨rfl,fun zQ=>hX ?_⟩,fun b n hb=>⟨rfl,?_⟩⟩
  ·rcases zQ with (h | h) | h
   ·exact .inl (.inl (by rw [ko.grow.O]; exact .inl h))
   ·by_cases IV:v.ownBlock=some b
    ·exact .inr ⟨id,_,hB,.inl IV⟩
    ·simp only [c2,IV,if_false] at h; exact .inl (.inr h)
   ·exact .inl (.inl (by rw [ko.grow.O]; exact .inr h))
  ·simp only [c2]
   rw [if_neg (fun h=>(gW.cN b (by rw [hb]; simp)).2.1 ⟨id,_,hB,.inl h⟩)]; exact hb
 refine ⟨v,c2,ha,rfl,?_,jc,⟨⟨rfl,ko.grow.os,ko.grow.tape,ko.grow.output,ko.grow.drawn,ko.grow.size,fun b hb _ _=>hold b hb,fun _ b n hb=>(lI b n hb).2,fun b hb=>(IS b hb).imp (fun h=>h) (fun h=>.inr h),fun b hb=>.inl hb,fun i be _ hb=>⟨be,hb,.refl be⟩⟩,fun _=>jk.refl _,lI⟩⟩
 simp only [au]
 refine ⟨hk,EZ,us,bd,aC.mono Km (xs.map f) us (fun j hj=>by rw [ay _ EZ] at hj; cases hj) hl,hc,fun b hb=>?_⟩
 simp only [c2,hb,if_true,List.length_map]
end Go.L
namespace Go.L
structure rR (q:Bool) (c c':Cx):Prop where
 B:∀ id be,id ≠ dj→c.B id=some be→c'.B id=some be
 size:c.w.heap.size≤c'.w.heap.size
 heap:∀ b,b<c.w.heap.size→¬ c.X b→c'.w.heap[b]?=c.w.heap[b]?∧¬ c'.X b
 own:∀ b,c.own b→c'.w.heap[b]?=c.w.heap[b]?
 aJ:q=true→∀ b n,c.Q b=some n→b<c'.w.heap.size∧¬ c'.X b∧∀ j,j<n→c'.w.cell? ⟨b,j,.none⟩=c.w.cell? ⟨b,j,.none⟩
def Rel (q:Bool) (x y:LV):Prop:=∀ c c' v,rR q c c'→au c x v→au c' y v
def ln (q:Bool):List LV→List LV→Prop
 | [],[]=>True
 | x :: xs,y :: ys=>Rel q x y∧ln q xs ys
 | _,_=>False
variable {q:Bool}
theorem lB:ln q [] []:=trivial
theorem eR {x y:LV} {xs ys:List LV} (h:Rel q x y) (hr:ln q xs ys):ln q (x :: xs) (y :: ys):=⟨h,hr⟩
theorem ln.rep:∀ {xs ys:List LV},ln q xs ys→∀ {c c':Cx} {vs:List Value},rR q c c'→aC c xs vs→aC c' ys vs
 | [],[],_,c,c',vs,_,h=>by simpa only [aC] using h
 | x :: xs,y :: ys,hs,c,c',vs,hc,h=>by
  simp only [aC] at h ⊢
  obtain ⟨v,fH,h0,h1,h2⟩:=h
  exact ⟨v,fH,h0,hs.1 c c' v hc h1,ln.rep hs.2 hc h2⟩
theorem ln.map {α:Type} {f g:α→LV} (h:∀ z,Rel q (f z) (g z)):∀ (xs:List α),ln q (xs.map f) (xs.map g)
 | []=>trivial
 | x :: xs=>⟨h x,ln.map h xs⟩
theorem Rel.int {k:IntKind} {n:Int}:Rel q (.int k n) (.int k n):=fun c c' v _ h=>by simpa only [au] using h
theorem Rel.bool {b:Bool}:Rel q (.bool b) (.bool b):=fun c c' v _ h=>by simpa only [au] using h
theorem Rel.str {s:ByteArray}:Rel q (.str s) (.str s):=fun c c' v _ h=>by simpa only [au] using h
theorem Rel.nil:Rel q .nil .nil:=fun c c' v _ h=>by simpa only [au] using h
theorem Rel.eB {x:LV}:Rel q x .eB:=fun c c' v _ h=>by simp only [au]
theorem Rel.agg {xs ys:List LV} (h:ln q xs ys):Rel q (.agg xs) (.agg ys):=fun c c' v hc hv=>by
 simp only [au] at hv ⊢
 obtain ⟨vs,h0,h1⟩:=hv
 exact ⟨vs,h0,h.rep hc h1⟩
theorem Rel.ag {xs ys:List LV} (h:ln q xs ys):Rel q (.ag xs) (.ag ys):=fun c c' v hc hv=>by
 simp only [au] at hv ⊢
 obtain ⟨b,off,vs,h0,hb,hX,hl,h1,fQ⟩:=hv
 obtain ⟨g1,g2⟩:=hc.heap b hb hX
 exact ⟨b,off,vs,h0,Nat.lt_of_lt_of_le hb hc.size,g2,h.rep hc hl,h1,dX fQ g1⟩
theorem Rel.ptr {id o:Nat} (hn:Nat.beq id dj=false):Rel q (.ptr id o) (.ptr id o):=fun c c' v hc hv=>by
 simp only [au] at hv ⊢
 obtain ⟨b,n,h0,h1⟩:=hv
 exact ⟨b,n,hc.B id _ (fun he=>by rw [he] at hn; cases hn) h0,h1⟩
theorem Rel.ak {α:Type} {f g:α→LV} {k:Nat} (h:∀ z,Rel q (f z) (g z)) (hg:∀ z,(g z).pure=true) {xs:List α}:Rel q (.ak k (xs.map f)) (.ak k (xs.map g)):=fun c c' v hc hv=>by
 simp only [au,List.length_map] at hv ⊢
 obtain ⟨a,cap,h1,h2,h3,h4,h5⟩:=hv
 refine ⟨a,cap,h1,h2,h3,cH.2 fun y hy=>?_,?_⟩
 ·obtain ⟨z,_,rfl⟩:=List.mem_map.1 hy; exact hg z
 ·rcases h5 with h5 | ⟨b,off,vs,q1,q2,q3,q4,q5,q6⟩
  ·exact .inl (by simpa using h5)
  ·obtain ⟨g1,g2⟩:=hc.heap b q2 q3
   exact .inr ⟨b,off,vs,q1,Nat.lt_of_lt_of_le q2 hc.size,g2,(ln.map h xs).rep hc q4,q5,dX q6 g1⟩
theorem Rel.aJ {α:Type} {f g:α→LV} {T:Bool} {e k:Nat} (h:∀ z,Rel true (f z) (g z)) (hg:∀ z,(g z).pure=true) {xs:List α}:Rel true (.aJ T e k (xs.map f)) (.ak k (xs.map g)):=fun c c' v hc hv=>by
 cases T
 ·exact Rel.ak h hg c c' v hc (Sub.To c v hv)
 ·simp only [au,List.length_map] at hv ⊢
  obtain ⟨hk,hp,vs,ho,hl,tP,hq⟩:=hv
  have iD:=(ln.map h xs).rep hc hl
  have Kv:LV.bj (xs.map g)=true:=cH.2 fun y hy=>by obtain ⟨z,_,rfl⟩:=List.mem_map.1 hy; exact hg z
  have hlen:xs.length=vs.length:=by simpa using hl.length
  rcases ho.2 with ⟨rfl,h0⟩ | ⟨b,cap,cur,rfl,_,hb,kf,_⟩
  ·exact ⟨.none,0,by rw [h0],by omega,fun _=>rfl,Kv,.inl (by simpa using List.eq_nil_of_length_eq_zero h0)⟩
  ·obtain ⟨g1,g2,g3⟩:=hc.aJ rfl b _ (hq b rfl)
   refine ⟨some ⟨b,0,.none⟩,cap,rfl,kf,by simp,Kv,.inr ⟨b,0,vs,rfl,g1,g2,iD,tP,fun j u hu=>?_⟩⟩
   have fQ:=cR ho rfl j u hu
   rw [Nat.zero_add] at fQ ⊢
   rw [g3 j ?_]; exact fQ
   have:=(List.getElem?_eq_some_iff.1 hu).1
   rw [dt (k:=k) (fun v hv=>(tP v hv).1),← hlen] at this
   exact this
def gY (q:Bool) (x y:LE):Prop:=∀ c c' (z:Option BE),rR q c c'→(∀ be b,z=some be→be.has b→c.own b)→br c (some x) z→br c' (some y) z
theorem gY.box {cs ds:List LV} (h:ln q cs ds):gY q (.box cs) (.box ds):=fun c c' z hc hz hr=>by
 simp only [br] at hr ⊢
 obtain ⟨b,vs,e,rfl,h1,h2,h3⟩:=hr
 have iD:=h.rep hc h2
 exact ⟨b,vs,e,by rw [h2.length,iD.length],(hc.own b (hz _ b rfl rfl)).trans h1,iD,h3⟩
theorem gY.dead:gY q .dead .dead:=fun c c' z hc hz hr=>by simpa only [br] using hr
def qU (q:Bool):List (Nat × LE)→List (Nat × LE)→Prop
 | [],[]=>True
 | x :: r,y :: s=>(y.1=x.1∧gY q x.2 y.2)∧qU q r s
 | _,_=>False
theorem LD:qU q [] []:=trivial
theorem tW {i:Nat} {x y:LE} {r s:List (Nat × LE)} (h:gY q x y) (hr:qU q r s):qU q ((i,x) :: r) ((i,y) :: s):=⟨⟨rfl,h⟩,hr⟩
theorem qU.at:∀ {r s:List (Nat × LE)},qU q r s→∀ i,(Mem.of r i=.none∧Mem.of s i=.none) ∨ ∃ x y,Mem.of r i=some x∧Mem.of s i=some y∧gY q x y
 | [],[],_,i=>.inl ⟨rfl,rfl⟩
 | (a,x) :: r,(b,y) :: s,h,i=>by
  obtain ⟨⟨h1,h2⟩,h3⟩:=h
  simp only at h1 h2
  subst h1
  simp only [Mem.of]
  by_cases hi:i=b
  ·simp only [hi,if_true]; exact .inr ⟨x,y,rfl,rfl,h2⟩
  ·simp only [hi,if_false]; exact qU.at h3 i
def o4 (q:Bool):List (Nat × LV)→List (Nat × LV)→Prop
 | [],[]=>True
 | x :: r,y :: s=>(y.1=x.1∧Rel q x.2 y.2)∧o4 q r s
 | _,_=>False
theorem PW:o4 q [] []:=trivial
theorem wb {i:Nat} {x y:LV} {r s:List (Nat × LV)} (h:Rel q x y) (hr:o4 q r s):o4 q ((i,x) :: r) ((i,y) :: s):=⟨⟨rfl,h⟩,hr⟩
theorem o4.at:∀ {r s:List (Nat × LV)},o4 q r s→∀ i,Rel q (Env.of r i) (Env.of s i)
 | [],[],_,i=>fun c c' v _ _=>by simp [Env.of,au]
 | (a,x) :: r,(b,y) :: s,h,i=>by
  obtain ⟨⟨h1,h2⟩,h3⟩:=h
  simp only at h1 h2
  subst h1
  simp only [Env.of]
  by_cases hi:i=b
  ·simp only [hi,if_true]; exact h2
  ·simp only [hi,if_false]; exact o4.at h3 i
theorem Ar {c:Cx} {m:Mem} (hM:bU c m) (w':World) (fh:c.w.heap.size≤w'.heap.size) (hk:∀ b,b<c.w.heap.size→c.Q b=.none→w'.heap[b]?=c.w.heap[b]?) (ht:∀ b n,c.Q b=some n→∀ j,j<n→w'.cell? ⟨b,j,.none⟩=c.w.cell? ⟨b,j,.none⟩) :
  rR true c ⟨w',c.B,c.O,fun _=>.none⟩ where
 B:=fun id be _ h=>h
 size:=fh
 heap:=fun b hb hx=>⟨hk b hb (by cases hq:c.Q b with | none=>rfl | some n=>exact absurd (.inl (.inr (by rw [hq]; simp))) hx),fun nS=>by
  rcases nS with (h | h) | h
  ·exact hx (.inl (.inl h))
  ·exact h rfl
  ·exact hx (.inr h)⟩
 own:=fun b hb=>hk b (hM.kP hb) (by cases hq:c.Q b with | none=>rfl | some n=>exact absurd hb (hM.cN b (by rw [hq]; simp)).2.1)
 aJ:=fun _ b n hb=>by
  have hn:=hM.cN b (by rw [hb]; simp)
  refine ⟨Nat.lt_of_lt_of_le hn.2.2 fh,fun nS=>?_,ht b n hb⟩
  rcases nS with (h | h) | h
  ·exact hn.1 h
  ·exact h rfl
  ·exact hn.2.1 h
theorem oO {c:Cx} {ml dg:List (Nat × LE)} {w':World} (hM:bU c (Mem.of ml)) (hl:rR true c ⟨w',c.B,c.O,fun _=>.none⟩) (hr:qU true ml dg):bU ⟨w',c.B,c.O,fun _=>.none⟩ (Mem.of dg):=by
 refine ⟨fun i=>?_,hM.inj,hM.jG,fun b hb=>Nat.lt_of_lt_of_le (hM.o3 b hb) hl.size,fun b hb=>absurd rfl hb⟩
 have he:=hM.gr i
 rcases hr.at i with ⟨h1,h2⟩ | ⟨x,y,h1,h2,h3⟩
 ·rw [h1] at he; rw [h2]; simpa only [br] using he
 ·rw [h1] at he; rw [h2]
  exact h3 c _ _ hl (fun be b hz hb=>⟨i,be,hz,hb⟩) he
theorem Wk.loose {pr:Nat→Prop} {el fk:List (Nat × LV)} {ml dg:List (Nat × LE)} (hp:pr dj) (he:o4 true el fk) (hm:qU true ml dg):Wk pr (Env.of el) (Mem.of ml) (Env.of fk) (Mem.of dg):=by
 intro N c a hr
 have hl:=Ar hr.mem c.w (Nat.le_refl _) (fun _ _ _=>rfl) (fun _ _ _ _ _=>rfl)
 refine ⟨⟨c.w,c.B,c.O,fun _=>.none⟩,rfl,⟨fun i=>he.at i c _ _ hl (hr.env i),oO hr.mem hl hm,hr.size,hr.defers⟩,?_⟩
 exact ⟨rfl,rfl,rfl,rfl,Nat.le_refl _,Nat.le_refl _,fun _ _ _ _=>rfl,fun h=>absurd hp h,fun b hb=>absurd rfl hb,fun b hb=>.inl hb,fun i be _ hb=>⟨be,hb,.refl be⟩⟩
theorem tD {P:Program} {w:World} {t ty e:TypeId} {i:TypeInfo} {z:Value} (ht:P.underlying t=some (.slice e)) (hi:P.info? e=some i) (hz:i.zero=some z) (zm:z.cells.size=i.size) (eY:0<i.size) (DJ:i.bytes≤256)
  {v:Value} {n:Nat} {xs:List Value} (bd:w.ownsRow 0 e i.size v n xs) {a:Addr} {q cap:Nat} {news:List Value} (hl:news.length=q * i.size) (lJ:∀ j u,news[j]?=some u→w.cell? (a.add j)=some u) (h1:∀ u ∈ news,u.oneCell'=true)
  (hb:n+q≤549755813888) :
  ∃ v' w',(Builtin.append_ #[t,t] ty #[v,.slice (some a) q cap]).run P w=.ok v' w'∧w'.ownsRow 0 e i.size v' (n+q) (xs++news)∧w.grownBy w' v.ownBlock∧(∀ b,v'.ownBlock=some b→v.ownBlock=some b ∨ w.heap.size≤b)∧w.drawn≤w'.drawn∧∀ b,v.ownBlock=some b→w'.rangeAt b 0 xs:=by
 obtain ⟨v',w',hr,h2,h3,h4,h5,h6⟩:=fV (P:=P) (ty:=ty) ht hi hz zm eY DJ bd (cap:=cap) hl lJ h1 hb
 refine ⟨v',w',hr,h2,h3,h4,h6,fun b DI=>?_⟩
 rcases bd.2 with ⟨rfl,rfl⟩ | ⟨g,zG,cur,rfl,Cr,hg,kf,zi,hcs,Nu⟩
 ·simp [Value.ownBlock] at DI
 ·have MU:g=b:=by simpa [Value.ownBlock] using DI
  subst MU
  have hmul:(n+q) * i.bytes≤140737488355328:=by
   have:=Nat.mul_le_mul hb DJ
   omega
  have MH:n+q≤maxLen:=by simp only [maxLen]; omega
  by_cases nR:n+q≤zG
  ·have xg:n * i.size+news.length≤cur.size:=by rw [hl,hcs,← Nat.add_mul]; exact Nat.mul_le_mul_right _ nR
   have fz:=run_append_room (P:=P) w t ty e i ht hi g n zG cur hg a q cap news hl lJ h1 nR xg
   rw [hr] at fz
   cases fz
   have:=cR h2 (b:=g) rfl
   intro j u hu
   refine this j u ?_
   rw [List.getElem?_append_left (List.getElem?_eq_some_iff.1 hu).1]; exact hu
  ·have holds:∀ j u,xs[j]?=some u→w.cell? ((⟨g,0,.none⟩:Addr).add j)=some u:=bd.cells (g:=g) rfl
   have fz:=run_append_grow (P:=P) w t ty e i z ht hi hz ⟨g,0,.none⟩ n zG xs bd.1 holds a q cap news hl lJ (by omega) (by simp only [maxLen] at MH; omega) (growslice_fits (by omega) hmul)
   rw [hr] at fz
   cases fz
   have dN:g<w.heap.size:=(Array.getElem?_eq_some_iff.1 hg).1
   exact dX (cR bd rfl) (pn w.drew _ g dN)
section
variable {P:Program} {N:Nat} {pr:Nat→Prop} {ops:Array Oper} {l:List Oper} {KE:Env→Mem→Prop}
theorem AU {α:Type} {f g:α→LV} {xs ys r:List α} {i el kk:Nat} {t ty:TypeId} {pos:String} {af:Array Edge} {x y:Operand} {es jn:List (Nat × LV)} {ml dg:List (Nat × LE)} (hp:pr dj) (he:telem P t=some el) (hr:gy P el=true) (hs:tsize P el=kk) (hx:cZ (Env.of es) x=.aJ true el kk (xs.map f)) (hy:cZ (Env.of es) y=.ak kk (ys.map f)) (hl:app xs ys=some r) (TY:∀ z,Rel true (f z) (g z)) (hg:∀ z,(g z).pure=true) (VC:o4 true es jn) (VD:qU true ml dg)
  (hn:cS P N pr ops l KE ((Env.of jn).put i (.ak kk (r.map g))) (Mem.of dg)):cS P N pr ops (⟨some i,.call ⟨.builtin .append,#[x,y],#[t,t]⟩,ty,pos,af,.none⟩ :: l) KE (Env.of es) (Mem.of ml):=by
 intro hd M9
 obtain ⟨e2,m2,hK,jy⟩:=hn hd (fun q hq=>M9 q (by simp [hq]))
 refine ⟨e2,m2,hK,fun c a bQ=>?_⟩
 simp only [wpList]
 rw [if_pos (by simp [Region.wanted])]
 left
 obtain ⟨h0,rfl⟩:=Bi hl
 subst hs
 have hu:=fG he
 obtain ⟨it,z,hi,hz,zm,DT,eY,DJ,qB⟩:=qa hr
 have dN:i<N:=hd ⟨some i,.call ⟨.builtin .append,#[x,y],#[t,t]⟩,ty,pos,af,.none⟩ (M9 _ (by simp)) i rfl
 have pw:=bQ.ev x
 rw [hx] at pw
 have oX:=bQ.ev y
 rw [hy] at oX
 simp only [au,List.length_map] at pw
 obtain ⟨hk,Nj,vs,ho,IN,IF,hq⟩:=pw
 rw [qB] at ho IF hq
 have hlen:xs.length=vs.length:=by simpa using IN.length
 -- the outcome
 have key:∃ v' w',(Builtin.append_ #[t,t] ty #[a.eval x,a.eval y]).run P c.w=.ok v' w'∧c.w.heap.size≤w'.heap.size∧(∀ b,b<c.w.heap.size→c.Q b=.none→w'.heap[b]?=c.w.heap[b]?)∧(∀ b n,c.Q b=some n→∀ j,j<n→w'.cell? ⟨b,j,.none⟩=c.w.cell? ⟨b,j,.none⟩) ∧
   w'.os=c.w.os∧w'.tape=c.w.tape∧w'.output=c.w.output∧c.w.drawn≤w'.drawn ∧
   ∃ us,aC c (ys.map f) us∧(∀ v ∈ us,v.cells.size=it.size∧∀ y ∈ v.cells,y.oneCell'=true)∧LV.bj (ys.map f)=true∧w'.ownsRow 0 el it.size v' (xs.length+ys.length) (flat (vs++us))∧(∀ b,v'.ownBlock=some b→(a.eval x).ownBlock=some b ∨ c.w.heap.size≤b):=by
  rcases GO (k:=tsize P el) (.inl rfl) oX with ⟨Rg,hv⟩ | ⟨ad,cap,us,hv,Ko,EH,EZ,fQ⟩
  ·have HN:ys=[]:=by simpa using Rg
   subst HN
   refine ⟨a.eval x,c.w,?_,Nat.le_refl _,fun _ _ _=>rfl,fun _ _ _ _ _=>rfl,rfl,rfl,rfl,Nat.le_refl _,[],by simp [aC],by simp,by simp [LV.bj],by simpa using ho,fun b hb=>.inl hb⟩
   rw [hv,run_append_owned_none (P:=P) (w:=c.w) 0 t ty el it it.size hu hi (a.eval x) xs.length _ ho]
  ·rw [qB] at EH
   have Kp:ys.length=us.length:=by simpa using Ko.length
   have Cz:(flat us).length=ys.length * it.size:=by rw [dt (k:=it.size) (fun v hv=>(EH v hv).1),Kp]
   simp only [List.length_map] at hv
   obtain ⟨v',w',dD,h2,h3,h4,h5,h6⟩:=tD (P:=P) (ty:=ty) hu hi hz zm eY DJ ho (cap:=cap) Cz fQ (fun q hq=>by
    simp only [flat,List.mem_flatMap] at hq
    obtain ⟨v,hv,hq⟩:=hq
    exact (EH v hv).2 q (by simpa using hq)) h0
   refine ⟨v',w',by rw [hv]; exact dD,h3.size,fun b hb HI=>h3.block b hb fun hh=>?_,fun b n HI j hj=>?_,h3.os,h3.tape,h3.output,h5,us,Ko,EH,EZ,by rw [eD]; exact h2,h4⟩
   ·rw [hq b hh.symm] at HI; cases HI
   ·by_cases qz:(a.eval x).ownBlock=some b
    ·rw [hq b qz] at HI
     cases HI
     have RE:(flat vs).length=xs.length * it.size:=by rw [dt (k:=it.size) (fun v hv=>(IF v hv).1),← hlen]
     obtain ⟨u,E8⟩:∃ u,(flat vs)[j]?=some u:=⟨(flat vs)[j]'(by omega),by simp [show j<(flat vs).length by omega]⟩
     have g1:=h6 b qz j u E8
     have g2:=cR ho qz j u E8
     rw [Nat.zero_add] at g1 g2
     rw [g1,g2]
    ·have vE:=(bQ.mem.cN b (by rw [HI]; simp)).2.2
     exact ux (h3.block b vE fun hh=>qz hh.symm) j
 obtain ⟨v',w',dD,fh,T3,VJ,DO,pt,ov,xd,us,Ko,EH,EZ,hZ,hblk⟩:=key
 have rB:=Ar bQ.mem w' fh T3 VJ
 let c':Cx:=⟨w',c.B,c.O,fun _=>.none⟩
 have UW:bU c' (Mem.of dg):=oO bQ.mem rB VD
 have jx:Grow pr c c':=⟨rfl,DO,pt,ov,xd,fh,fun b hb _ oW=>T3 b hb (oW.elim (fun h=>h) (fun h=>absurd hp h)),fun h=>absurd hp h,fun b hb=>absurd rfl hb,fun b hb=>.inl hb,fun j be _ hb=>⟨be,hb,.refl be⟩⟩
 have KN:au c' (.ak (tsize P el) ((xs++ys).map g)) v':=by
  have M9:aC c' ((xs++ys).map g) (vs++us):=by
   rw [List.map_append]
   exact ((ln.map TY xs).rep rB IN).append ((ln.map TY ys).rep rB Ko)
  have Kv:LV.bj ((xs++ys).map g)=true:=cH.2 fun y hy=>by obtain ⟨z,_,rfl⟩:=List.mem_map.1 hy; exact hg z
  simp only [au,List.length_map,List.length_append]
  rcases hZ.2 with ⟨rfl,Ug⟩ | ⟨b,cap,cur,rfl,_,hb,kf,_⟩
  ·exact ⟨.none,0,by rw [Ug],by omega,fun _=>rfl,Kv,.inl (by simpa using (List.eq_nil_of_length_eq_zero (by simpa using Ug):xs++ys=[]))⟩
  ·refine ⟨some ⟨b,0,.none⟩,cap,rfl,kf,by simp,Kv,.inr ⟨b,0,vs++us,rfl,(Array.getElem?_eq_some_iff.1 hb).1,?_,M9,fun v hv=>by rw [qB]; exact (List.mem_append.1 hv).elim (IF v) (EH v),cR hZ rfl⟩⟩
   rcases hblk b rfl with h | h
   ·exact (rB.aJ rfl b _ (hq b h)).2.1
   ·rintro ((h' | h') | h')
    ·have:=bQ.mem.o3 b h'; omega
    ·exact h' rfl
    ·have:=bQ.mem.kP (show c.own b from h'); omega
 have Bu:(execOp a.eval ⟨some i,.call ⟨.builtin .append,#[x,y],#[t,t]⟩,ty,pos,af,.none⟩).run P c.w=.ok (.value v') w':=by
  simp [execOp,resolve,invoke,builtin,dD,Result.andThen]
 unfold Oper.wp
 rw [Bu,Oper.upon_value]
 have sK:lS N c' ((Env.of jn).put i (.ak (tsize P el) ((xs++ys).map g))) (Mem.of dg) (a.put (some i) v'):=by
  refine ⟨fun j=>?_,UW,by simp [Act.put,bQ.size],bQ.defers⟩
  simp only [Env.put,Act.put]
  by_cases hj:j=i
  ·subst hj
   have:j<a.tmps.size:=by rw [bQ.size]; exact dN
   simpa [this] using KN
  ·simp only [hj,if_false]
   simpa [Array.getElem?_setIfInBounds_ne (Ne.symm hj)] using VC.at j c c' _ rB (bQ.env j)
 refine ga _ _ _ _ _ ?_ (jy c' _ sK)
 rintro x Ms LU ⟨hx,c2,qC,fz,pg⟩
 exact ⟨hx,c2,qC,fz,jx.trans pg⟩
end
theorem aP.view {P:Program} {f:Nat} {args gk:List LV} {lv:LV} (h:aP P f gk (Mem.of []) lv (Mem.of [])) (ha:ln true args gk) (hv:lv.kA=true) (hr:lv.refs=[]):aP P f args (Mem.of []) lv (Mem.of []):=by
 intro c vs hm hargs
 have rB:=Ar hm c.w (Nat.le_refl _) (fun _ _ _=>rfl) (fun _ _ _ _ _=>rfl)
 have hB:∀ id,c.B id=.none:=fun id=>hm.fresh rfl
 have km:∀ b,¬ c.own b:=by rintro b ⟨id,be,h1,_⟩; rw [hB] at h1; cases h1
 refine (h ⟨c.w,c.B,c.O,fun _=>.none⟩ vs (oO (ml:=[]) (dg:=[]) hm rB trivial) (ha.rep rB hargs)).mono ?_
 rintro en w' ⟨v,c1,rfl,rfl,iv,kz,hg⟩
 have Ks:∀ b,¬ (⟨c1.w,fun _=>.none,c.O,c.Q⟩:Cx).own b:=by rintro b ⟨id,be,h1,_⟩; cases h1
 refine ⟨v,⟨c1.w,fun _=>.none,c.O,c.Q⟩,rfl,rfl,⟨fun id=>rfl,fun i i' be ey b h1=>(by cases h1),fun b ho=>(Ks b ho).elim,fun b hb=>Nat.lt_of_lt_of_le (hm.o3 b hb) hg.size,fun b hb=>⟨(hm.cN b hb).1,Ks b,Nat.lt_of_lt_of_le (hm.cN b hb).2.2 hg.size⟩⟩,au.je lv v hv (fun id bC=>?_) kz,?_⟩
 ·have:=iP lv bC
  rw [hr] at this; cases this
 ·exact ⟨rfl,hg.os,hg.tape,hg.output,hg.drawn,hg.size,fun b hb ho _=>hg.jr b hb (fun h'=>ho h') (.inl rfl),fun _ b n hb=>hb,fun b hb=>.inl hb,fun b hb=>(Ks b hb).elim,fun id be hp=>absurd rfl hp⟩
theorem aP.Im {P:Program} {f:Nat} {args:List LV} {nk uM:List (Nat × LE)} {lv:LV} (h:aP P f args (Mem.of ((dj,.dead) :: nk)) lv (Mem.of ((dj,.dead) :: uM))) (h0:Mem.of nk dj=.none) (h1:Mem.of uM dj=.none)
  (ha:ln false args args) (ph:qU false nk nk) (iv:qU false uM uM) (hv:Rel false lv lv):aP P f args (Mem.of nk) lv (Mem.of uM):=by
 intro c vs hm hargs
 have US:c.B dj=.none:=hm.fresh h0
 let c0:Cx:=⟨c.w,fun i=>if i=dj then some (.arr (.slice .none 0 0) 1 1 []) else c.B i,fun b=>c.O b ∨ c.Q b ≠ .none,fun _=>.none⟩
 have Bs:∀ i,i ≠ dj→c0.B i=c.B i:=fun i hi=>by simp [c0,hi]
 have Hu:c0.B dj=some (.arr (.slice .none 0 0) 1 1 []):=by simp [c0]
 have uE:∀ b,c0.own b ↔ c.own b:=by
  intro b
  constructor
  ·rintro ⟨i,be,g1,g2⟩
   by_cases hi:i=dj
   ·subst hi; rw [Hu] at g1; cases g1; simp [BE.has,Value.ownBlock] at g2
   ·rw [Bs i hi] at g1; exact ⟨i,be,g1,g2⟩
  ·rintro ⟨i,be,g1,g2⟩
   have hi:i ≠ dj:=fun hi=>by rw [hi,US] at g1; cases g1
   exact ⟨i,be,by rw [Bs i hi]; exact g1,g2⟩
 have rB:rR false c c0:=⟨fun id be bC hb=>by rw [Bs id bC]; exact hb,Nat.le_refl _,fun b hb hx=>⟨rfl,fun nS=>by
  rcases nS with (h' | h') | h'
  ·rcases h' with h' | h'
   ·exact hx (.inl (.inl h'))
   ·exact hx (.inl (.inr h'))
  ·exact h' rfl
  ·exact hx (.inr ((uE b).1 h'))⟩,fun b _=>rfl,fun hq=>by cases hq⟩
 have UX:bU c0 (Mem.of ((dj,.dead) :: nk)):=by
  refine ⟨fun i=>?_,fun i j be ey b g1 g2 g3 g4=>?_,fun b ho hO=>?_,fun b hb=>?_,fun b hb=>absurd rfl hb⟩
  ·by_cases hi:i=dj
   ·subst hi
    rw [Hu]
    simp only [Mem.of,if_true,br]
    exact ⟨_,_,_,rfl,rfl⟩
   ·rw [Bs i hi]
    simp only [Mem.of,hi,if_false]
    have he:=hm.gr i
    rcases ph.at i with ⟨e1,_⟩ | ⟨x,y,e1,e2,e3⟩
    ·rw [e1] at he ⊢; simpa only [br] using he
    ·rw [e1] at he; rw [e2]
     exact e3 c c0 _ rB (fun be b hz hb=>⟨i,be,hz,hb⟩) he
  ·by_cases hi:i=dj
   ·subst hi; rw [Hu] at g1; cases g1; simp [BE.has,Value.ownBlock] at g3
   ·by_cases hj:j=dj
    ·subst hj; rw [Hu] at g2; cases g2; simp [BE.has,Value.ownBlock] at g4
    ·rw [Bs i hi] at g1; rw [Bs j hj] at g2; exact hm.inj i j be ey b g1 g2 g3 g4
  ·have rb:=(uE b).1 ho
   rcases hO with hO | hO
   ·exact hm.jG b rb hO
   ·exact (hm.cN b hO).2.1 rb
  ·rcases hb with hb | hb
   ·exact hm.o3 b hb
   ·exact (hm.cN b hb).2.2
 refine (h c0 vs UX (ha.rep rB hargs)).mono ?_
 rintro en w' ⟨v,c1,rfl,rfl,Qs,kz,hg⟩
 let c':Cx:=⟨c1.w,fun i=>if i=dj then .none else c1.B i,c.O,c.Q⟩
 have iq:∀ i,i ≠ dj→c'.B i=c1.B i:=fun i hi=>by simp [c',hi]
 have hZ:∀ b,c'.own b→c1.own b:=by
  rintro b ⟨i,be,g1,g2⟩
  by_cases hi:i=dj
  ·simp [c',hi] at g1
  ·rw [iq i hi] at g1; exact ⟨i,be,g1,g2⟩
 have Qu:∀ b,c1.O b ↔ c.O b ∨ c.Q b ≠ .none:=fun b=>by rw [hg.O]
 have Na:rR false c1 c':=⟨fun id be bC hb=>by rw [iq id bC]; exact hb,Nat.le_refl _,fun b hb hx=>⟨rfl,fun nS=>by
  rcases nS with (h' | h') | h'
  ·exact hx (.inl (.inl ((Qu b).2 (.inl h'))))
  ·exact hx (.inl (.inl ((Qu b).2 (.inr h'))))
  ·exact hx (.inr (hZ b h'))⟩,fun b _=>rfl,fun hq=>by cases hq⟩
 have eY:c.w.heap.size≤c1.w.heap.size:=hg.size
 refine ⟨v,c',rfl,rfl,⟨fun i=>?_,fun i j be ey b g1 g2 g3 g4=>?_,fun b ho hO=>Qs.jG b (hZ b ho) ((Qu b).2 (.inl hO)),fun b hb=>Nat.lt_of_lt_of_le (hm.o3 b hb) eY,fun b hb=>⟨(hm.cN b hb).1,fun ho=>Qs.jG b (hZ b ho) ((Qu b).2 (.inr hb)),Nat.lt_of_lt_of_le (hm.cN b hb).2.2 eY⟩⟩,hv c1 c' v Na kz,?_⟩
 ·by_cases hi:i=dj
  ·subst hi
   rw [h1]; simp [br,c']
  ·rw [iq i hi]
   have he:=Qs.gr i
   simp only [Mem.of,hi,if_false] at he
   rcases iv.at i with ⟨e1,_⟩ | ⟨x,y,e1,e2,e3⟩
   ·rw [e1] at he ⊢; simpa only [br] using he
   ·rw [e1] at he; rw [e2]
    exact e3 c1 c' _ Na (fun be b hz hb=>⟨i,be,hz,hb⟩) he
 ·by_cases hi:i=dj
  ·simp [c',hi] at g1
  ·by_cases hj:j=dj
   ·simp [c',hj] at g2
   ·rw [iq i hi] at g1; rw [iq j hj] at g2; exact Qs.inj i j be ey b g1 g2 g3 g4
 ·refine ⟨rfl,hg.os,hg.tape,hg.output,hg.drawn,hg.size,fun b hb ho _=>hg.jr b hb (fun h'=>ho ((uE b).1 h')) (.inl rfl),fun _ b n hb=>hb,fun b hb=>.inl hb,fun b hb=>(hg.own b (hZ b hb)).imp (fun h'=>(uE b).1 h') (fun h'=>h'),fun i be hp hb=>?_⟩
  have hi:i ≠ dj:=fun hi=>by rw [hi] at hp; exact hp h0
  obtain ⟨ey,g1,g2⟩:=hg.AB i be (by simpa [Mem.of,hi] using hp) (by rw [Bs i hi]; exact hb)
  exact ⟨ey,by rw [iq i hi]; exact g1,g2⟩
theorem O5 {le:LE} {nk:List (Nat × LE)}:(fun id=>Mem.of ((dj,le) :: nk) id ≠ .none) dj:=fun h=>by simp [Mem.of] at h
end Go.L
namespace Go.L
def vu (n:Nat) (ops:Array Oper) (ei:List Nat):Bool :=
 (List.range ops.size).all fun i=>match ops[i]? with
  | some o=>(o.after.toList.all fun e=>!Region.binds .any e || decide (e.on<i)) && (List.range i).all fun k=>match ops[k]? with
   | some q=>(Nat.blt i n && yV ops (q,ei.getD k 2) (o,ei.getD i 2)) || ahead ops 8 k i
   | .none=>true
  | .none=>true
section
variable {P:Program} {N:Nat} {pr:Nat→Prop}
theorem kD {ops:Array Oper} {n:Nat} {ei:List Nat} (gv:vu n ops ei=true) {aO:Array Bool} (eY:aO.size=ops.size)
  (ll:∀ i o,ops[i]?=some o→aO.getD i true=true→∀ e ∈ o.after,Region.binds .any e=true→aO.getD e.on false=true) :
  (∀ i ∈ Region.ready .any ops aO,i ∈ left ops aO∧∀ o,ops[i]?=some o→∀ e ∈ o.after,Region.binds .any e=true→aO.getD e.on false=true) ∧
  (∀ i ∈ Region.ready .any ops aO,n≤i→∀ k,k<i→k ∉ left ops aO) ∧
  (Region.ready .any ops aO=[]→left ops aO=[]):=by
 have xd:=List.all_eq_true.1 gv
 have ox:∀ i ∈ Region.ready .any ops aO,i ∈ left ops aO∧∀ o,ops[i]?=some o→∀ e ∈ o.after,Region.binds .any e=true→aO.getD e.on false=true:=by
  intro i hi
  unfold Region.ready at hi
  simp only [List.mem_filter,Bool.and_eq_true] at hi
  refine ⟨by unfold left; exact List.mem_filter.2 ⟨hi.1,hi.2.1⟩,fun o ho e he hb=>?_⟩
  have h2:=hi.2.2
  rw [ho] at h2
  simp only [Option.map_some,Option.getD_some] at h2
  have:=(Array.all_eq_true_iff_forall_mem.1 h2) e he
  simpa [hb] using this
 refine ⟨ox,fun i hi T7 k xj hk=>?_,fun pj=>?_⟩
 ·obtain ⟨xi,p4⟩:=ox i hi
  have gu:=xi
  unfold left at gu
  simp only [List.mem_filter,List.mem_range] at gu
  have dN:=gu.1
  have sH:ops[i]?=some (ops[i]'dN):=by simp [dN]
  have h1:=xd i (by simpa using dN)
  rw [sH] at h1
  simp only [Bool.and_eq_true,List.all_eq_true] at h1
  have h2:=h1.2 k (by simpa using xj)
  have EW:ops[k]?=some (ops[k]'(by omega)):=by simp [show k<ops.size by omega]
  rw [EW] at h2
  have RR:Nat.blt i n=false:=by
   cases hb:Nat.blt i n with
   | false=>rfl
   | true=>have:=Nat.le_of_ble_eq_true hb; omega
  simp only [RR,Bool.false_and,Bool.false_or] at h2
  have h3:=jz ll eY 8 k i _ sH (p4 _ sH) h2
  unfold left at hk
  simp only [List.mem_filter,List.mem_range] at hk
  have h5:k<aO.size:=by omega
  have h6:=hk.2
  simp [h5] at h3 h6
  rw [h3] at h6; cases h6
 ·have E1:(left ops aO).Pairwise (·<·):=by unfold left; exact List.Pairwise.filter _ List.pairwise_lt_range
  cases hl:left ops aO with
  | nil=>rfl
  | cons i r =>
   exfalso
   have xi:i ∈ left ops aO:=by rw [hl]; simp
   have gu:=xi
   unfold left at gu
   simp only [List.mem_filter,List.mem_range] at gu
   have dN:=gu.1
   have sH:ops[i]?=some (ops[i]'dN):=by simp [dN]
   have M3:i ∈ Region.ready .any ops aO:=by
    unfold Region.ready
    simp only [List.mem_filter,List.mem_range,Bool.and_eq_true]
    refine ⟨dN,gu.2,?_⟩
    rw [sH]
    simp only [Option.map_some,Option.getD_some]
    rw [Array.all_eq_true_iff_forall_mem]
    intro e he
    by_cases hb:Region.binds .any e=true
    ·have h1:=xd i (by simpa using dN)
     rw [sH] at h1
     simp only [Bool.and_eq_true,List.all_eq_true] at h1
     have h2:=h1.1 e (by simpa using he)
     simp only [hb,Bool.not_true,Bool.false_or,decide_eq_true_eq] at h2
     have h3:e.on ∉ left ops aO:=by
      rw [hl]
      intro hm
      rw [hl] at E1
      rcases List.mem_cons.1 hm with h4 | h4
      ·omega
      ·have:=(List.pairwise_cons.1 E1).1 _ h4; omega
     unfold left at h3
     simp only [List.mem_filter,List.mem_range,not_and] at h3
     have h4:=h3 (by omega)
     have h5:e.on<aO.size:=by omega
     simp only [hb,Bool.not_true,Bool.false_or]
     simpa [h5] using h4
    ·simp [hb]
   rw [pj] at M3; cases M3
theorem xv {ops:Array Oper} {aO:Array Bool} (eY:aO.size=ops.size) (i:Nat):left ops (aO.setIfInBounds i true)=(left ops aO).filter fun k=>k != i:=by
 unfold left
 rw [List.filter_filter]
 apply List.filter_congr
 intro k hk
 have hk:=List.mem_range.1 hk
 by_cases xj:k=i
 ·subst xj
  have:k<aO.size:=by omega
  simp [this]
 ·simp [Array.getElem?_setIfInBounds_ne (Ne.symm xj),xj]
theorem se {ops:Array Oper} {aO:Array Bool} (eY:aO.size=ops.size) (ll:∀ i o,ops[i]?=some o→aO.getD i true=true→∀ e ∈ o.after,Region.binds .any e=true→aO.getD e.on false=true) {i:Nat} (p4:∀ o,ops[i]?=some o→∀ e ∈ o.after,Region.binds .any e=true→aO.getD e.on false=true) (hi:i<ops.size) :
  ∀ j o,ops[j]?=some o→(aO.setIfInBounds i true).getD j true=true→∀ e ∈ o.after,Region.binds .any e=true→(aO.setIfInBounds i true).getD e.on false=true:=by
 intro j o Ng hj e he hb
 have iE:∀ q,aO.getD q false=true→(aO.setIfInBounds i true).getD q false=true:=by
  intro q hq
  by_cases Nl:q=i
  ·subst Nl
   have:q<aO.size:=by omega
   simp [this]
  ·simpa [Array.getElem?_setIfInBounds_ne (Ne.symm Nl)] using hq
 apply iE
 by_cases HB:j=i
 ·subst HB; exact p4 o Ng e he hb
 ·refine ll j o Ng ?_ e he hb
  simpa [Array.getElem?_setIfInBounds_ne (Ne.symm HB)] using hj
theorem tN {n:Nat} {ops:Array Oper} {ei:List Nat} (gv:vu n ops ei=true) {Q:Exit→Act→World→Prop}:∀ (s:List Oper) (j fuel:Nat) (aO:Array Bool) (a:Act) (w:World),n≤j→j+s.length=ops.size→(∀ i,s[i]?=ops[j+i]?)→aO.size=ops.size→s.length≤fuel→left ops aO=(List.range' j s.length) →
  (∀ i o,ops[i]?=some o→aO.getD i true=true→∀ e ∈ o.after,Region.binds .any e=true→aO.getD e.on false=true)→wpList P ops Q s a w→wpAny P .any ops Q fuel aO a w
 | [],j,fuel,aO,a,w,hj,hs,Sn,eY,hf,hl,ll,h=>by
  obtain ⟨g1,g2,g3⟩:=kD gv eY ll
  have ep:Region.ready .any ops aO=[]:=by
   rw [List.eq_nil_iff_forall_not_mem]
   intro i hi
   have:=(g1 i hi).1
   rw [hl] at this; cases this
  cases fuel with
  | zero=>exact ⟨ep,h⟩
  | succ fuel=>exact ⟨fun _=>h,fun i hi=>by rw [ep] at hi; cases hi⟩
 | o :: s,j,fuel,aO,a,w,hj,hs,Sn,eY,hf,hl,ll,h=>by
  obtain ⟨g1,g2,g3⟩:=kD gv eY ll
  cases fuel with
  | zero=>simp at hf
  | succ fuel =>
   refine ⟨fun pj=>?_,fun i hi=>?_⟩
   ·have:=g3 pj
    rw [hl] at this; simp [List.range'] at this
   ·obtain ⟨xi,p4⟩:=g1 i hi
    rw [hl] at xi
    simp only [List.mem_range'_1,List.length_cons] at xi
    have rA:i=j:=by
     rcases Nat.lt_or_ge j i with dN | MV
     ·exact absurd (by rw [hl]; simp [List.mem_range'_1]) (g2 i hi (by omega) j dN)
     ·omega
    subst rA
    have sH:ops[i]?=some o:=by have:=Sn 0; simpa using this.symm
    have dN:i<ops.size:=by simp only [List.length_cons] at hs; omega
    have jy:∀ a w,wpList P ops Q s a w→wpAny P .any ops Q fuel (aO.setIfInBounds i true) a w:=fun a w h' =>
     tN gv s (i+1) fuel (aO.setIfInBounds i true) a w (by omega) (by simp only [List.length_cons] at hs; omega) (fun k=>by have:=Sn (k+1); simp only [List.getElem?_cons_succ] at this; rw [this]; congr 1; omega) (by simpa using eY) (by simp only [List.length_cons] at hf; omega) (by
      rw [xv eY,hl,List.length_cons,List.range'_succ,List.filter_cons]
      simp only [bne_self_eq_false,Bool.false_eq_true,if_false]
      rw [List.filter_eq_self.2]
      intro k hk
      have:=(List.mem_range'_1.1 hk).1
      simp; omega) (se eY ll p4 dN) h'
    simp only [wpList] at h
    unfold wpOp
    rw [sH]
    simp only
    split
    ·rename_i hw
     rw [if_pos hw] at h
     exact h.imp (Oper.wp_mono jy) (fun h=>h)
    ·rename_i hw
     rw [if_neg hw] at h
     exact jy _ _ h
theorem LH.OU {LC n:Nat} {l:List Oper} {Q:Exit→Env→Mem→Prop} {e:Env} {m:Mem} (Ac:P.follows .mixedOrders=true) (ro:List Nat) (ei:List Nat) (Ra:List (Nat × LV)) (uM:List (Nat × LE)) (el:List (Nat × LV)) (ml:List (Nat × LE)) (hlen:ei.length=n) (hn:n≤l.length) (hd:od N l=true) (gv:vu n l.toArray ei=true)
  (h:cA P pr ro l.toArray ((l.take n).zip ei) (fun e m=>Wk pr e m (Env.of Ra) (Mem.of uM)) e m) (h2:cS P N pr l.toArray (l.drop n) (fun e m=>Wk pr e m (Env.of el) (Mem.of ml)) (Env.of Ra) (Mem.of uM)) (hr:Q .normal (Env.of el) (Mem.of ml)):LH P N pr (.region LC l.toArray true) Q e m:=by
 obtain ⟨e1,m1,TJ,hc⟩:=ku _ h
 obtain ⟨e2,m2,TK,dD⟩:=h2 (rz hd) (fun o ho=>by simp only [List.mem_toArray]; exact List.mem_of_mem_drop ho)
 refine ⟨.normal,_,_,fun c a hr=>?_,hr⟩
 have SV:((List.range n).map fun i=>(l.getD i default,ei.getD i 2))=(l.take n).zip ei:=by
  have:=qm (l.take n) ei (by rw [hlen,List.length_take,Nat.min_eq_left hn])
  rw [← this,List.length_take,Nat.min_eq_left hn]
  apply List.map_congr_left
  intro i hi
  have hi:=List.mem_range.1 hi
  simp [List.getElem?_take,hi]
 rw [← SV] at hc
 refine wp_region_any Ac ?_
 have MQ:=rz hd
 have xd:=List.all_eq_true.1 gv
 have key : ∀ (fuel : Nat) (aO : Array Bool) (A : List Nat) (e0 : Env) (m0 : Mem) (c0 : Cx) (a0 : Act), aO.size = l.toArray.size → left l.toArray aO = A ++ List.range' n (l.length - n) → (∀ k ∈ A, k < n) → (left l.toArray aO).length ≤ fuel →
   (∀ i o,l.toArray[i]?=some o→aO.getD i true=true→∀ e ∈ o.after,Region.binds .any e=true→aO.getD e.on false=true) →
   nL P pr ro l.toArray (A.map fun i=>(l.getD i default,ei.getD i 2)) e0 m0 e1 m1→lS N c0 e0 m0 a0→Grow pr c c0 →
   wpAny P .any l.toArray (fun x a' w'=>x=.normal∧∃ c':Cx,c'.w=w'∧lS N c' (Env.of el) (Mem.of ml) a'∧Grow pr c c') fuel aO a0 c0.w:=by
  intro fuel
  induction fuel with
  | zero =>
   intro aO A e0 m0 c0 a0 eY hY hA Cz ll zh E3 vD
   have IM:left l.toArray aO=[]:=List.eq_nil_of_length_eq_zero (by omega)
   rw [IM] at hY
   have hA0:A=[]:=by cases A with | nil=>rfl | cons x A=>simp at hY
   subst hA0
   obtain ⟨rfl,rfl⟩:=zh
   obtain ⟨c1,Bz,ec,zj⟩:=TJ N c0 a0 E3
   have hz:l.length - n=0:=by have:=congrArg List.length hY; simpa using this.symm
   have MP:l.drop n=[]:=List.eq_nil_of_length_eq_zero (by simpa using hz)
   have xo:=dD c1 a0 ec
   rw [MP] at xo
   obtain ⟨_,c2,qC,fz,pg⟩:=xo
   obtain ⟨c3,QG,nf,RF⟩:=TK N c2 a0 fz
   refine ⟨?_,rfl,c3,by rw [QG,qC,Bz],nf,((vD.trans zj).trans pg).trans RF⟩
   obtain ⟨g1,g2,g3⟩:=kD gv eY ll
   rw [List.eq_nil_iff_forall_not_mem]
   intro i hi
   have:=(g1 i hi).1
   rw [IM] at this; cases this
  | succ fuel ih =>
   intro aO A e0 m0 c0 a0 eY hY hA Cz ll zh E3 vD
   obtain ⟨g1,g2,g3⟩:=kD gv eY ll
   by_cases hA0:A=[]
   ·subst hA0
    obtain ⟨rfl,rfl⟩:=zh
    obtain ⟨c1,Bz,ec,zj⟩:=TJ N c0 a0 E3
    have xo:=dD c1 a0 ec
    rw [Bz] at xo
    rw [List.nil_append] at hY
    refine tN gv (l.drop n) n (fuel+1) aO a0 c0.w (Nat.le_refl _) (by simp; omega) (fun i=>by simp [List.getElem?_drop]) eY (by rw [hY] at Cz; simpa using Cz) (by rw [hY,List.length_drop]) ll ?_
    refine ga _ _ _ _ _ ?_ xo
    rintro x a' w' ⟨rfl,c2,rfl,fz,pg⟩
    obtain ⟨c3,QG,nf,RF⟩:=TK N c2 a' fz
    exact ⟨rfl,c3,QG,nf,((vD.trans zj).trans pg).trans RF⟩
   ·have E1:(left l.toArray aO).Pairwise (·<·):=by unfold left; exact List.Pairwise.filter _ List.pairwise_lt_range
    refine ⟨fun pj=>?_,fun i hi=>?_⟩
    ·exfalso
     have:=g3 pj
     rw [hY] at this
     exact hA0 (List.append_eq_nil_iff.1 this).1
    ·obtain ⟨xi,p4⟩:=g1 i hi
     have DK:i<n:=by
      rcases Nat.lt_or_ge i n with h' | h'
      ·exact h'
      ·exfalso
       obtain ⟨k,hk⟩:=List.exists_mem_of_ne_nil A hA0
       exact g2 i hi h' k (by have:=hA k hk; omega) (by rw [hY]; simp [hk])
     have Vh:i ∈ A:=by
      rw [hY] at xi
      rcases List.mem_append.1 xi with h' | h'
      ·exact h'
      ·have:=(List.mem_range'_1.1 h').1; omega
     have gu:=xi
     unfold left at gu
     simp only [List.mem_filter,List.mem_range] at gu
     have dN:=gu.1
     have Kk:i<l.length:=by simpa using dN
     have sH:l.toArray[i]?=some (l.getD i default):=by simp [Kk]
     obtain ⟨pre,post,jo⟩:=List.append_of_mem Vh
     have Kz:A.Pairwise (·<·):=by rw [hY] at E1; exact (List.pairwise_append.1 E1).1
     rw [jo] at Kz
     have sJ:∀ k ∈ pre,k<i:=fun k hk=>(List.pairwise_append.1 Kz).2.2 k hk i (by simp)
     have vF:∀ k ∈ post,i<k:=fun k hk=>(List.pairwise_cons.1 (List.pairwise_append.1 Kz).2.1).1 k hk
     have sE:left l.toArray (aO.setIfInBounds i true)=(pre++post)++List.range' n (l.length - n):=by
      rw [xv eY,hY,jo,List.filter_append,List.filter_append,List.filter_cons]
      simp only [bne_self_eq_false,Bool.false_eq_true,if_false]
      rw [List.filter_eq_self.2 (fun k hk=>by have:=sJ k hk; simp; omega),List.filter_eq_self.2 (fun k hk=>by have:=vF k hk; simp; omega),List.filter_eq_self.2 (fun k hk=>by have:=(List.mem_range'_1.1 hk).1; simp; omega)]
     rw [jo,List.map_append,List.map_cons] at zh
     have z8:=oE _ _ (by
      intro x hx
      simp only [List.mem_map] at hx
      obtain ⟨k,hk,rfl⟩:=hx
      have h1:=xd i (by simpa using dN)
      rw [sH] at h1
      simp only [Bool.and_eq_true,List.all_eq_true] at h1
      have xj:=sJ k hk
      have h2:=h1.2 k (by simpa using xj)
      have EW:l.toArray[k]?=some (l.getD k default):=by simp [show k<l.length by omega]
      rw [EW] at h2
      simp only [Bool.or_eq_true,Bool.and_eq_true] at h2
      rcases h2 with h2 | h2
      ·exact h2.2
      ·exfalso
       have h3:=jz ll eY 8 k i _ sH (p4 _ sH) h2
       have h4:k ∈ left l.toArray aO:=by rw [hY,jo]; simp [hk]
       unfold left at h4
       simp only [List.mem_filter,List.mem_range] at h4
       have h5:k<aO.size:=by omega
       have h6:=h4.2
       simp [h5] at h3 h6
       rw [h3] at h6; cases h6) zh
     obtain ⟨lv,mm,ov,jy⟩:=z8
     unfold wpOp
     rw [sH]
     simp only
     refine wM MQ (MQ _ (Array.mem_of_getElem? sH)) ov c0 a0 _ _ E3 ?_
     intro a' c' tZ E6
     refine ih (aO.setIfInBounds i true) (pre++post) _ mm c' a' (by simpa using eY) sE ?_ ?_ (se eY ll p4 dN) ?_ tZ (vD.trans E6.grow)
     ·intro k hk
      refine hA k ?_
      rw [jo]
      rcases List.mem_append.1 hk with h' | h' <;> simp [h']
     ·rw [sE]
      rw [hY,jo] at Cz
      simp at Cz ⊢; omega
     ·rw [List.map_append]; exact jy
 have hY:left l.toArray (Array.replicate l.toArray.size false)=List.range n++List.range' n (l.length - n):=by
  unfold left
  rw [List.filter_eq_self.2]
  ·have hh:=List.range'_append_1 (s:=0) (m:=n) (n:=l.length - n)
   rw [Nat.zero_add] at hh
   rw [List.size_toArray,List.range_eq_range',List.range_eq_range',hh]
   congr 1; omega
  ·intro i hi
   simp at hi
   simp [hi]
 have tZ:lS N ⟨{ c.w with drawn:=c.w.drawn+1 },c.B,c.O,c.Q⟩ e m a:=by
  obtain ⟨iv,Sl⟩:=hr.mem.ext (pr:=pr) { c.w with drawn:=c.w.drawn+1 } rfl rfl rfl (Nat.le_succ _) (Nat.le_refl _) (fun _ _=>rfl)
  exact ⟨fun i=>Sl.wg (hr.env i),iv,hr.size,hr.defers⟩
 have sA:Grow pr c ⟨{ c.w with drawn:=c.w.drawn+1 },c.B,c.O,c.Q⟩:=(hr.mem.ext (pr:=pr) { c.w with drawn:=c.w.drawn+1 } rfl rfl rfl (Nat.le_succ _) (Nat.le_refl _) (fun _ _=>rfl)).2.grow
 refine key l.toArray.size (Array.replicate l.toArray.size false) (List.range n) e m ⟨{ c.w with drawn:=c.w.drawn+1 },c.B,c.O,c.Q⟩ a (by simp) hY (fun k hk=>List.mem_range.1 hk) ?_ ?_ hc tZ sA
 ·unfold left
  exact Nat.le_trans (List.length_filter_le _ _) (by simp)
 ·intro i o ho hl
  have:i<l.toArray.size:=by
   rcases Nat.lt_or_ge i l.toArray.size with h' | h'
   ·exact h'
   ·simp at h'; simp [List.getElem?_eq_none h'] at ho
  simp at this
  simp [this] at hl
end
end Go.L
