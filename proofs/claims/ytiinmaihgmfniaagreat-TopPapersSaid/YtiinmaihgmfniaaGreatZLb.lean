import Derived.Test.YtiinmaihgmfniaaGreatZLa
import Derived.WideKeyElems
import Derived.Lib.AppendZeros
import Derived.Lib.SliceRun
import Derived.Lib.Overlaps
import Derived.Laws.IdiomCopy
import Derived.Laws.StructEq
import Derived.Shelf.SlSortCmp.NoneTotal
import Derived.Laws.Strings
import Derived.Laws.Concat
import Derived.Laws.BytesString
set_option linter.unusedVariables false
set_option linter.unusedSimpArgs false
namespace Go.L
abbrev LV.I:Int→LV:=LV.int .i64
abbrev LV.L (xs:List Int):LV:=.lst 1 (xs.map (LV.int .i64))
abbrev di (P : Program) (f : Nat) : Prop := ∃ fn, P.funcs[f]? = some fn ∧ (fn.name == "runtime.NumGoroutine") = false ∧ fn.body.isNone = false
def Sub (x y:LV):Prop:=∀ c v,ao c x v→ao c y v
def fc:List LV→List LV→Prop
 | [],[]=>True
 | x :: xs,y :: ys=>Sub x y∧fc xs ys
 | _,_=>False
theorem Sub.rfl {x:LV}:Sub x x:=fun _ _ h=>h
theorem Sub.fp {x:LV}:Sub x .fp:=fun _ _ _=>by simp [ao]
theorem Sub.nil {k:Nat}:Sub .nil (.lst k []):=fun c v h=>by
 simp only [ao] at h ⊢
 subst h
 exact ⟨.none,0,by rfl,Nat.le_refl _,fun _=>by rfl,by rfl,.inl trivial⟩
theorem fc.rep:∀ {xs ys:List LV},fc xs ys→∀ {c:Cx} {vs:List Value},aD c xs vs→aD c ys vs
 | [],[],_,c,vs,h=>h
 | x :: xs,y :: ys,hs,c,vs,h=>by
  simp only [aD] at h ⊢
  obtain ⟨v,fD,h0,h1,h2⟩:=h
  exact ⟨v,fD,h0,hs.1 c v h1,fc.rep hs.2 h2⟩
theorem fc.rfl:∀ {xs:List LV},fc xs xs
 | []=>trivial
 | x :: xs=>⟨Sub.rfl,fc.rfl⟩
theorem Sub.agg {xs ys:List LV} (h:fc xs ys):Sub (.agg xs) (.agg ys):=fun c v hv=>by
 simp only [ao] at hv ⊢
 obtain ⟨vs,h0,h1⟩:=hv
 exact ⟨vs,h0,h.rep h1⟩
theorem Sub.tup {xs ys:List LV} (h:fc xs ys):Sub (.tup xs) (.tup ys):=fun c v hv=>by
 simp only [ao] at hv ⊢
 obtain ⟨vs,h0,h1⟩:=hv
 exact ⟨vs,h0,h.rep h1⟩
theorem aF.sub {P:Program} {f:Nat} {args ew:List LV} {m m':Mem} {lv:LV} (h:aF P f ew m lv m') (hs:fc args ew):aF P f args m lv m':=fun c vs hm ha=>h c vs hm (hs.rep ha)
theorem aF.res {P:Program} {f:Nat} {args:List LV} {m m':Mem} {lv yn:LV} (h:aF P f args m lv m') (hs:Sub lv yn):aF P f args m yn m':=fun c vs hm ha=>(h c vs hm ha).mono fun en w' ⟨v,c',h1,h2,h3,h4,h5⟩=>⟨v,c',h1,h2,h3,hs c' v h4,h5⟩
def pG {α:Type} (k:Nat) (f:α→LV):Prop:=∀ x,(f x).pure=true∧(f x).cells.length=k∧(f x).cells.all LV.scalar=true
theorem pG.els {α:Type} {k:Nat} {f:α→LV} (h:pG k f) (xs:List α):tO k (xs.map f):=by
 intro x hx
 obtain ⟨y,_,rfl⟩:=List.mem_map.1 hx
 exact h y
theorem pG.bf {α:Type} {k:Nat} {f:α→LV} (h:pG k f) (xs:List α):LV.bf (xs.map f)=true:=dg.2 fun x hx=>by
 obtain ⟨y,_,rfl⟩:=List.mem_map.1 hx
 exact (h y).1
theorem gB {k:IntKind}:pG 1 (LV.int k):=fun _=>⟨by rfl,by rfl,by rfl⟩
theorem okB:pG 1 LV.bool:=fun _=>⟨by rfl,by rfl,by rfl⟩
theorem XZ {α:Type} {k:Nat} {f:α→LV}:pG 1 (fun xs:List α=>LV.lst k (xs.map f)):=fun _=>⟨by rfl,by rfl,by rfl⟩
def idx {α:Type} (xs:List α) (i:Int):Option α:=if 0≤i then xs[i.toNat]? else .none
def UG {α:Type} (xs:List α) (a b:Int):Option (List α):=if 0≤a∧a≤b∧b≤xs.length then some ((xs.take b.toNat).drop a.toNat) else .none
def app {α:Type} (xs ys:List α):Option (List α):=if xs.length+ys.length≤549755813888 then some (xs++ys) else .none
def quo (k:IntKind) (a b:Int):Option Int:=if b=0 then .none else some (k.wrap (a.tdiv b))
def Uy (a b:Int):Option Int:=if b=0 then .none else some (a.tmod b)
def yo {α:Type} (z:α) (n:Int):Option (List α):=if 0≤n∧n≤549755813888 then some (List.replicate n.toNat z) else .none
def put {α:Type} (xs:List α) (i:Int) (f:α→α):Option (List α):=(idx xs i).bind fun x=>some (xs.set i.toNat (f x))
abbrev i64 (n:Int):Int:=IntKind.i64.wrap n
theorem aa {α β:Type} {o:Option α} {f:α→Option β} {r:β} (h:o.bind f=some r):∃ a,o=some a∧f a=some r:=by
 cases o with
 | none=>cases h
 | some a=>exact ⟨a,rfl,h⟩
theorem bO {α:Type} {b:Bool} {x y:Option α} {r:α} (h:(if b=true then x else y)=some r) (hb:b=true):x=some r:=by rw [if_pos hb] at h; exact h
theorem bN {α:Type} {b:Bool} {x y:Option α} {r:α} (h:(if b=true then x else y)=some r) (hb:b=false):y=some r:=by rw [if_neg (by simp [hb])] at h; exact h
theorem bF {b:Bool} (h:¬ b=true):b=false:=by cases b <;> simp_all
section
variable {P:Program} {N:Nat} {pr:Nat→Prop} {ro:List Nat} {ops:Array Oper} {e:Env} {m:Mem} {ev:Operand→LV} {d:Option Nat} {i j q:Nat} {want:Bool} {op:Op} {ty:TypeId} {pos:String} {af:Array Edge} {g:Option (Nat × Bool)} {l:List Oper} {eh:List Nat} {KE:Env→Mem→Prop} {K:LV→Mem→Prop}
def cH (P:Program) (N:Nat) (pr:Nat→Prop) (ops:Array Oper) (l:List Oper) (K:Env→Mem→Prop) (e:Env) (m:Mem):Prop :=
 (∀ q ∈ ops,∀ i,q.dst=some i→i<N)→(∀ o ∈ l,o ∈ ops)→∃ e' m',K e' m'∧∀ (c:Cx) (a:Act),oh N c e m a→wpList P ops (fun x a' w'=>x=.normal∧∃ c':Cx,c'.w=w'∧oh N c' e' m' a'∧Grow pr c c') l a c.w
theorem gJ:∀ (l:List Oper) (a:Act) (w:World) (Q Q':Exit→Act→World→Prop),(∀ x a w,Q x a w→Q' x a w)→wpList P ops Q l a w→wpList P ops Q' l a w:=by
 intro l
 induction l with
 | nil=>intro a w Q Q' hq hh; exact hq _ _ _ hh
 | cons o l ih =>
  intro a w Q Q' hq hh
  simp only [wpList] at hh ⊢
  split
  ·rename_i QJ
   rw [if_pos QJ] at hh
   rcases hh with hh | ⟨h1,a0,w0,h2⟩
   ·left
    unfold Oper.wp at hh ⊢
    generalize (execOp a.eval o).run P w=r at hh ⊢
    cases r with
    | ok nx w' =>
     cases nx <;> simp only [Oper.upon] at hh ⊢ <;> first
      | exact ih _ _ _ _ hq hh
      | exact Calls.mono hh (fun en UT he=>by cases en <;> first | exact ih _ _ _ _ hq he | exact hq _ _ _ he | exact he.imp fun _=>Exists.imp fun _=>hq _ _ _)
      | exact Rows.mono hh (fun _ _ he=>ih _ _ _ _ hq he)
    | halt x w'=>cases x <;> simp only [Oper.upon] at hh ⊢ <;> first | exact hq _ _ _ hh | exact hh
   ·exact .inr ⟨h1,a0,w0,hq _ _ _ h2⟩
  ·rename_i QJ
   rw [if_neg QJ] at hh
   exact ih _ _ _ _ hq hh
theorem cH.step {o:Oper} (h:He P pr ro ops o (cH P N pr ops l KE) e m):cH P N pr ops (o :: l) KE e m:=by
 intro hd hl
 obtain ⟨lv,m1,h1,WM⟩:=BA hd (hd o (hl o (by simp))) h
 obtain ⟨e',m',hK,kj⟩:=h1 hd (fun q hq=>hl q (by simp [hq]))
 refine ⟨e',m',hK,fun c a hr=>?_⟩
 simp only [wpList]
 refine WM c a _ _ hr ?_
 intro a' c' om hs
 refine gJ _ _ _ _ _ ?_ (kj c' a' om)
 rintro x VH UT ⟨hx,c2,rL,hr2,hg2⟩
 exact ⟨hx,c2,rL,hr2,hs.grow.trans hg2⟩
theorem cH.wk {e':Env} {m':Mem} (hw:Wk pr e m e' m') (h:cH P N pr ops l KE e' m'):cH P N pr ops l KE e m:=by
 intro hd hl
 obtain ⟨e2,m2,hK,dD⟩:=h hd hl
 refine ⟨e2,m2,hK,fun c a hr=>?_⟩
 obtain ⟨c1,hw1,dI,Bg⟩:=hw N c a hr
 rw [← hw1]
 refine gJ _ _ _ _ _ ?_ (dD c1 a dI)
 rintro x a' w' ⟨hx,c2,rL,hr2,hg2⟩
 exact ⟨hx,c2,rL,hr2,Bg.trans hg2⟩
theorem s0 (h:KE e m):cH P N pr ops [] KE e m:=fun _ _=>⟨e,m,h,fun c a hr=>⟨rfl,c,rfl,hr,.refl pr c⟩⟩
theorem sN (h:LOp P pr [] ⟨some i,op,ty,pos,af,.none⟩ (dZ e) m fun lv m'=>cH P N pr ops l KE (e.put i lv) m'):cH P N pr ops (⟨some i,op,ty,pos,af,.none⟩ :: l) KE e m:=cH.step (ro:=[]) h
theorem sB (h:LOp P pr [i] ⟨some i,op,ty,pos,af,.none⟩ (dZ e) m fun lv m'=>cH P N pr ops l KE (e.put i lv) m'):cH P N pr ops (⟨some i,op,ty,pos,af,.none⟩ :: l) KE e m:=cH.step (ro:=[i]) h
theorem s_ (h:LOp P pr [] ⟨.none,op,ty,pos,af,.none⟩ (dZ e) m fun lv m'=>cH P N pr ops l KE e m'):cH P N pr ops (⟨.none,op,ty,pos,af,.none⟩ :: l) KE e m:=cH.step (ro:=[]) h
theorem sT (hj:(ops[j]?).bind (·.dst)=some q) (hg:e q=.bool want) (h:LOp P pr [] ⟨some i,op,ty,pos,af,some (j,want)⟩ (dZ e) m fun lv m'=>cH P N pr ops l KE (e.put i lv) m'):cH P N pr ops (⟨some i,op,ty,pos,af,some (j,want)⟩ :: l) KE e m:=cH.step (ro:=[]) (by
 rw [qw,hj]; simp only [hg,if_true]; exact h)
theorem sF {t:Bool} (hj:(ops[j]?).bind (·.dst)=some q) (hg:e q=.bool t) (hn:t=!want) (h:cH P N pr ops l KE (e.put i (.tup [])) m):cH P N pr ops (⟨some i,op,ty,pos,af,some (j,want)⟩ :: l) KE e m:=cH.step (ro:=[]) (by
 subst hn
 rw [qw,hj]; simp only [hg]; cases want <;> exact h)
theorem sU (hj:(ops[j]?).bind (·.dst)=some q) (hg:e q=.tup []) (h:cH P N pr ops l KE (e.put i (.tup [])) m):cH P N pr ops (⟨some i,op,ty,pos,af,some (j,want)⟩ :: l) KE e m:=cH.step (ro:=[]) (by
 rw [qw,hj]; simp only [hg]; exact h)
theorem m0 (h:KE e m):cE P pr ro ops (List.zip [] []) KE e m:=h
theorem aI (h:LOp P pr ro ⟨some i,op,ty,pos,af,.none⟩ (dZ e) Mem.none fun lv m'=>m'=Mem.none∧cE P pr ro ops (List.zip l eh) KE (e.put i lv) m):cE P pr ro ops (List.zip (⟨some i,op,ty,pos,af,.none⟩ :: l) (0 :: eh)) KE e m:=h
theorem Kg (h:LOp P pr ro ⟨some i,op,ty,pos,af,.none⟩ (dZ e) m fun lv m'=>m'=m∧cE P pr ro ops (List.zip l eh) KE (e.put i lv) m):cE P pr ro ops (List.zip (⟨some i,op,ty,pos,af,.none⟩ :: l) (1 :: eh)) KE e m:=h
theorem E2 (h:LOp P pr ro ⟨some i,op,ty,pos,af,.none⟩ (dZ e) m fun lv m'=>cE P pr ro ops (List.zip l eh) KE (e.put i lv) m'):cE P pr ro ops (List.zip (⟨some i,op,ty,pos,af,.none⟩ :: l) (2 :: eh)) KE e m:=h
theorem mT {md:Nat} (hj:(ops[j]?).bind (·.dst)=some q) (hg:e q=.bool want) (h:cE P pr ro ops (List.zip (⟨d,op,ty,pos,af,.none⟩ :: l) (md :: eh)) KE e m):cE P pr ro ops (List.zip (⟨d,op,ty,pos,af,some (j,want)⟩ :: l) (md :: eh)) KE e m:=by
 show gx P pr ro ops md _ _ e m
 rw [u9,hj]; simp only [hg,if_true]; exact h
theorem mF {md:Nat} {t:Bool} (hj:(ops[j]?).bind (·.dst)=some q) (hg:e q=.bool t) (hn:t=!want) (h:cE P pr ro ops (List.zip l eh) KE (e.put i (.tup [])) m):cE P pr ro ops (List.zip (⟨some i,op,ty,pos,af,some (j,want)⟩ :: l) (md :: eh)) KE e m:=by
 subst hn
 show gx P pr ro ops md _ _ e m
 rw [u9,hj]; simp only [hg]; cases want <;> exact h
theorem mU {md:Nat} (hj:(ops[j]?).bind (·.dst)=some q) (hg:e q=.tup []) (h:cE P pr ro ops (List.zip l eh) KE (e.put i (.tup [])) m):cE P pr ro ops (List.zip (⟨some i,op,ty,pos,af,some (j,want)⟩ :: l) (md :: eh)) KE e m:=by
 show gx P pr ro ops md _ _ e m
 rw [u9,hj]; simp only [hg]; exact h
variable {x y a:Operand} {t t':TypeId} {k k':IntKind} {v:LV} {u w:Int} {b c:Bool} {cs eA:List LV} {n id o off el ft kk:Nat}
theorem oM (hx:ev x=v) (h:K v m):LOp P pr ro ⟨d,.move x,ty,pos,af,g⟩ ev m K:=by rw [LOp_move,hx]; exact h
theorem oA (hx:ev x=v) (h:K v m):LOp P pr ro ⟨d,.assign x,ty,pos,af,g⟩ ev m K:=by rw [LOp_assign,hx]; exact h
theorem F6 {z:Operand} (hc:ev x=.bool true) (ha:ev y=v) (h:K v m):LOp P pr ro ⟨d,.pick x y z,ty,pos,af,g⟩ ev m K:=by rw [LOp_pick,hc]; simp only [if_true]; rw [ha]; exact h
theorem Jr {z:Operand} (hc:ev x=.bool false) (ha:ev z=v) (h:K v m):LOp P pr ro ⟨d,.pick x y z,ty,pos,af,g⟩ ev m K:=by rw [LOp_pick,hc]; simp only [Bool.false_eq_true,if_false]; rw [ha]; exact h
theorem ib {z:LV} (hi:100+i=id) (hz:tzero P t=some z) (hc:z.cells=cs) (hf:m id=.none) (h:K (.ptr id 0) (m.put id (.box cs))):LOp P pr ro ⟨some i,.alloc t,ty,pos,af,g⟩ ev m K:=by
 subst hi; subst hc; rw [LOp_alloc,hz]; exact ⟨hf,h⟩
theorem da (hr:ro.contains i=true) (hx:ev x=v) (hc:v.cells=cs) (hs:cs.all LV.scalar=true) (h:K (.sptr cs) m):LOp P pr ro ⟨some i,.box t x,ty,pos,af,g⟩ ev m K:=by
 subst hc; rw [LOp_box,hx,if_pos hr]; exact ⟨hs,h⟩
theorem oBx (hr:ro.contains i=false) (hi:100+i=id) (hx:ev x=v) (hc:v.cells=cs) (hs:cs.all LV.scalar=true) (hf:m id=.none) (h:K (.ptr id 0) (m.put id (.box cs))):LOp P pr ro ⟨some i,.box t x,ty,pos,af,g⟩ ev m K:=by
 subst hi; subst hc; rw [LOp_box,hx,if_neg (by rw [hr]; simp)]; exact ⟨hs,hf,h⟩
theorem gZ:oo P t cs []=some cs:=rfl
theorem lf {res:List LV} {r:List (Nat × LV)} (hf:tfield P t i=some (off,ft)) (hs:tsize P ft=v.cells.length) (hk:tok P ft=true) (hl:Nat.ble (off+v.cells.length) cs.length=true) (Bk:v.cells.all LV.scalar=true) (hr:rep cs off v.cells=eA) (h:oo P t eA r=some res):oo P t cs ((i,v) :: r)=some res:=by
 subst hr
 simp only [oo,hf]
 rw [if_pos ⟨hs.symm,Nat.le_of_ble_eq_true hl,hk,Bk⟩]; exact h
theorem hD {z:List LV} {ps:List (Nat × Operand)} {vs:List (Nat × LV)} (hb:tbuild P t=true) (hz:tzero P t=some (.agg z)) (hv:(ps.map fun p=>(p.1,ev p.2))=vs) (hf:oo P t z vs=some cs) (h:K (.agg cs) m):LOp P pr ro ⟨d,.build t ps.toArray,ty,pos,af,g⟩ ev m K:=by
 rw [LOp_build,hz]; refine ⟨hb,?_⟩; simp only [hv,hf]; exact h
theorem ic {α:Type} {f:α→LV} {ys:List α} {ps:List (Nat × Operand)} (he:telem P t=some el) (hr:fP P el=true) (hk:tsize P el=kk) (hb:Nat.ble (n * kk) 16777216=true) (hi:ps.map (·.1)=List.range n) (hv:(ps.map fun p=>ev p.2)=ys.map f) (iD:pG kk f) (h:K (.lst kk (ys.map f)) m):LOp P pr ro ⟨d,.buildSlice t n ps.toArray,ty,pos,af,g⟩ ev m K:=by
 subst hk
 rw [LOp_buildSlice,he]; exact ⟨hr,Nat.le_of_ble_eq_true hb,hi,by rw [hv]; exact iD.els ys,by rw [hv]; exact h⟩
theorem aS (hx:ev a=.sptr (v :: cs)) (ht:tok P t=true) (ha:tagg P t=false) (h:K v m):LOp P pr ro ⟨d,.load t a,ty,pos,af,g⟩ ev m K:=by
 rw [LOp_load,hx]; simp only [loadC_def,ha,Bool.false_eq_true,if_false]; exact ⟨ht,h⟩
theorem a7 (hx:ev a=.sptr cs) (ht:tok P t=true) (ha:tagg P t=true) (hs:tsize P t=n) (hl:Nat.ble n cs.length=true) (hc:cs.take n=eA) (h:K (.agg eA) m):LOp P pr ro ⟨d,.load t a,ty,pos,af,g⟩ ev m K:=by
 subst hc; subst hs
 rw [LOp_load,hx]; simp only [loadC_def,ha,if_true]; exact ⟨ht,Nat.le_of_ble_eq_true hl,h⟩
theorem de {r:List LV} (hx:ev a=.ptr id o) (hm:m id=some (.box cs)) (hl:Nat.ble o cs.length=true) (hc:cs.drop o=v :: r) (ht:tok P t=true) (ha:tagg P t=false) (h:K v m):LOp P pr ro ⟨d,.load t a,ty,pos,af,g⟩ ev m K:=by
 rw [LOp_load,hx]; simp only [hm,loadC_def,hc,ha,Bool.false_eq_true,if_false]; exact ⟨Nat.le_of_ble_eq_true hl,ht,h⟩
theorem wq (hx:ev a=.ptr id o) (hm:m id=some (.box cs)) (hl:Nat.ble o cs.length=true) (ht:tok P t=true) (ha:tagg P t=true) (hs:tsize P t=n) (FF:Nat.ble n (cs.drop o).length=true) (hc:(cs.drop o).take n=eA) (h:K (.agg eA) m):LOp P pr ro ⟨d,.load t a,ty,pos,af,g⟩ ev m K:=by
 subst hc; subst hs
 rw [LOp_load,hx]; simp only [hm,loadC_def,ha,if_true]; exact ⟨Nat.le_of_ble_eq_true hl,ht,Nat.le_of_ble_eq_true FF,h⟩
theorem oO {α:Type} {f:α→LV} {xs:List α} {z:α} {r:List LV} (hx:ev a=.eptr id xs.length j o) (hm:m id=some (.arr el kk (xs.map f))) (hz:xs[j]?=some z) (Bk:(f z).cells.all LV.scalar=true) (hl:Nat.ble o (f z).cells.length=true) (hc:(f z).cells.drop o=v :: r) (ht:tok P t=true) (ha:tagg P t=false) (h:K v m):LOp P pr ro ⟨d,.load t a,ty,pos,af,g⟩ ev m K:=by
 rw [LOp_load,hx]; simp only [hm,List.length_map,List.getElem?_map,hz,Option.map_some,loadC_def]
 exact ⟨trivial,f z,rfl,Bk,Nat.le_of_ble_eq_true hl,ht,by rw [ha,hc]; exact h⟩
theorem rU {α:Type} {f:α→LV} {xs:List α} {z:α} (hx:ev a=.eptr id xs.length j o) (hm:m id=some (.arr el kk (xs.map f))) (hz:xs[j]?=some z) (Bk:(f z).cells.all LV.scalar=true) (hl:Nat.ble o (f z).cells.length=true) (ht:tok P t=true) (ha:tagg P t=true) (hs:tsize P t=n) (FF:Nat.ble n ((f z).cells.drop o).length=true) (hc:((f z).cells.drop o).take n=eA) (h:K (.agg eA) m):LOp P pr ro ⟨d,.load t a,ty,pos,af,g⟩ ev m K:=by
 subst hc; subst hs
 rw [LOp_load,hx]; simp only [hm,List.length_map,List.getElem?_map,hz,Option.map_some,loadC_def]
 exact ⟨trivial,f z,rfl,Bk,Nat.le_of_ble_eq_true hl,ht,by rw [if_pos ha]; exact ⟨Nat.le_of_ble_eq_true FF,h⟩⟩
theorem cN (hx:ev a=.ptr id o) (hv:ev x=v) (Bk:v.cells.all LV.scalar=true) (ht:tok P t=true) (hs:tsize P t=v.cells.length) (hm:m id=some (.box cs)) (hl:Nat.ble (o+v.cells.length) cs.length=true) (hc:rep cs o v.cells=eA) (h:K .fp (m.put id (.box eA))):LOp P pr ro ⟨d,.store t a x,ty,pos,af,g⟩ ev m K:=by
 subst hc
 rw [LOp_store,hv,hx]; simp only [hm]; exact ⟨Bk,ht,hs,Nat.le_of_ble_eq_true hl,h⟩
theorem MG {α β:Type} (f:α→β) (xs:List α) (j:Nat) (z:α):(xs.map f).set j (f z)=(xs.set j z).map f:=by
 simp [List.map_set]
theorem kC {α:Type} {f:α→LV} {xs:List α} {z z':α} (hx:ev a=.eptr id xs.length j o) (hv:ev x=v) (Bk:v.cells.all LV.scalar=true) (hp:LV.bf v.cells=true) (ht:tok P t=true) (hs:tsize P t=v.cells.length) (hm:m id=some (.arr el kk (xs.map f))) (hz:xs[j]?=some z) (hw:Ex (f z) o v=some (f z')) (h:K .fp (m.put id (.arr el kk ((xs.set j z').map f)))):LOp P pr ro ⟨d,.store t a x,ty,pos,af,g⟩ ev m K:=by
 rw [LOp_store,hv,hx]; simp only [hm]
 exact ⟨Bk,ht,hs,by simp,hp,f z,f z',by simp [hz],hw,by rw [MG]; exact h⟩
theorem Jq (hx:ev x=.ptr id o) (h:K (.ptr id o) m):LOp P pr ro ⟨d,.nilCheck x,ty,pos,af,g⟩ ev m K:=by rw [LOp_nilCheck,hx]; exact h
theorem bw (hx:ev x=.int k u) (hy:ev y=.int k w) (h:K (.int k (k.wrap (u+w))) m):LOp P pr ro ⟨d,.binOp .add t x y t',ty,pos,af,g⟩ ev m K:=by rw [LOp_binOp,hx,hy]; exact ⟨rfl,h⟩
theorem j7 (hx:ev x=.int k u) (hy:ev y=.int k w) (h:K (.int k (k.wrap (u - w))) m):LOp P pr ro ⟨d,.binOp .sub t x y t',ty,pos,af,g⟩ ev m K:=by rw [LOp_binOp,hx,hy]; exact ⟨rfl,h⟩
theorem MN (hx:ev x=.int k u) (hy:ev y=.int k w) (h:K (.int k (k.wrap (u * w))) m):LOp P pr ro ⟨d,.binOp .mul t x y t',ty,pos,af,g⟩ ev m K:=by rw [LOp_binOp,hx,hy]; exact ⟨rfl,h⟩
theorem adm {r:Int} (hx:ev x=.int k u) (hy:ev y=.int k w) (hr:quo k u w=some r) (h:K (.int k r) m):LOp P pr ro ⟨d,.binOp .quo t x y t',ty,pos,af,g⟩ ev m K:=by
 rw [LOp_binOp,hx,hy]; unfold quo at hr; split at hr
 ·cases hr
 ·rename_i h0; cases hr; exact ⟨rfl,h0,h⟩
theorem XX {r:Int} (hx:ev x=.int k u) (hy:ev y=.int k w) (hr:Uy u w=some r) (h:K (.int k r) m):LOp P pr ro ⟨d,.binOp .rem t x y t',ty,pos,af,g⟩ ev m K:=by
 rw [LOp_binOp,hx,hy]; unfold Uy at hr; split at hr
 ·cases hr
 ·rename_i h0; cases hr; exact ⟨rfl,h0,h⟩
theorem gv (hx:ev x=.int k u) (hy:ev y=.int k w) (h:K (.bool (u == w)) m):LOp P pr ro ⟨d,.binOp .eql t x y t',ty,pos,af,g⟩ ev m K:=by rw [LOp_binOp,hx,hy]; exact ⟨rfl,h⟩
theorem iR (hx:ev x=.int k u) (hy:ev y=.int k w) (h:K (.bool (u != w)) m):LOp P pr ro ⟨d,.binOp .neq t x y t',ty,pos,af,g⟩ ev m K:=by rw [LOp_binOp,hx,hy]; exact ⟨rfl,h⟩
theorem dK (hx:ev x=.int k u) (hy:ev y=.int k w) (h:K (.bool (decide (u<w))) m):LOp P pr ro ⟨d,.binOp .lss t x y t',ty,pos,af,g⟩ ev m K:=by rw [LOp_binOp,hx,hy]; exact ⟨rfl,h⟩
theorem Kh (hx:ev x=.int k u) (hy:ev y=.int k w) (h:K (.bool (decide (u≤w))) m):LOp P pr ro ⟨d,.binOp .leq t x y t',ty,pos,af,g⟩ ev m K:=by rw [LOp_binOp,hx,hy]; exact ⟨rfl,h⟩
theorem hJ (hx:ev x=.int k u) (hy:ev y=.int k w) (h:K (.bool (decide (u > w))) m):LOp P pr ro ⟨d,.binOp .gtr t x y t',ty,pos,af,g⟩ ev m K:=by rw [LOp_binOp,hx,hy]; exact ⟨rfl,h⟩
theorem ot (hx:ev x=.int k u) (hy:ev y=.int k w) (h:K (.bool (decide (u ≥ w))) m):LOp P pr ro ⟨d,.binOp .geq t x y t',ty,pos,af,g⟩ ev m K:=by rw [LOp_binOp,hx,hy]; exact ⟨rfl,h⟩
theorem adl (hx:ev x=.bool b) (hy:ev y=.bool c) (ht:EL P t=true) (h:K (.bool (b == c)) m):LOp P pr ro ⟨d,.binOp .eql t x y t',ty,pos,af,g⟩ ev m K:=by rw [LOp_binOp,hx,hy]; exact ⟨ht,h⟩
theorem Uf (hx:ev x=.agg cs) (hy:ev y=.agg eA) (ht:rk P t cs eA b) (h:K (.bool b) m):LOp P pr ro ⟨d,.binOp .eql t x y t',ty,pos,af,g⟩ ev m K:=by rw [LOp_binOp,hx,hy]; exact ⟨b,ht,h⟩
theorem XW (hx:ev x=.agg cs) (hy:ev y=.agg eA) (ht:rk P t cs eA b) (h:K (.bool (!b)) m):LOp P pr ro ⟨d,.binOp .neq t x y t',ty,pos,af,g⟩ ev m K:=by rw [LOp_binOp,hx,hy]; exact ⟨b,ht,h⟩
theorem dB (hx:ev x=.bool b) (h:K (.bool (!b)) m):LOp P pr ro ⟨d,.unOp .not t x,ty,pos,af,g⟩ ev m K:=by rw [LOp_not,hx]; exact h
theorem oCv (hk:tok P t=true) (ht:tint P t'=some k') (hx:ev x=.int k u) (h:K (.int k' (k'.wrap u)) m):LOp P pr ro ⟨d,.convert t t' x,ty,pos,af,g⟩ ev m K:=by rw [LOp_convert,ht,hx]; exact ⟨hk,h⟩
theorem Zl {α:Type} {xs r:List α} (h:UG xs u w=some r):0≤u∧u≤w∧w≤xs.length∧r=(xs.take w.toNat).drop u.toNat:=by
 unfold UG at h; split at h
 ·rename_i h0; cases h; exact ⟨h0.1,h0.2.1,h0.2.2,rfl⟩
 ·cases h
theorem oSl {α:Type} {f:α→LV} {xs r:List α} {lo hi:Option Operand} (he:telem P t=some el) (hk:tok P el=true) (hs:tsize P el=kk) (hx:ev x=.lst kk (xs.map f)) (Jc:(match lo with | .none=>u=0 | some z=>ev z=.int .i64 u)) (Oa:(match hi with | .none=>w=(xs.length:Int) | some z=>ev z=.int .i64 w)) (hr:UG xs u w=some r) (h:K (.lst kk (r.map f)) m):LOp P pr ro ⟨d,.slice t x lo hi .none,ty,pos,af,g⟩ ev m K:=by
 obtain ⟨h0,h1,h2,rfl⟩:=Zl hr
 rw [LOp_slice,he,hx]
 refine ⟨rfl,hk,by trivial,by simp [hs],u.toNat,w.toNat,?_,?_,by omega,by simp; omega,?_⟩
 ·cases lo with
  | none=>simp only at Jc; subst Jc; rfl
  | some z=>simp only at Jc ⊢; rw [Jc,Int.toNat_of_nonneg h0]
 ·cases hi with
  | none=>simp only at Oa; subst Oa; simp
  | some z=>simp only at Oa ⊢; rw [Oa,Int.toNat_of_nonneg (by omega)]
 ·rw [← List.map_take,← List.map_drop]; exact h
theorem eF (hf:tfield P t n=some (off,ft)) (hk:tok P ft=true) (hs:tsize P ft=kk+1) (hx:ev x=.ptr id o) (hi:o+off=i) (h:K (.ptr id i) m):LOp P pr ro ⟨d,.fieldAddr t x n,ty,pos,af,g⟩ ev m K:=by
 subst hi; rw [LOp_fieldAddr,hf,hx]; exact ⟨hk,by rw [hs]; simp,h⟩
theorem av (hf:tfield P t n=some (off,ft)) (hk:tok P ft=true) (hs:tsize P ft=kk+1) (hx:ev x=.sptr cs) (hl:Nat.ble off cs.length=true) (hi:cs.drop off=eA) (h:K (.sptr eA) m):LOp P pr ro ⟨d,.fieldAddr t x n,ty,pos,af,g⟩ ev m K:=by
 subst hi; rw [LOp_fieldAddr,hf,hx]; exact ⟨hk,by rw [hs]; simp,Nat.le_of_ble_eq_true hl,h⟩
theorem Jp {α:Type} {f:α→LV} {xs:List α} {ig kk':Nat} (hf:tfield P t n=some (off,ft)) (hk:tok P ft=true) (hs:tsize P ft=kk+1) (hx:ev x=.eptr id xs.length j o) (hm:m id=some (.arr ig kk' (xs.map f))) (hi:o+off=i) (h:K (.eptr id xs.length j i) m):LOp P pr ro ⟨d,.fieldAddr t x n,ty,pos,af,g⟩ ev m K:=by
 subst hi; rw [LOp_fieldAddr,hf,hx]; simp only [hm]; exact ⟨hk,by rw [hs]; simp,by simp,h⟩
theorem cU {α:Type} {xs:List α} {z:α} (h:idx xs u=some z):0≤u∧xs[u.toNat]?=some z:=by
 unfold idx at h; split at h
 ·exact ⟨by assumption,h⟩
 ·cases h
theorem dJ {α:Type} {f:α→LV} {xs:List α} {z:α} (he:telem P t=some el) (hk:tok P el=true) (hs:tsize P el=kk) (hx:ev x=.lst kk (xs.map f)) (hy:ev y=.int k u) (iD:pG kk f) (hz:idx xs u=some z) (hc:(f z).cells=cs) (h:K (.sptr cs) m):LOp P pr ro ⟨d,.indexAddr t x y,ty,pos,af,g⟩ ev m K:=by
 obtain ⟨h0,h1⟩:=cU hz
 subst hc; subst hs
 rw [LOp_indexAddr,he,hx,hy]
 exact ⟨hk,rfl,h0,f z,by simp [h1],(iD z).2.2,h⟩
theorem eI {α:Type} {f:α→LV} {xs:List α} {z:α} (he:telem P t=some el) (hk:tok P el=true) (hs:tsize P el=kk) (hx:ev x=.arr id xs.length) (hm:m id=some (.arr el kk (xs.map f))) (hy:ev y=.int k u) (hz:idx xs u=some z) (h:K (.eptr id xs.length u.toNat 0) m):LOp P pr ro ⟨d,.indexAddr t x y,ty,pos,af,g⟩ ev m K:=by
 obtain ⟨h0,h1⟩:=cU hz
 subst hs
 have:=(List.getElem?_eq_some_iff.1 h1).1
 rw [LOp_indexAddr,he,hx,hy]; simp only [hm]
 exact ⟨hk,by simp,trivial,h0,by omega,h⟩
theorem gj {vs:List LV} (hx:ev x=.tup vs) (hv:vs[n]?=some v) (h:K v m):LOp P pr ro ⟨d,.extract x n,ty,pos,af,g⟩ ev m K:=by rw [LOp_extract,hx]; exact ⟨v,hv,h⟩
theorem Br {f:Nat} {cap:List Operand} {vs:List LV} (hv:cap.map ev=vs) (h:K (.fn f vs) m):LOp P pr ro ⟨d,.makeFunc (.func f) #[] cap.toArray,ty,pos,af,g⟩ ev m K:=by rw [LOp_makeFunc,hv]; exact h
theorem QX {α:Type} {f:α→LV} {z:α} {r:List α} (hi:100+i=id) (he:telem P t=some el) (hz:tzero P el=some (f z)) (hr:fP P el=true) (hk:tsize P el=kk) (hx:ev x=.int .i64 u) (hy:ev y=.int .i64 u) (hp:(f z).pure=true) (hl:yo z u=some r) (hf:m id=.none) (h:K (.arr id r.length) (m.put id (.arr el kk (r.map f)))):LOp P pr ro ⟨some i,.makeSlice t x y,ty,pos,af,g⟩ ev m K:=by
 subst hi; subst hk
 unfold yo at hl; split at hl
 ·rename_i h0; cases hl
  rw [LOp_makeSlice,he]
  simp only [Option.getD_some,hz,hx,hy]
  exact ⟨trivial,h0.1,h0.2,hr,hp,hf,by simpa using h⟩
 ·cases hl
theorem bx {α:Type} {f:α→LV} {xs:List α} (he:telem P t=some el) (hx:ev x=.lst kk (xs.map f)) (h:K (.int .i64 xs.length) m):LOp P pr ro ⟨d,.call ⟨.builtin .len,#[x],#[t]⟩,ty,pos,af,g⟩ ev m K:=by rw [LOp_len,hx]; exact ⟨by rw [he]; rfl,by simpa using h⟩
theorem yp {α:Type} {f:α→LV} {xs:List α} {ig:Nat} (he:telem P t=some el) (hx:ev x=.arr id xs.length) (hm:m id=some (.arr ig kk (xs.map f))) (h:K (.int .i64 xs.length) m):LOp P pr ro ⟨d,.call ⟨.builtin .len,#[x],#[t]⟩,ty,pos,af,g⟩ ev m K:=by
 rw [LOp_len,hx]; simp only [hm]; exact ⟨by rw [he]; rfl,by simp,h⟩
theorem VJ {α:Type} {xs ys r:List α} (h:app xs ys=some r):xs.length+ys.length≤549755813888∧r=xs++ys:=by
 unfold app at h; split at h
 ·cases h; exact ⟨by assumption,rfl⟩
 ·cases h
theorem oN {α:Type} {f:α→LV} {xs ys r:List α} (he:telem P t=some el) (hr:fP P el=true) (hs:tsize P el=kk) (hx:ev x=.arr id xs.length) (hm:m id=some (.arr el kk (xs.map f))) (hp:¬ pr id) (hy:ev y=.lst kk (ys.map f)) (hl:app xs ys=some r) (h:K (.arr id r.length) (m.put id (.arr el kk (r.map f)))):LOp P pr ro ⟨some i,.call ⟨.builtin .append,#[x,y],#[t,t]⟩,ty,pos,af,g⟩ ev m K:=by
 obtain ⟨h0,rfl⟩:=VJ hl
 subst hs
 rw [LOp_append,he,hy,hx]
 refine ⟨rfl,hr,rfl,?_⟩
 simp only [BF,hm]
 exact ⟨hp,by trivial,by trivial,by simp,by simpa using h0,by simpa using h⟩
theorem F5 {f : Nat} {cap args ew : List LV} {xs : List Operand} {ts : Array TypeId} (hx : ev x = .fn f cap) (hf : ∃ fn, P.funcs[f]? = some fn ∧ (fn.name == "runtime.NumGoroutine") = false ∧ fn.body.isNone = false) (ha : xs.map ev ++ cap = args) (hs : fc args ew) (hc : aF P f ew (Mem.of []) v (Mem.of [])) (hp : LV.bf args = true) (h : K v m) : LOp P pr ro ⟨d, .call ⟨.value x, xs.toArray, ts⟩, ty, pos, af, g⟩ ev m K := by
 subst ha
 rw [LOp_call,hx]
 exact ⟨hf,ve.VN (hc.sub hs) hp m h⟩
theorem mw {f : Nat} {cap args ew : List LV} {xs : List Operand} {ts : Array TypeId} {ml eD : List (Nat × LE)} (hx : ev x = .fn f cap) (hf : ∃ fn, P.funcs[f]? = some fn ∧ (fn.name == "runtime.NumGoroutine") = false ∧ fn.body.isNone = false) (ha : xs.map ev ++ cap = args) (hs : fc args ew) (hc : aF P f ew (Mem.of ml) v (Mem.of eD)) (hm : kc m ml) (oG : ∀ p ∈ eD, (ml.any fun q => q.1 == p.1) = true ∨ m p.1 = .none) (hr : aQ (args.map fun x => (0, x)) ml = true) (h : K v (m.over (Mem.of eD))) : LOp P pr ro ⟨d, .call ⟨.value x, xs.toArray, ts⟩, ty, pos, af, g⟩ ev m K := by
 subst ha
 rw [LOp_call,hx]
 exact ⟨hf,aF.Ql (hc.sub hs) hm oG hr h⟩
def jW (e:Env):List (Nat × LV)→Prop
 | []=>True
 | (i,v) :: r=>Sub (e i) v∧jW e r
theorem jW.at:∀ {l:List (Nat × LV)},jW e l→∀ i,Sub (e i) (Env.of l i)
 | [],_,i=>Sub.fp
 | (j,v) :: r,h,i=>by
  simp only [Env.of]
  split
  ·rename_i hi; subst hi; exact h.1
  ·exact jW.at h.2 i
theorem eN:jW e []:=trivial
def Kq (e:Env):List (Nat × LV)→Prop
 | []=>True
 | (i,v) :: r=>e i=v∧Kq e r
theorem eQ:∀ {l:List (Nat × LV)},Kq e l→jW e l
 | [],_=>trivial
 | (i,v) :: r,h=>⟨h.1 ▸ Sub.rfl,eQ h.2⟩
theorem eC {r:List (Nat × LV)} (h:e i=v) (hr:jW e r):jW e ((i,v) :: r):=⟨h ▸ Sub.rfl,hr⟩
theorem eL {r:List (Nat × LV)} (h:e i=.nil) (hr:jW e r):jW e ((i,.lst n []) :: r):=⟨h ▸ Sub.nil,hr⟩
theorem Pq (el:List (Nat × LV)) (i:Nat):Env.of (el.map fun p=>(p.1,e p.1)) i=if (el.any fun p=>p.1 == i)=true then e i else .fp:=by
 induction el with
 | nil=>rfl
 | cons p r ih =>
  simp only [List.map_cons,Env.of,List.any_cons]
  by_cases h:i=p.1
  ·simp [h]
  ·rw [if_neg h,ih]
   have:(p.1 == i)=false:=by simpa using fun h'=>h h'.symm
   simp only [this,Bool.false_or]
theorem MP (el:List (Nat × LV)) (i:Nat) (h:¬ (el.any fun p=>p.1 == i)=true):Env.of el i=.fp:=by
 induction el with
 | nil=>rfl
 | cons p r ih =>
  simp only [List.any_cons,Bool.or_eq_true,not_or] at h
  simp only [Env.of]
  rw [if_neg (fun h'=>h.1 (by simp [h'])),ih h.2]
theorem Wk.to {ml:List (Nat × LE)} {el:List (Nat × LV)} (he:jW e el) (hm:kc m ml) (hr:aQ (el.map fun p=>(p.1,e p.1)) ml=true) (kA:∀ id,pr id→m id=.none ∨ Mem.of ml id ≠ .none):Wk pr e m (Env.of el) (Mem.of ml):=by
 refine (Wk.cut (el.map fun p=>(p.1,e p.1)) ml (fun p hp=>?_) hm.all hr kA).trans fun N c a cn=>⟨c,rfl,⟨fun i=>?_,cn.mem,cn.size,cn.defers⟩,.refl pr c⟩
 ·obtain ⟨q,_,rfl⟩:=List.mem_map.1 hp
  rfl
 ·have h1:=cn.env i
  rw [Pq] at h1
  by_cases hk:(el.any fun p=>p.1 == i)=true
  ·rw [if_pos hk] at h1; exact he.at i c _ h1
  ·rw [MP el i hk]; simp [ao]
theorem cF {lA ml:List (Nat × LE)} (h:(lA.all fun p=>ml.any fun q=>q.1 == p.1)=true):∀ id,Mem.of lA id ≠ .none→m id=.none ∨ Mem.of ml id ≠ .none:=by
 intro id bX
 cases hx:Mem.of lA id with
 | none=>exact absurd hx bX
 | some le=>exact .inr (eX (List.all_eq_true.1 h _ (ep hx)))
theorem cv {lA:List (Nat × LE)} (h:Mem.of lA id=.none):¬ (fun id=>Mem.of lA id ≠ .none) id:=fun h'=>h' h
def vd (id:Nat):List (Nat × LV)→List (Nat × LV)→Prop
 | [],[]=>True
 | p :: r,q :: s=>(q.1=p.1∧(q.2=p.2 ∨ (p.2=.nil∧q.2=.arr id 0)))∧vd id r s
 | _,_=>False
theorem wN:vd id [] []:=trivial
theorem wK {p:Nat × LV} {r s:List (Nat × LV)} (h:vd id r s):vd id (p :: r) (p :: s):=⟨⟨rfl,.inl rfl⟩,h⟩
theorem wO {r s:List (Nat × LV)} (h:vd id r s):vd id ((i,.nil) :: r) ((i,.arr id 0) :: s):=⟨⟨rfl,.inr ⟨rfl,rfl⟩⟩,h⟩
theorem vd.len:∀ {el ig:List (Nat × LV)},vd id el ig→ig.length=el.length
 | [],[],_=>rfl
 | _ :: _,_ :: _,h=>by simp [h.2.len]
theorem vd.get:∀ {el ig:List (Nat × LV)},vd id el ig→∀ i:Nat,∀ p q,el[i]?=some p→ig[i]?=some q→q.1=p.1∧(q.2=p.2 ∨ (p.2=.nil∧q.2=.arr id 0))
 | [],[],_,i,p,q,hp,hq=>by simp at hp
 | a :: r,b :: s,h,0,p,q,hp,hq=>by simp at hp hq; subst hp; subst hq; exact h.1
 | a :: r,b :: s,h,i+1,p,q,hp,hq=>by simp at hp hq; exact h.2.get i p q hp hq
theorem Wk.wA {el ig:List (Nat × LV)} {ml:List (Nat × LE)} (id e0 k0:Nat) (bX:Mem.of ml id=.none) (hk:Nat.ble 1 k0=true) (h:vd id el ig):Wk pr (Env.of el) (Mem.of ml) (Env.of ig) (Mem.of ((id,.arr e0 k0 []) :: ml)) :=
 Wk.own id e0 k0 bX (Nat.le_of_ble_eq_true hk) h.len h.get
theorem LH.gU {xV:Nat} {Q:Exit→Env→Mem→Prop} (el:List (Nat × LV)) (ml:List (Nat × LE)) (hd:gX N l=true) (h:cH P N pr l.toArray l (fun e m=>Wk pr e m (Env.of el) (Mem.of ml)) e m) (hr:Q .normal (Env.of el) (Mem.of ml)):LH P N pr (.region xV l.toArray false) Q e m:=by
 obtain ⟨e',m',hK,dD⟩:=h (pN hd) (by simp)
 refine ⟨.normal,_,_,og.post (e':=e') (m':=m') (fun c a hr=>?_) hK,hr⟩
 refine wp_region ?_
 rw [List.size_toArray,List.range_eq_range',wpOps_eq_wpList l 0 (by simp)]
 exact dD c a hr
theorem LH.cK {xV:Nat} {yc:Code} {Q:Exit→Env→Mem→Prop} (el:List (Nat × LV)) (ml:List (Nat × LE)) (hd:gX N l=true) (h:cH P N pr l.toArray l (fun e m=>Wk pr e m (Env.of el) (Mem.of ml)) e m) (hr:LH P N pr yc Q (Env.of el) (Mem.of ml)):LH P N pr (.seq (.region xV l.toArray false) yc) Q e m :=
 LH.seq (LH.gU el ml hd h hr)
theorem LH.qP {xV:Nat} {Q:Exit→Env→Mem→Prop} (sZ:P.follows .mixedOrders=true) (ro:List Nat) (eh:List Nat) (el:List (Nat × LV)) (ml:List (Nat × LE)) (hlen:eh.length=l.length) (hd:gX N l=true) (iD:vv l.toArray eh=true)
  (h:cE P pr ro l.toArray (l.zip eh) (fun e m=>Wk pr e m (Env.of el) (Mem.of ml)) e m) (hr:Q .normal (Env.of el) (Mem.of ml)):LH P N pr (.region xV l.toArray true) Q e m:=by
 obtain ⟨e',m',hK,hc⟩:=jJ _ h
 rw [← qb l eh hlen] at hc
 obtain ⟨ex,e2,m2,h1,h2⟩:=LH.A3 (Q:=fun ex e m=>ex=.normal∧e=e'∧m=m') sZ ro eh hd iD hc ⟨rfl,rfl,rfl⟩
 obtain ⟨rfl,rfl,rfl⟩:=h2
 exact ⟨.normal,_,_,h1.post hK,hr⟩
section
variable {Q:Exit→Env→Mem→Prop} {M:Env→Mem→Prop} {I:Nat→Env→Mem→Prop}
theorem ag (h:M e m):EM M Q .normal e m:=h
theorem bB (h:Q (.exit i) e m):EM M Q (.exit i) e m:=h
theorem aA (h:Q .ret e m):EM M Q .ret e m:=h
theorem aB (h:Q .normal e m):nF j Q .normal e m:=h
theorem aU (h:Q .ret e m):nF j Q .ret e m:=h
theorem aZ (h:Q .normal e m):nF j Q (.exit j) e m:=by simp only [nF,if_true]; exact h
theorem Fk (hn:Nat.beq i j=false) (h:Q (.exit i) e m):nF j Q (.exit i) e m:=by simp only [nF]; rw [if_neg (fun h'=>by subst h'; simp at hn)]; exact h
theorem bc (h:Q (.exit i) e m):tl pr I n Q (.exit i) e m:=h
theorem cc (h:Q .ret e m):tl pr I n Q .ret e m:=h
theorem Uz {e':Env} {m':Mem} (hw:Wk pr e m e' m') (h:I n e' m'):tl pr I (n+1) Q .normal e m:=⟨e',m',hw,n,Nat.lt_succ_self n,h⟩
end
def Ends (xQ:LV) (tc:List (Nat × LE)) (lv:LV) (m':Mem):Prop:=Sub lv xQ∧m'=Mem.of tc
theorem dN {KL:List LV→Prop} (h:KL []):jg P e m [] KL:=h
theorem dx {KL:List LV→Prop} {r:List ResultVar} (hv:e i=v) (h:jg P e m r fun l=>KL (v :: l)):jg P e m (.tmp i :: r) KL:=by simp only [jg]; rw [hv]; exact h
theorem adf {KL:List LV→Prop} {r:List ResultVar} (hv:e i=.ptr id o) (hm:m id=some (.box cs)) (hl:Nat.ble o cs.length=true) (ht:tok P t=true) (ha:tagg P t=true) (hs:tsize P t=n) (FF:Nat.ble n (cs.drop o).length=true) (hc:(cs.drop o).take n=eA) (h:jg P e m r fun l=>KL (.agg eA :: l)):jg P e m (.cell i t :: r) KL:=by
 subst hc; subst hs
 simp only [jg,hv,hm,loadC_def,ha,if_true]; exact ⟨Nat.le_of_ble_eq_true hl,ht,Nat.le_of_ble_eq_true FF,h⟩
theorem eE {KL:List LV→Prop} {r:List ResultVar} (hv:e i=.sptr cs) (ht:tok P t=true) (ha:tagg P t=true) (hs:tsize P t=n) (FF:Nat.ble n cs.length=true) (hc:cs.take n=eA) (h:jg P e m r fun l=>KL (.agg eA :: l)):jg P e m (.cell i t :: r) KL:=by
 subst hc; subst hs
 simp only [jg,hv,loadC_def,ha,if_true]; exact ⟨ht,Nat.le_of_ble_eq_true FF,h⟩
theorem bL {fn:Func} {rs:List ResultVar} {xQ:LV} {tc:List (Nat × LE)} (hr:fn.results.toList=rs) (h:jg P e m rs fun l=>(∀ p ∈ tc,m p.1=some p.2)∧aQ [(0,oneOf l)] tc=true∧(∀ id,pr id→m id=.none ∨ Mem.of tc id ≠ .none)∧Sub (oneOf l) xQ):GX P fn pr (Ends xQ tc) .ret e m:=by
 have key : ∀ (rs : List ResultVar) (K K' : List LV → Prop), (∀ l, K l → K' l) → jg P e m rs K → jg P e m rs K' := by
  intro rs
  induction rs with
  | nil=>intro K K' hk h; exact hk _ h
  | cons r rs ih =>
   intro K K' hk h
   have hl:∀ (t:TypeId) (cs:List LV) (A B:LV→Prop),(∀ x,A x→B x)→loadC P t cs A→loadC P t cs B:=by
    intro t cs A B qo hA
    obtain ⟨ht,hA⟩:=hA
    refine ⟨ht,?_⟩
    split at hA
    ·rename_i hg; rw [if_pos hg]; exact ⟨hA.1,qo _ hA.2⟩
    ·rename_i hg
     rw [if_neg hg]
     match cs,hA with
     | x :: cs,hA=>exact qo _ hA
   cases r with
   | tmp t=>exact ih _ _ (fun l hl=>hk _ hl) h
   | cell a t =>
    simp only [jg] at h ⊢
    cases hx:e a <;> simp only [hx] at h ⊢
    case sptr cs=>exact hl _ _ _ _ (fun lv Wv=>ih _ _ (fun l hl=>hk _ hl) Wv) h
    case ptr id o =>
     cases hm:m id with
     | none=>simp [hm] at h
     | some le =>
      cases le with
      | map _ _ _=>simp [hm] at h
      | nest _ _ _ _=>simp [hm] at h
      | dm _ _ _ _ _ _ _ _=>simp [hm] at h
      | dead=>simp [hm] at h
      | arr _ _ _=>simp [hm] at h
      | box cs =>
       simp only [hm] at h ⊢
       exact ⟨h.1,hl _ _ _ _ (fun lv Wv=>ih _ _ (fun l hl=>hk _ hl) Wv) h.2⟩
 show jg P e m fn.results.toList _
 rw [hr]
 exact key _ _ _ (fun l ⟨h1,h2,h3,h4⟩=>⟨tc,h1,h2,h3,h4,rfl⟩) h
theorem xk {fn:Func} {rs:List ResultVar} {xQ:LV} {tc:List (Nat × LE)} (hr:fn.results.toList=rs) (h:jg P e m rs fun l=>(∀ p ∈ tc,m p.1=some p.2)∧aQ [(0,oneOf l)] tc=true∧(∀ id,pr id→m id=.none ∨ Mem.of tc id ≠ .none)∧Sub (oneOf l) xQ):GX P fn pr (Ends xQ tc) .normal e m:=bL hr h
theorem aW {f:Nat} {fn:Func} {code:Code} {args:List LV} {lA tc:List (Nat × LE)} {xQ:LV} (hf:P.funcs[f]?=some fn) (hb:fn.body=some code) (hn:args.length≤fn.ntmps)
  (h:LH P fn.ntmps (fun id=>Mem.of lA id ≠ .none) code (GX P fn (fun id=>Mem.of lA id ≠ .none) (Ends xQ tc)) (Env.args args) (Mem.of lA)):aF P f args (Mem.of lA) xQ (Mem.of tc):=by
 obtain ⟨lv,m',h1,h2,rfl⟩:=aF.AK (R:=Ends xQ tc) hf hb hn h
 exact h1.res h2
theorem gP {ml:List (Nat × LE)} (h:kc m ml):∀ p ∈ ml,m p.1=some p.2:=h.all
theorem dO {ml:List (Nat × LE)}:∀ p ∈ ([]:List (Nat × LE)),(ml.any fun q=>q.1 == p.1)=true ∨ m p.1=.none:=by simp
theorem bT {ml eD:List (Nat × LE)} {le:LE} (h:(ml.any fun q=>q.1 == i)=true) (h2:∀ p ∈ eD,(ml.any fun q=>q.1 == p.1)=true ∨ m p.1=.none):∀ p ∈ (i,le) :: eD,(ml.any fun q=>q.1 == p.1)=true ∨ m p.1=.none:=by
 intro p hp; rcases List.mem_cons.1 hp with rfl | hp
 ·exact .inl h
 ·exact h2 p hp
theorem MM {ml eD:List (Nat × LE)} {le:LE} (h:m i=.none) (h2:∀ p ∈ eD,(ml.any fun q=>q.1 == p.1)=true ∨ m p.1=.none):∀ p ∈ (i,le) :: eD,(ml.any fun q=>q.1 == p.1)=true ∨ m p.1=.none:=by
 intro p hp; rcases List.mem_cons.1 hp with rfl | hp
 ·exact .inr h
 ·exact h2 p hp
end
mutual
theorem qC {id k:Nat} {ys:List LV}:∀ (x:LV),x.bg id=true→x.fy id k ys=x
 | .fp,_ | .int _ _,_ | .bool _,_ | .nil,_ | .slen _,_ | .full _ _,_ | .str _,_ | .it _,_ | .nilf,_ | .nilp,_ | .lst _ _,_=>by simp [LV.fy]
 | .sptr cs,h=>by simp only [LV.bg] at h; simp [LV.fy,h]
 | .arr i n,h=>by simp [LV.bg] at h; simp [LV.fy,h]
 | .ptr i n,h=>by simp [LV.bg] at h; simp [LV.fy,h]
 | .eptr i n j o,h=>by simp [LV.bg] at h; simp [LV.fy,h]
 | .mp i,h=>by simp [LV.bg] at h; simp [LV.fy,h]
 | .agg cs,h=>by simp only [LV.bg] at h; simp only [LV.fy]; rw [jO cs h]
 | .tup cs,h=>by simp only [LV.bg] at h; simp only [LV.fy]; rw [jO cs h]
 | .fn _ cs,h=>by simp only [LV.bg] at h; simp only [LV.fy]; rw [jO cs h]
 | .bfn _ cs,h=>by simp only [LV.bg] at h; simp only [LV.fy]; rw [jO cs h]
theorem jO {id k:Nat} {ys:List LV}:∀ (xs:List LV),LV.cz id xs=true→LV.gz id k ys xs=xs
 | [],_=>by simp [LV.gz]
 | x :: xs,h=>by
  simp only [LV.cz,Bool.and_eq_true] at h
  simp only [LV.gz]; rw [qC x h.1,jO xs h.2]
end
def u6 (id n:Nat) (lv:LV):List (Nat × LV)→List (Nat × LV)→Prop
 | [],[]=>True
 | p :: r,q :: s=>(q.1=p.1∧((q.2=p.2∧p.2.bg id=true) ∨ (p.2=.arr id n∧q.2=lv)))∧u6 id n lv r s
 | _,_=>False
theorem fN {id n:Nat} {lv:LV}:u6 id n lv [] []:=trivial
theorem fK {id n:Nat} {lv:LV} {p:Nat × LV} {r s:List (Nat × LV)} (h0:p.2.bg id=true) (h:u6 id n lv r s):u6 id n lv (p :: r) (p :: s):=⟨⟨rfl,.inl ⟨rfl,h0⟩⟩,h⟩
theorem fZ {id n i:Nat} {lv:LV} {r s:List (Nat × LV)} (h:u6 id n lv r s):u6 id n lv ((i,.arr id n) :: r) ((i,lv) :: s):=⟨⟨rfl,.inr ⟨rfl,rfl⟩⟩,h⟩
theorem u6.sub {id k n:Nat} {ys:List LV} (hn:n=ys.length):∀ {el ig:List (Nat × LV)},u6 id n (.lst k ys) el ig→∀ i,Sub (Env.of (el.map fun p=>(p.1,p.2.fy id k ys)) i) (Env.of ig i)
 | [],[],_,i=>Sub.rfl
 | p :: r,q :: s,h,i=>by
  obtain ⟨⟨h1,h2⟩,h3⟩:=h
  obtain ⟨pi,pv⟩:=p
  obtain ⟨qi,qv⟩:=q
  simp only at h1 h2
  subst h1
  simp only [List.map_cons,Env.of]
  by_cases hi:i=qi
  ·simp only [hi,if_true]
   rcases h2 with ⟨rfl,h2⟩ | ⟨rfl,rfl⟩
   ·rw [qC _ h2]; exact Sub.rfl
   ·simp only [LV.fy,if_true,hn]; exact Sub.rfl
  ·simp only [hi,if_false]
   exact u6.sub hn h3 i
theorem Wk.mZ {pr:Nat→Prop} {α:Type} {f:α→LV} {el ig:List (Nat × LV)} {ml:List (Nat × LE)} (id e0 k0:Nat) (xs:List α) (bX:Mem.of ml id=some (.arr e0 k0 (xs.map f))) (na:tH id ml=true) (kA:¬ pr id) (h:u6 id xs.length (.lst k0 (xs.map f)) el ig) :
  Wk pr (Env.of el) (Mem.of ml) (Env.of ig) (Mem.of (ml.filter fun q=>q.1 != id)) :=
 (Wk.fy id e0 k0 (xs.map f) bX na kA).trans fun N c a hr=>⟨c,rfl,⟨fun i=>u6.sub (by simp) h i c _ (hr.env i),hr.mem,hr.size,hr.defers⟩,.refl pr c⟩
theorem mN {m:Mem}:kc m []:=trivial
theorem mC {m:Mem} {i:Nat} {v:LE} {r:List (Nat × LE)} (h:m i=some v) (hr:kc m r):kc m ((i,v) :: r):=⟨h,hr⟩
theorem fF:fc [] []:=trivial
theorem bZ {x:LV} {xs ys:List LV} (h:fc xs ys):fc (x :: xs) (x :: ys):=⟨Sub.rfl,h⟩
theorem Oo {k:Nat} {xs ys:List LV} (h:fc xs ys):fc (.nil :: xs) (.lst k [] :: ys):=⟨Sub.nil,h⟩
theorem UE {x y:LV} {xs ys:List LV} (h0:Sub x y) (h:fc xs ys):fc (x :: xs) (y :: ys):=⟨h0,h⟩
abbrev lvl {α:Type} (k:Nat) (f:α→LV):List α→LV:=fun xs=>.lst k (xs.map f)
theorem eU {b x:Bool} (h:b=true):x=(b && x):=by subst h; simp
theorem mf {b x:Bool} (h:b=false):false=(b && x):=by subst h; simp
theorem wz {b x:Bool} (h:b=true):true=(b || x):=by subst h; simp
theorem kR {b x:Bool} (h:b=false):x=(b || x):=by subst h; simp
theorem Z6 {α:Type} {b:Bool} {x y:α} (h:b=true):x=(if b=true then x else y):=by subst h; simp
theorem itF {α:Type} {b:Bool} {x y:α} (h:b=false):y=(if b=true then x else y):=by subst h; simp
theorem fc.head {x y:LV} {xs ys:List LV} (h:fc (x :: xs) (y :: ys)):Sub x y:=h.1
end Go.L
namespace Go.L
section
variable {P:Program} {N:Nat} {pr:Nat→Prop} {ro:List Nat} {ops:Array Oper} {e:Env} {m m':Mem} {ev OL:Operand→LV} {o:Oper} {lv:LV} {l:List Oper} {eh:List Nat} {KE:Env→Mem→Prop}
theorem bI.ok (h:bI P pr o ev m lv m'):cj P pr o ev m lv m':=fun c a Q bG hm=>h c a Q (fun x _=>bG x) hm
theorem bI.value (h:∀ (c:Cx) (a:Act),(∀ x ∈ o.op.operands,ao c (ev x) (a.eval x))→cA c m→∃ v c',(execOp a.eval o).run P c.w=.ok (.value v) c'.w∧ao c' lv v∧cA c' m'∧Step pr c c'):bI P pr o ev m lv m':=by
 intro c a Q bG hm
 obtain ⟨v,c',hr,h1,h2,h3⟩:=h c a bG hm
 unfold Oper.wp
 rw [hr]
 exact ⟨v,c',rfl,rfl,h1,h2,h3⟩
theorem bI.skip (hd:o.dst=.none) (h:∀ (c:Cx) (a:Act),(∀ x ∈ o.op.operands,ao c (ev x) (a.eval x))→cA c m→∃ c',(execOp a.eval o).run P c.w=.ok .skip c'.w∧cA c' m'∧Step pr c c'):bI P pr o ev m .fp m':=by
 intro c a Q bG hm
 obtain ⟨c',hr,h2,h3⟩:=h c a bG hm
 unfold Oper.wp
 rw [hr]
 exact ⟨undef,c',by simp [Act.put,hd],rfl,by simp [ao],h2,h3⟩
theorem sX {i:Nat} {op:Op} {ty:TypeId} {pos:String} {af:Array Edge} (h:cj P pr ⟨some i,op,ty,pos,af,.none⟩ (dZ e) m lv m') (hr:cH P N pr ops l KE (e.put i lv) m'):cH P N pr ops (⟨some i,op,ty,pos,af,.none⟩ :: l) KE e m:=by
 intro hd hl
 obtain ⟨e2,m2,hK,kj⟩:=hr hd (fun q hq=>hl q (by simp [hq]))
 refine ⟨e2,m2,hK,fun c a cn=>?_⟩
 simp only [wpList]
 rw [if_pos (by simp [Region.wanted])]
 left
 refine Oper.wp_mono ?_ (h c a _ cn.ev cn.mem)
 rintro a' w' ⟨v,c',rfl,rfl,hv,kh,hs⟩
 have vW:oh N c' (e.put i lv) m' (a.put (some i) v):=cn.put (d:=some i) hs kh (hd ⟨some i,op,ty,pos,af,.none⟩ (hl _ (by simp))) hv
 refine gJ _ _ _ _ _ ?_ (kj c' _ vW)
 rintro x VH UT ⟨hx,c2,rL,hr2,hg2⟩
 exact ⟨hx,c2,rL,hr2,hs.grow.trans hg2⟩
theorem Kl {op:Op} {ty:TypeId} {pos:String} {af:Array Edge} (h:cj P pr ⟨.none,op,ty,pos,af,.none⟩ (dZ e) m lv m') (hr:cH P N pr ops l KE e m'):cH P N pr ops (⟨.none,op,ty,pos,af,.none⟩ :: l) KE e m:=by
 intro hd hl
 obtain ⟨e2,m2,hK,kj⟩:=hr hd (fun q hq=>hl q (by simp [hq]))
 refine ⟨e2,m2,hK,fun c a cn=>?_⟩
 simp only [wpList]
 rw [if_pos (by simp [Region.wanted])]
 left
 refine Oper.wp_mono ?_ (h c a _ cn.ev cn.mem)
 rintro a' w' ⟨v,c',ha,rfl,hv,kh,hs⟩
 have vW:oh N c' e m' a':=by rw [ha]; exact cn.put (d:=.none) hs kh (by simp) hv
 refine gJ _ _ _ _ _ ?_ (kj c' _ vW)
 rintro x VH UT ⟨hx,c2,rL,hr2,hg2⟩
 exact ⟨hx,c2,rL,hr2,hs.grow.trans hg2⟩
theorem sXT {i j q:Nat} {want:Bool} {op:Op} {ty:TypeId} {pos:String} {af:Array Edge} (hj:(ops[j]?).bind (·.dst)=some q) (hg:e q=.bool want) (h:cj P pr ⟨some i,op,ty,pos,af,some (j,want)⟩ (dZ e) m lv m') (hr:cH P N pr ops l KE (e.put i lv) m'):cH P N pr ops (⟨some i,op,ty,pos,af,some (j,want)⟩ :: l) KE e m:=by
 intro hd hl
 obtain ⟨e2,m2,hK,kj⟩:=hr hd (fun q hq=>hl q (by simp [hq]))
 refine ⟨e2,m2,hK,fun c a cn=>?_⟩
 simp only [wpList]
 rw [p9 cn hd rfl hj hg,if_pos (by simp)]
 left
 refine Oper.wp_mono ?_ (h c a _ cn.ev cn.mem)
 rintro a' w' ⟨v,c',rfl,rfl,hv,kh,hs⟩
 have vW:oh N c' (e.put i lv) m' (a.put (some i) v):=cn.put (d:=some i) hs kh (hd ⟨some i,op,ty,pos,af,some (j,want)⟩ (hl _ (by simp))) hv
 refine gJ _ _ _ _ _ ?_ (kj c' _ vW)
 rintro x VH UT ⟨hx,c2,rL,hr2,hg2⟩
 exact ⟨hx,c2,rL,hr2,hs.grow.trans hg2⟩
def jr:LV→Option Value
 | .agg cs=>(eV cs).map fun vs=>.agg vs.toArray
 | x=>kX x
theorem vz {c:Cx} {x:LV} {u v:Value} (h:kX x=some u) (hr:ao c x v):v=u:=by
 cases x <;> simp [kX] at h <;> subst h <;> simpa [ao] using hr
theorem tE {c:Cx}:∀ {xs:List LV} {us vs:List Value},eV xs=some us→aD c xs vs→vs=us
 | [],us,vs,h,hr=>by simp [eV] at h; subst h; simpa [aD] using hr
 | x :: xs,us,vs,h,hr=>by
  simp only [eV] at h
  split at h
  ·rename_i v0 vs0 h1 h2
   cases h
   simp only [aD] at hr
   obtain ⟨v,fD,rfl,h3,h4⟩:=hr
   rw [vz h1 h3,tE h2 h4]
  ·cases h
theorem qB {c:Cx} {x:LV} {u v:Value} (h:jr x=some u) (hr:ao c x v):v=u:=by
 cases x
 case agg cs =>
  simp only [jr,Option.map_eq_some_iff] at h
  obtain ⟨vs,h1,rfl⟩:=h
  simp only [ao] at hr
  obtain ⟨us,rfl,h2⟩:=hr
  rw [tE h1 h2]
 all_goals (simp only [jr] at h; exact vz h hr)
theorem vy {x y:LV} {u:Value} (h:kX x=some u) (h':kX y=some u):x=y:=by
 cases x <;> simp [kX] at h <;> subst h <;> cases y <;> simp [kX] at h' <;> simp [h']
theorem vA:∀ {xs ys:List LV} {us:List Value},eV xs=some us→eV ys=some us→xs=ys
 | [],ys,us,h,h'=>by
  simp [eV] at h; subst h
  cases ys with
  | nil=>rfl
  | cons y ys=>simp only [eV] at h'; split at h' <;> cases h'
 | x :: xs,ys,us,h,h'=>by
  simp only [eV] at h
  split at h
  ·rename_i v0 vs0 h1 h2
   cases h
   cases ys with
   | nil=>simp [eV] at h'
   | cons y ys =>
    simp only [eV] at h'
    split at h'
    ·rename_i v1 vs1 h3 h4
     cases h'
     rw [vy h1 h3,vA h2 h4]
    ·cases h'
  ·cases h
theorem vB {x y:LV} {u:Value} (h:jr x=some u) (h':jr y=some u):x=y:=by
 have a1:∀ cs v,(eV cs).map (fun vs:List Value=>Value.agg vs.toArray)=some v→∃ us,eV cs=some us∧v=.agg us.toArray:=fun cs v hv=>by
  simp only [Option.map_eq_some_iff] at hv
  obtain ⟨us,h1,h2⟩:=hv; exact ⟨us,h1,h2.symm⟩
 cases x
 case agg cs =>
  obtain ⟨us,h1,rfl⟩:=a1 cs u h
  cases y
  case agg ds =>
   obtain ⟨ZH,h2,h3⟩:=a1 ds _ h'
   have:us=ZH:=by simpa using h3
   subst this
   rw [vA h1 h2]
  all_goals simp [jr,kX] at h'
 all_goals
  cases y
  case agg ds =>
   obtain ⟨ZH,h2,h3⟩:=a1 ds _ h'
   subst h3
   simp [jr,kX] at h
  all_goals (simp only [jr] at h h'; exact vy h h')
structure Ox (P:Program) (k:TypeId) (S:Value→Prop):Prop where
 check:∀ (w:World) (em:Bool) (v:Value),S v→(Instr.checkKey em 10000 k v).run P w=.ok () w
 find:∀ (w:World) (x:Value),S x→∀ es:List MapEntry,(∀ e ∈ es,S e.key)→((Instr.findKey k x es).run P w=.ok .none w∧∀ e ∈ es,e.key ≠ x) ∨ ∃ j e,(Instr.findKey k x es).run P w=.ok (some (j,e.val)) w∧es[j]?=some e∧e.key=x
 stays:∀ (w:World) (v:Value),S v→(Instr.keyThatStays v v).run P w=.ok v w
def uI (P:Program) (t:TypeId):Option (Nat × Nat):=match P.underlying t with | some (.map k v)=>some (k,v) | _=>.none
theorem lu {t k v:Nat} (h:uI P t=some (k,v)):P.underlying t=some (.map k v):=by
 unfold uI at h; split at h <;> simp_all
def eR {α β:Type} [DecidableEq α]:List (α × β)→α→Option β
 | [],_=>.none
 | (a,b) :: r,k=>if a=k then some b else eR r k
def et {α β:Type} [DecidableEq α]:List (α × β)→α→β→List (α × β)
 | [],k,v=>[(k,v)]
 | (a,b) :: r,k,v=>if a=k then (k,v) :: r else (a,b) :: et r k v
variable {α β:Type} [DecidableEq α] {f:α→LV} {g:β→LV}
abbrev mv (f:α→LV) (g:β→LV) (xs:List (α × β)):List (LV × LV):=xs.map fun p=>(f p.1,g p.2)
def Ae (f:α→LV) (S:Value→Prop):Prop:=(∀ x,∃ v,jr (f x)=some v∧S v∧(f x).pure=true)∧∀ x y,f x=f y→x=y
theorem Jn {xs:List (α × β)} {k:α} (h:∀ p ∈ xs,p.1 ≠ k):eR xs k=.none:=by
 induction xs with
 | nil=>rfl
 | cons p r ih =>
  obtain ⟨a,b⟩:=p
  simp only [eR]
  rw [if_neg (h (a,b) (by simp)),ih fun q hq=>h q (by simp [hq])]
theorem Pn {xs:List (α × β)} {k:α} {b:β} {j:Nat} (hn:(xs.map (·.1)).Nodup) (h:xs[j]?=some (k,b)):eR xs k=some b:=by
 induction xs generalizing j with
 | nil=>simp at h
 | cons p r ih =>
  obtain ⟨a,b'⟩:=p
  simp only [List.map_cons,List.nodup_cons] at hn
  simp only [eR]
  cases j with
  | zero=>simp at h; rw [if_pos h.1,h.2]
  | succ j =>
   simp at h
   have:a ≠ k:=fun he=>hn.1 (by subst he; exact List.mem_map.2 ⟨_,List.mem_of_getElem? h,rfl⟩)
   rw [if_neg this]; exact ih hn.2 h
theorem Jo {xs:List (α × β)} {k:α} {v:β} (h:∀ p ∈ xs,p.1 ≠ k):et xs k v=xs++[(k,v)]:=by
 induction xs with
 | nil=>rfl
 | cons p r ih =>
  obtain ⟨a,b⟩:=p
  simp only [et]
  rw [if_neg (h (a,b) (by simp)),ih fun q hq=>h q (by simp [hq])]; rfl
theorem MI {xs:List (α × β)} {k:α} {b v:β} {j:Nat} (hn:(xs.map (·.1)).Nodup) (h:xs[j]?=some (k,b)):et xs k v=xs.set j (k,v):=by
 induction xs generalizing j with
 | nil=>simp at h
 | cons p r ih =>
  obtain ⟨a,b'⟩:=p
  simp only [List.map_cons,List.nodup_cons] at hn
  simp only [et]
  cases j with
  | zero=>simp at h; rw [if_pos h.1]; rfl
  | succ j =>
   simp at h
   have:a ≠ k:=fun he=>hn.1 (by subst he; exact List.mem_map.2 ⟨_,List.mem_of_getElem? h,rfl⟩)
   rw [if_neg this,ih hn.2 h]; rfl
omit [DecidableEq α] in
theorem HJ {c:Cx} {id kt vt:Nat} {S:Value→Prop} {xs:List (α × β)} {v:Value} (hm:cA c m) (bX:m id=some (.map kt vt (mv f g xs))) (hv:ao c (.mp id) v) (hf:Ae f S) :
  ∃ b kP ck,c.B id=some (.mp b)∧v=.map (some b)∧c.w.heap[b]?=some (.map kP ck)∧kP.toList.length=xs.length∧(∀ (j:Nat) (x:α) (y:β),xs[j]?=some (x,y)→∃ (en:MapEntry) (u:Value),kP.toList[j]?=some en∧jr (f x)=some en.key∧S en.key∧u=en.val∧ao c (g y) u)∧(xs.map (·.1)).Nodup∧LV.bf (xs.map fun p=>g p.2)=true:=by
 have he:=hm.gY id
 rw [bX] at he
 simp only [bo] at he
 obtain ⟨b,kP,ck,h1,h2,h3,h4,h5,h6,h7,_⟩:=he
 simp only [ao] at hv
 obtain ⟨b',jP,rfl⟩:=hv
 rw [h1] at jP; cases jP
 have l3:=h3.length
 simp only [mv,List.map_map,List.length_map] at l3
 refine ⟨b,kP,ck,h1,rfl,h2,l3.symm,fun j x y hj=>?_,?_,?_⟩
 ·have hk:((mv f g xs).map (·.1))[j]?=some (f x):=by simp [mv,hj]
  have Ta:((mv f g xs).map (·.2))[j]?=some (g y):=by simp [mv,hj]
  obtain ⟨k1,Ve,hk2⟩:=h3.get hk
  obtain ⟨u,hu1,hu2⟩:=h4.get Ta
  simp only [List.getElem?_map,Option.map_eq_some_iff] at Ve hu1
  obtain ⟨en,U9,rfl⟩:=Ve
  obtain ⟨Qn,ZY,rfl⟩:=hu1
  rw [U9] at ZY; cases ZY
  obtain ⟨kv,e1,e2,_⟩:=hf.1 x
  have:=qB e1 hk2
  exact ⟨en,en.val,U9,by rw [e1,this],by rw [this]; exact e2,rfl,hu2⟩
 ·simp only [mv,List.map_map] at h7
  rw [List.nodup_iff_pairwise_ne] at h7 ⊢
  rw [List.pairwise_map] at h7 ⊢
  exact h7.imp fun {p q} h he=>h (congrArg f he)
 ·simp only [mv,List.map_map] at h6; exact h6
omit [DecidableEq α] in
theorem Cq {c:Cx} {S:Value→Prop} {xs:List (α × β)} {kP:List MapEntry} (hl:kP.length=xs.length) (h:∀ (j:Nat) (x:α) (y:β),xs[j]?=some (x,y)→∃ (en:MapEntry) (u:Value),kP[j]?=some en∧jr (f x)=some en.key∧S en.key∧u=en.val∧ao c (g y) u):(∀ en ∈ kP,S en.key)∧∀ (j:Nat) en,kP[j]?=some en→∃ x y,xs[j]?=some (x,y)∧jr (f x)=some en.key∧ao c (g y) en.val:=by
 have key:∀ (j:Nat) en,kP[j]?=some en→∃ x y,xs[j]?=some (x,y)∧jr (f x)=some en.key∧S en.key∧ao c (g y) en.val:=fun j en hj=>by
  have hlt:j<xs.length:=by rw [← hl]; exact (List.getElem?_eq_some_iff.1 hj).1
  obtain ⟨Qn,u,h1,h2,h3,rfl,h5⟩:=h j xs[j].1 xs[j].2 (by simp [hlt])
  rw [hj] at h1; cases h1
  exact ⟨xs[j].1,xs[j].2,by simp [hlt],h2,h3,h5⟩
 refine ⟨fun en hen=>?_,fun j en hj=>?_⟩
 ·obtain ⟨j,hj⟩:=List.mem_iff_getElem?.1 hen
  obtain ⟨_,_,_,_,h3,_⟩:=key j en hj; exact h3
 ·obtain ⟨x,y,h1,h2,_,h4⟩:=key j en hj; exact ⟨x,y,h1,h2,h4⟩
theorem N6 {vt:TypeId} {z:LV} (h:tzero P vt=some z) (w:World):∃ zv,(zeroValue vt).run P w=.ok zv w∧∀ c,ao c z zv:=by
 unfold tzero at h
 split at h
 ·rename_i i hi
  split at h
  ·rename_i zv hz
   split at h
   ·cases h
    exact ⟨zv,by simp [zeroValue,typeInfo,Sem.run,hi,hz],fun c=>pz c zv⟩
   ·cases h
  ·cases h
 ·cases h
theorem look {c:Cx} {id kt vt:Nat} {t:TypeId} {S:Value→Prop} {xs:List (α × β)} {key:α} {z:β} {v kv:Value} (ht:uI P t=some (kt,vt)) (K:Ox P kt S) (hf:Ae f S) (hm:cA c m) (bX:m id=some (.map kt vt (mv f g xs))) (hv:ao c (.mp id) v) (hk:ao c (f key) kv) (hz:tzero P vt=some (g z)) (ok:Bool) :
  ∃ u,(Instr.lookup t v kv ok).run P c.w=.ok (if ok then .tuple #[u,.bool (eR xs key).isSome] else u) c.w∧ao c (g ((eR xs key).getD z)) u:=by
 obtain ⟨b,kP,ck,hB,rfl,hh,hlen,uu,hnd,_⟩:=HJ hm bX hv hf
 obtain ⟨hS,Lg⟩:=Cq hlen uu
 obtain ⟨k0,e1,e2,_⟩:=hf.1 key
 obtain rfl:k0=kv:=(qB e1 hk).symm
 rcases K.find c.w k0 e2 kP.toList hS with ⟨h1,h2⟩ | ⟨j,en,h1,h2,h3⟩
 ·have uO:eR xs key=.none:=Jn fun p hp he=>by
   obtain ⟨j,hj⟩:=List.mem_iff_getElem?.1 hp
   obtain ⟨en,u,h4,h5,_⟩:=uu j p.1 p.2 hj
   rw [he,e1] at h5
   exact h2 en (List.mem_of_getElem? h4) (Option.some.inj h5).symm
  obtain ⟨zv,Bn,Jf⟩:=N6 hz c.w
  refine ⟨zv,?_,by rw [uO]; exact Jf c⟩
  simp [Instr.lookup,run_underlying (lu ht),MapKept.run_getObj_map hh,K.check c.w _ _ e2,h1,Bn,Result.andThen,uO]
 ·obtain ⟨x,y,h4,h5,h6⟩:=Lg j en h2
  have hx:x=key:=hf.2 x key (vB h5 (by rw [h3]; exact e1))
  subst hx
  have QG:eR xs x=some y:=Pn hnd h4
  refine ⟨en.val,?_,by rw [QG]; exact h6⟩
  simp [Instr.lookup,run_underlying (lu ht),MapKept.run_getObj_map hh,K.check c.w _ _ e2,h1,Result.andThen,QG]
theorem Jt {id kt vt:Nat} {t:TypeId} {d:Option Nat} {x k:Operand} {ty:TypeId} {pos:String} {af:Array Edge} {gd:Option (Nat × Bool)} {S:Value→Prop} {xs:List (α × β)} {key:α} {z:β} (ht:uI P t=some (kt,vt)) (K:Ox P kt S) (hf:Ae f S) (hx:ev x=.mp id) (bX:m id=some (.map kt vt (mv f g xs))) (hk:ev k=f key) (hz:tzero P vt=some (g z)) :
  bI P pr ⟨d,.lookup t x k false,ty,pos,af,gd⟩ ev m (g ((eR xs key).getD z)) m :=
 bI.value fun c a bG hm=>by
  have h1:=bG x (by simp [Op.operands])
  have h2:=bG k (by simp [Op.operands])
  rw [hx] at h1; rw [hk] at h2
  obtain ⟨u,hr,hu⟩:=look ht K hf hm bX h1 h2 hz false
  exact ⟨u,c,by simp [execOp,hr,Result.andThen],hu,hm,Step.refl pr c⟩
theorem qT {id kt vt:Nat} {t:TypeId} {d:Option Nat} {x k:Operand} {ty:TypeId} {pos:String} {af:Array Edge} {gd:Option (Nat × Bool)} {S:Value→Prop} {xs:List (α × β)} {key:α} {z:β} (ht:uI P t=some (kt,vt)) (K:Ox P kt S) (hf:Ae f S) (hx:ev x=.mp id) (bX:m id=some (.map kt vt (mv f g xs))) (hk:ev k=f key) (hz:tzero P vt=some (g z)) :
  bI P pr ⟨d,.lookup t x k true,ty,pos,af,gd⟩ ev m (.tup [g ((eR xs key).getD z),.bool (eR xs key).isSome]) m :=
 bI.value fun c a bG hm=>by
  have h1:=bG x (by simp [Op.operands])
  have h2:=bG k (by simp [Op.operands])
  rw [hx] at h1; rw [hk] at h2
  obtain ⟨u,hr,hu⟩:=look ht K hf hm bX h1 h2 hz true
  refine ⟨_,c,by simp [execOp,hr,Result.andThen]; rfl,?_,hm,Step.refl pr c⟩
  simp only [ao,aD]
  exact ⟨[u,.bool (eR xs key).isSome],rfl,u,_,rfl,hu,_,_,rfl,rfl,rfl⟩
theorem Po {xs:List (α × β)} {k:α} {v:β}:(et xs k v).map (·.1)=if k ∈ xs.map (·.1) then xs.map (·.1) else xs.map (·.1)++[k]:=by
 induction xs with
 | nil=>simp [et]
 | cons p r ih =>
  obtain ⟨a,b⟩:=p
  simp only [et]
  by_cases h:a=k
  ·simp [h]
  ·simp only [h,if_false,List.map_cons,ih,List.mem_cons]
   have:¬ k=a:=fun h'=>h h'.symm
   simp only [this,false_or]
   split <;> simp
theorem fY {id kt vt:Nat} {t:TypeId} {x k y:Operand} {ty:TypeId} {pos:String} {af:Array Edge} {gd:Option (Nat × Bool)} {S:Value→Prop} {xs:List (α × β)} {key:α} {val:β} {op:Op} (J9:op=.mapUpdate t x k y ∨ op=.insert t x k y) (ht:uI P t=some (kt,vt)) (K:Ox P kt S) (hf:Ae f S) (hg:∀ y,(g y).pure=true) (hx:ev x=.mp id) (bX:m id=some (.map kt vt (mv f g xs))) (hk:ev k=f key) (hy:ev y=g val) :
  bI P pr ⟨.none,op,ty,pos,af,gd⟩ ev m .fp (m.put id (.map kt vt (mv f g (et xs key val)))) :=
 bI.skip rfl fun c a bG hm=>by
  have SF:op.operands=#[x,k,y]:=by rcases J9 with rfl | rfl <;> rfl
  have h1:=bG x (by simp [SF])
  have h2:=bG k (by simp [SF])
  have h3:=bG y (by simp [SF])
  rw [hx] at h1; rw [hk] at h2; rw [hy] at h3
  obtain ⟨b,kP,ck,hB,rK,hh,hlen,uu,hnd,hpv⟩:=HJ hm bX h1 hf
  obtain ⟨hS,Lg⟩:=Cq hlen uu
  obtain ⟨k0,e1,e2,_⟩:=hf.1 key
  have Lu:=qB e1 h2
  have hb:b<c.w.heap.size:=(Array.getElem?_eq_some_iff.1 hh).1
  -- a new table of entries
  have fin : ∀ N7 Qm, (∀ w' : World, w' = { c.w with heap := c.w.heap.setIfInBounds b (.map N7 Qm) } → (Instr.mapUpdate t (.map (some b)) k0 (a.eval y)).run P c.w = .ok () w') →
    (∀ c':Cx,c.Le c'→(∀ i,jy (c.B i) (c'.B i))→aD c' ((mv f g (et xs key val)).map (·.1)) (N7.toList.map (·.key))∧aD c' ((mv f g (et xs key val)).map (·.2)) (N7.toList.map (·.val)))→E8 N7 Qm →
    ∃ c',(execOp a.eval ⟨.none,op,ty,pos,af,gd⟩).run P c.w=.ok .skip c'.w∧cA c' (m.put id (.map kt vt (mv f g (et xs key val))))∧Step pr c c':=by
   intro N7 Qm dD cn OT
   obtain ⟨c',hw,jP,h4,h5⟩:=hm.Bw (pr:=pr) id (.map kt vt (mv f g (et xs key val))) (.mp b) { c.w with heap:=c.w.heap.setIfInBounds b (.map N7 Qm) } rfl rfl rfl (Nat.le_refl _) (by simp)
    (fun q hq eO=>by simp only; rw [Array.getElem?_setIfInBounds_ne]; intro he; subst he; exact eO _ hB rfl)
    (fun q hq=>.inl ⟨_,hB,hq⟩) (by rw [hB]; exact jy.refl _) (fun _ dA h0=>by rw [hB] at h0; cases h0; exact .refl _)
    (fun c' hw hle hble=>by
     simp only [bo]
     obtain ⟨r1,r2⟩:=cn c' hle hble
     refine ⟨b,N7,Qm,rfl,by rw [hw]; simp [hb],r1,r2,?_,?_,?_,OT⟩
     ·refine dg.2 fun q hq=>?_
      simp only [mv,List.map_map,List.mem_map] at hq
      obtain ⟨p,_,rfl⟩:=hq
      obtain ⟨_,_,_,h⟩:=hf.1 p.1; exact h
     ·refine dg.2 fun q hq=>?_
      simp only [mv,List.map_map,List.mem_map] at hq
      obtain ⟨p,_,rfl⟩:=hq
      exact hg p.2
     ·have:(mv f g (et xs key val)).map (·.1)=((et xs key val).map (·.1)).map f:=by simp [mv]
      rw [this,Po]
      rw [List.nodup_iff_pairwise_ne,List.pairwise_map,← List.nodup_iff_pairwise_ne.trans ⟨fun h=>h.imp fun {p q} h' he=>h' (hf.2 p q he),fun h=>h.imp fun {p q} h' he=>h' (congrArg f he)⟩]
      split
      ·exact hnd
      ·rename_i hni
       rw [List.nodup_append]
       refine ⟨hnd,by simp,fun p hp q hq=>?_⟩
       simp at hq; subst hq; exact fun he=>hni (he ▸ hp))
   refine ⟨c',?_,h4,h5⟩
   rw [hw]
   rcases J9 with rfl | rfl <;> simp [execOp,rK,Lu,dD _ rfl,Result.andThen]
  have OT:E8 kP ck:=by
   have he:=hm.gY id
   rw [bX] at he
   simp only [bo] at he
   obtain ⟨b2,N7,Qm,g1,g2,g3,g4,g5,g6,g7,g8⟩:=he
   rw [hB] at g1; cases g1
   rw [hh] at g2; cases g2
   exact g8
  have Pf:∀ l:List (α × β),(mv f g l).map (·.1)=l.map fun p=>f p.1:=fun l=>by simp [mv]
  have US:∀ l:List (α × β),(mv f g l).map (·.2)=l.map fun p=>g p.2:=fun l=>by simp [mv]
  rcases K.find c.w k0 e2 kP.toList hS with ⟨q1,q2⟩ | ⟨j,en,q1,q2,q3⟩
  ·have SJ:et xs key val=xs++[(key,val)]:=Jo fun p hp he=>by
    obtain ⟨j,hj⟩:=List.mem_iff_getElem?.1 hp
    obtain ⟨en,u,h4,h5,_⟩:=uu j p.1 p.2 hj
    rw [he,e1] at h5
    exact q2 en (List.mem_of_getElem? h4) (Option.some.inj h5).symm
   refine fin (kP.push ⟨k0,a.eval y,ck⟩) (ck+1) (fun w' Kc=>?_) (fun c' hle hble=>?_) ⟨?_,?_⟩
   rotate_left 2
   ·rw [Array.toList_push,List.map_append,List.nodup_append]
    refine ⟨OT.1,by simp,fun p hp q hq=>?_⟩
    simp only [List.map_cons,List.map_nil,List.mem_singleton] at hq
    subst hq
    obtain ⟨x,hx,rfl⟩:=List.mem_map.1 hp
    exact Nat.ne_of_lt (OT.2 x hx)
   ·intro x hx
    rw [Array.toList_push,List.mem_append] at hx
    rcases hx with hx | hx
    ·exact Nat.lt_succ_of_lt (OT.2 x hx)
    ·simp only [List.mem_singleton] at hx; subst hx; exact Nat.lt_succ_self _
   ·subst Kc
    simp [Instr.mapUpdate,run_underlying (lu ht),MapKept.run_getObj_map hh,K.check c.w _ _ e2,q1,MapKept.run_setObj_map _ hh,Result.andThen]
   ·rw [SJ,Pf,US]
    simp only [List.map_append,List.map_cons,List.map_nil,Array.toList_push]
    have he:=hm.gY id
    rw [bX] at he
    simp only [bo] at he
    obtain ⟨b2,N7,Qm,g1,g2,g3,g4,g5,g6,g7⟩:=he
    rw [hB] at g1; cases g1
    rw [hh] at g2; cases g2
    rw [Pf] at g3 g5; rw [US] at g4 g6
    refine ⟨aD.append (aD.mono hle _ _ (fun q hq=>by rw [az _ g5] at hq; cases hq) g3) ?_,aD.append (aD.mono hle _ _ (fun q hq=>by rw [az _ g6] at hq; cases hq) g4) ?_⟩
    ·simp only [aD]
     refine ⟨_,_,rfl,ao.mono hle _ _ (fun q _=>hble q) (by rw [← Lu]; exact h2),rfl⟩
    ·simp only [aD]
     exact ⟨_,_,rfl,ao.mono hle _ _ (fun q _=>hble q) h3,rfl⟩
  ·obtain ⟨x0,y0,h4,h5,h6⟩:=Lg j en q2
   have Oe:x0=key:=hf.2 x0 key (vB h5 (by rw [q3]; exact e1))
   subst Oe
   have SJ:et xs x0 val=xs.set j (x0,val):=MI hnd h4
   have nz:j<xs.length:=(List.getElem?_eq_some_iff.1 h4).1
   have Lt:kP[j]?=some en:=by simpa using q2
   have hbm:∀ (l:List MapEntry),(l.modify j fun e'=>{ e' with key:=k0,val:=a.eval y }).map (·.born)=l.map (·.born):=fun l=>by
    apply List.ext_getElem?
    intro i
    simp only [List.getElem?_map,List.getElem?_modify]
    cases l[i]? with
    | none=>simp
    | some z=>by_cases ra:j=i <;> simp [ra]
   refine fin (kP.modify j fun e'=>{ e' with key:=k0,val:=a.eval y }) ck (fun w' Kc=>?_) (fun c' hle hble=>?_) ⟨by rw [Array.toList_modify,hbm]; exact OT.1,fun x hx=>?_⟩
   rotate_left 2
   ·rw [Array.toList_modify] at hx
    have:x.born ∈ kP.toList.map (·.born):=by rw [← hbm]; exact List.mem_map.2 ⟨x,hx,rfl⟩
    obtain ⟨z,hz,he⟩:=List.mem_map.1 this
    rw [← he]; exact OT.2 z hz
   ·subst Kc
    simp [Instr.mapUpdate,run_underlying (lu ht),MapKept.run_getObj_map hh,K.check c.w _ _ e2,q1,Lt,q3,K.stays c.w _ e2,MapKept.run_setObj_map _ hh,Result.andThen]
   ·rw [SJ,Pf,US]
    have QC:(kP.modify j fun e'=>{ e' with key:=k0,val:=a.eval y }).toList.length=kP.toList.length:=by simp
    constructor
    ·refine aD.of (by simp; simpa using hlen.symm) fun i lx v Ww hv=>?_
     simp only [List.getElem?_map,List.getElem?_set,Array.toList_modify,List.getElem?_modify,Option.map_eq_some_iff] at Ww
     obtain ⟨p,hp,rfl⟩:=Ww
     obtain ⟨IQ,ZZ,rfl⟩:∃ IQ,kP.toList[i]?=some IQ∧(if j=i then { IQ with key:=k0,val:=a.eval y } else IQ:MapEntry).key=v:=by
      simp only [List.getElem?_map,Array.toList_modify,List.getElem?_modify] at hv
      cases hq:kP.toList[i]? with
      | none=>rw [hq] at hv; simp at hv
      | some IQ=>rw [hq] at hv; simp at hv; exact ⟨IQ,rfl,hv⟩
     by_cases ra:j=i
     ·subst ra
      rw [if_pos rfl,if_pos nz] at hp; cases hp
      simp only [if_true]
      exact ao.mono hle _ _ (fun q _=>hble q) (by rw [← Lu]; exact h2)
     ·rw [if_neg ra] at hp
      simp only [ra,if_false]
      obtain ⟨en4,u,r1,r2,r3,r4,r5⟩:=uu i p.1 p.2 hp
      rw [ZZ] at r1; cases r1
      have he:=hm.gY id
      rw [bX] at he
      simp only [bo] at he
      obtain ⟨b2,N7,Qm,g1,g2,g3,g4,g5,g6,g7⟩:=he
      rw [hB] at g1; cases g1
      rw [hh] at g2; cases g2
      rw [Pf] at g3
      obtain ⟨v2,s1,s2⟩:=g3.get (i:=i) (x:=f p.1) (by simp [hp])
      simp only [List.getElem?_map,ZZ,Option.map_some,Option.some.injEq] at s1
      subst s1
      exact ao.mono hle _ _ (fun q _=>hble q) s2
    ·refine aD.of (by simp; simpa using hlen.symm) fun i lx v Ww hv=>?_
     simp only [List.getElem?_map,List.getElem?_set,Array.toList_modify,List.getElem?_modify,Option.map_eq_some_iff] at Ww
     obtain ⟨p,hp,rfl⟩:=Ww
     obtain ⟨IQ,ZZ,rfl⟩:∃ IQ,kP.toList[i]?=some IQ∧(if j=i then { IQ with key:=k0,val:=a.eval y } else IQ:MapEntry).val=v:=by
      simp only [List.getElem?_map,Array.toList_modify,List.getElem?_modify] at hv
      cases hq:kP.toList[i]? with
      | none=>rw [hq] at hv; simp at hv
      | some IQ=>rw [hq] at hv; simp at hv; exact ⟨IQ,rfl,hv⟩
     by_cases ra:j=i
     ·subst ra
      rw [if_pos rfl,if_pos nz] at hp; cases hp
      simp only [if_true]
      exact ao.mono hle _ _ (fun q _=>hble q) h3
     ·rw [if_neg ra] at hp
      simp only [ra,if_false]
      obtain ⟨en4,u,r1,r2,r3,rfl,r5⟩:=uu i p.1 p.2 hp
      rw [ZZ] at r1; cases r1
      exact ao.mono hle _ _ (fun q _=>hble q) r5
theorem k9 {i id kt vt:Nat} {t:TypeId} {ty:TypeId} {pos:String} {af:Array Edge} {gd:Option (Nat × Bool)} (bX:m id=.none):bI P pr ⟨some i,.makeMap t .none,ty,pos,af,gd⟩ ev m (.mp id) (m.put id (.map kt vt [])) :=
 bI.value fun c a bG hm=>by
  have hB:=hm.fresh bX
  obtain ⟨c',hw,hb,h2,h3⟩:=hm.Bw (pr:=pr) id (.map kt vt []) (.mp c.w.heap.size) (c.w.alloc (.map #[] 0)) rfl rfl rfl (Nat.le_refl _) (by simp)
   (fun b hb _=>rG c.w _ b hb) (fun b hb=>by simp [BE.has] at hb; subst hb; exact .inr (Nat.le_refl _)) (by rw [hB]; trivial) (fun _ dA h0=>by rw [hB] at h0; cases h0)
   (fun c' hw hle hble=>by
    simp only [bo]
    exact ⟨c.w.heap.size,#[],0,rfl,by rw [hw]; show (c.w.heap.push _)[c.w.heap.size]?=_; simp,by simp [aD],by simp [aD],rfl,rfl,by simp,⟨by simp,by simp⟩⟩)
  refine ⟨.map (some c.w.heap.size),c',?_,?_,h2,h3⟩
  ·rw [hw]; rfl
  ·simp only [ao]; exact ⟨_,hb,rfl⟩
end
theorem tF {kd:IntKind} {a:Int}:∀ (es:List MapEntry) (i:Nat),(∀ e ∈ es,∃ n,e.key=.int kd n)→(Instr.findNow (.int kd) (.int kd a) es i=some .none∧∀ e ∈ es,e.key ≠ .int kd a) ∨ ∃ j e,Instr.findNow (.int kd) (.int kd a) es i=some (some (i+j,e.val))∧es[j]?=some e∧e.key=.int kd a
 | [],i,_=>.inl ⟨rfl,by simp⟩
 | e :: es,i,h=>by
  obtain ⟨n,hn⟩:=h e (by simp)
  by_cases he:a=n
  ·subst he
   exact .inr ⟨0,e,by simp [Instr.findNow,hn,Instr.sameNow],rfl,hn⟩
  ·have hs:Instr.sameNow (.int kd) (.int kd a) e.key=some false:=by simp [hn,Instr.sameNow,he]
   rcases tF (a:=a) es (i+1) (fun e' FB=>h e' (by simp [FB])) with ⟨h1,h2⟩ | ⟨j,e',h1,h2,h3⟩
   ·refine .inl ⟨by simp [Instr.findNow,hs,h1],fun e' FB=>?_⟩
    rcases List.mem_cons.1 FB with rfl | FB
    ·rw [hn]; intro h'; cases h'; exact he rfl
    ·exact h2 e' FB
   ·exact .inr ⟨j+1,e',by simp only [Instr.findNow,hs,h1,Option.some.injEq,Prod.mk.injEq,and_true]; omega,by simpa using h2,h3⟩
theorem IL {P:Program} {k:TypeId} {kd:IntKind} (hk:P.underlying k=some (.int kd)) (w:World) (em:Bool) (a:Int) (n:Nat):(Instr.checkKey em (n+1) k (.int kd a)).run P w=.ok () w:=by
 simp only [Instr.checkKey]; simp [run_underlying hk]
theorem ada {P:Program} {k:TypeId} {kd:IntKind} (hk:P.underlying k=some (.int kd)):Ox P k (fun v=>∃ n,v=.int kd n) where
 check:=fun w em v ⟨n,hn⟩=>by subst hn; exact IL hk w em n 9999
 find:=fun w x ⟨a,ha⟩ es Qu=>by
  subst ha
  rcases tF (a:=a) es 0 Qu with ⟨h1,h2⟩ | ⟨j,e,h1,h2,h3⟩
  ·exact .inl ⟨by simp [Instr.findKey,run_underlying hk,h1],h2⟩
  ·exact .inr ⟨j,e,by simp [Instr.findKey,run_underlying hk,h1],h2,h3⟩
 stays:=fun w v ⟨n,hn⟩=>by subst hn; simp [Instr.keyThatStays,Instr.sameBits]
theorem kfI {kd:IntKind}:Ae (LV.int kd) (fun v=>∃ n,v=.int kd n):=⟨fun x=>⟨.int kd x,rfl,⟨x,rfl⟩,rfl⟩,fun x y h=>by cases h; rfl⟩
theorem Hs {P:Program} {k:TypeId} {α:Type} [DecidableEq α] {enc:α→Value} (heq:∀ x y w,(Op.equal k (enc x) (enc y)).run P w=.ok (decide (x=y)) w) (w:World) (x:α):∀ (es:List MapEntry) (i:Nat),(∀ e ∈ es,∃ y,e.key=enc y)→((Instr.findAsking k (enc x) es i).run P w=.ok .none w∧∀ e ∈ es,e.key ≠ enc x) ∨ ∃ j e,(Instr.findAsking k (enc x) es i).run P w=.ok (some (i+j,e.val)) w∧es[j]?=some e∧e.key=enc x
 | [],i,_=>.inl ⟨by simp [Instr.findAsking],by simp⟩
 | e :: es,i,h=>by
  obtain ⟨y,hy⟩:=h e (by simp)
  by_cases he:x=y
  ·subst he
   exact .inr ⟨0,e,by simp [Instr.findAsking,hy,heq],rfl,hy⟩
  ·have eO:¬ e.key=enc x:=fun h'=>by
    have h1:=heq x y w
    rw [← hy,h',heq x x w] at h1
    simp [he] at h1
   rcases Hs heq w x es (i+1) (fun e' FB=>h e' (by simp [FB])) with ⟨h1,h2⟩ | ⟨j,e',h1,h2,h3⟩
   ·refine .inl ⟨by simp [Instr.findAsking,hy,heq,he,h1],fun e' FB=>?_⟩
    rcases List.mem_cons.1 FB with rfl | FB
    ·exact eO
    ·exact h2 e' FB
   ·exact .inr ⟨j+1,e',by simp [Instr.findAsking,hy,heq,he,h1]; omega,by simpa using h2,h3⟩
theorem adb {P:Program} {k:TypeId} {ds:TypeDesc} {α:Type} [DecidableEq α] {enc:α→Value} (hk:P.underlying k=some ds) (uO:∀ x y,Instr.sameNow ds (enc x) (enc y)=.none) (Be:∀ w em x,(Instr.checkKey em 10000 k (enc x)).run P w=.ok () w) (heq:∀ x y w,(Op.equal k (enc x) (enc y)).run P w=.ok (decide (x=y)) w) (oH:∀ x,Instr.sameBits 10000 (enc x) (enc x)=true):Ox P k (fun v=>∃ x,v=enc x) where
 check:=fun w em v ⟨x,hx⟩=>by subst hx; exact Be w em x
 find:=fun w v ⟨x,hx⟩ es Qu=>by
  subst hx
  cases es with
  | nil=>exact .inl ⟨by simp [Instr.findKey,run_underlying hk,Instr.findNow],by simp⟩
  | cons e es =>
   obtain ⟨y,hy⟩:=Qu e (by simp)
   have hn:Instr.findNow ds (enc x) (e :: es) 0=.none:=by simp [Instr.findNow,hy,uO]
   have dD:(Instr.findKey k (enc x) (e :: es)).run P w=(Instr.findAsking k (enc x) (e :: es) 0).run P w:=by simp [Instr.findKey,run_underlying hk,hn]
   rcases Hs heq w x (e :: es) 0 Qu with ⟨h1,h2⟩ | ⟨j,e',h1,h2,h3⟩
   ·exact .inl ⟨by rw [dD,h1],h2⟩
   ·exact .inr ⟨j,e',by rw [dD,h1]; simp,h2,h3⟩
 stays:=fun w v ⟨x,hx⟩=>by subst hx; simp [Instr.keyThatStays,oH]
theorem aaE {P:Program} {t:TypeId} {xs ys:List LV} {us vs:List Value} {b:Bool} (h:rk P t xs ys b) (hx:eV xs=some us) (hy:eV ys=some vs) (w:World):(Op.equal t (.agg us.toArray) (.agg vs.toArray)).run P w=.ok b w:=by
 obtain ⟨_,ZH,fD,h1,h2,h3⟩:=h
 rw [hx] at h1; rw [hy] at h2; cases h1; cases h2
 exact h3 w
end Go.L
namespace Go.L
section
variable {P:Program}
theorem jC (w:World) (dT sT ty elem:TypeId) (k g o BO OF:Nat) (a:Addr) (kF se:Nat) (cur:Array Value) (t:TypeId) (cs:List Value)
  (hu:P.underlying dT=some (.slice elem)) (hs:∀ w,(sizeOf elem).run P w=.ok k w)
  (hg:w.heap[g]?=some (.cells cur t (0,0))) (hn:cs.length=Nat.min kF BO * k)
  (hsrc:∀ j v,cs[j]?=some v→w.cell? (a.add j)=some v) (hfit:o+cs.length≤cur.size) (h1:∀ v ∈ cs,v.oneCell'=true) :
  (Builtin.copy_ #[dT,sT] ty #[.slice (some ⟨g,o,none⟩) BO OF,.slice (some a) kF se]).run P w =
   .ok (goInt (Nat.min kF BO)) (w.setRow g (cur.toList.take o++cs++cur.toList.drop (o+cs.length)).toArray):=by
 have hl:=run_firstCells_some (P:=P) w k (Nat.min kF BO) a kF se cs hn hsrc
 have oH:=run_storeCells_at P g o t cs 0 cur w hg (by simpa using hfit) h1
 simp only [Nat.add_zero] at oH
 simp [Builtin.copy_,run_underlying hu,Builtin.lenOf,hs,hl,oH]
theorem oR (w:World) (t tn ty e:TypeId) (i:TypeInfo) (z:Value) (kk kn:IntKind) (ht:P.underlying t=some (.slice e)) (htn:P.underlying tn=some (.int kn)) (hi:P.info? e=some i) (hz:i.zero=some z)
  (b:Addr) (kF se:Nat) (Pw:List Value) (Jc:Pw.length=kF * i.size) (holds:∀ j v,Pw[j]?=some v→w.cell? (b.add j)=some v)
  (n:Nat) (h0:0<n) (hs:0<i.size) (Qy:se<kF+n) (h63:((kF+n:Nat):Int)≤9223372036854775807) (h48:n * i.bytes≤281474976710656) (hfit:Builtin.nextslicecap (kF+n) se * i.bytes≤281474976710656) :
  (Builtin.append_ #[t,tn] ty #[.slice (some b) kF se,.int kk n]).run P w =
   .ok (.slice (some ⟨w.heap.size,0,none⟩) (kF+n) (grownCap w (kF+n) se e)) (w.drew.alloc (.cells (Pw.toArray++Builtin.zeroCells z.cells n++Builtin.zeroCells z.cells (grownCap w (kF+n) se e - (kF+n))) e)):=by
 have hn:¬ (kF+n≤se):=by omega
 have hw:IntKind.i64.wrap (n:Int)=n:=by rw [IntKind.wrap_i64]; omega
 have aaN:¬ (9223372036854775807<((kF:Int)+(n:Int))):=by omega
 have aaJ:¬ (281474976710656<Builtin.nextslicecap (kF+n) se * i.bytes):=by omega
 have aaK:¬ (281474976710656<(n:Int) * (i.bytes:Int)):=by
  rw [← Int.natCast_mul]
  omega
 have SE:¬ ((n:Int)<0):=by omega
 have Vg:n ≠ 0:=by omega
 have Ob:¬ (n * i.size=0):=Nat.mul_ne_zero Vg (by omega)
 have hfo:=run_firstCells_some (P:=P) w.drew i.size kF b kF se Pw Jc (by simpa using holds)
 simp [Builtin.append_,run_underlying ht,run_underlying htn,sizeOf,typeInfo,zeroValue,hi,hz,asInt,asIntOf,hw,hn,Vg,SE,Ob,aaN,aaJ,aaK,Question.forced,hfo,newRow,grownCap]
theorem lj {ops:Array Oper} {o:Oper} {a:Act} {w:World} {K:Act→World→Prop} {Q:Exit→Act→World→Prop} {E:Prop}
  (hg:o.guard=none) (d x:Operand) (dT sT:TypeId) (J9:o.op=Op.call { callee:=Callee.builtin Builtin.copy,args:=#[d,x],argTypes:=#[dT,sT] })
  (v u:Value) (hd:a.eval d=v) (hx:a.eval x=u) {v':Value} {w':World} (hr:(Builtin.copy_ #[dT,sT] o.type #[v,u]).run P w=.ok v' w') (hK:K (a.put o.dst v') w') :
  if Region.wanted o (yielded ops a.tmps)=true then Oper.wp P o a w K Q else E:=by
 have hw:Region.wanted o (yielded ops a.tmps)=true:=by simp [Region.wanted,hg]
 rw [if_pos hw]
 unfold Oper.wp
 simp [execOp,J9,resolve,invoke,builtin,hd,hx,hr,Result.andThen]
 exact hK
structure mJ (w w':World) (e k:Nat) (u u':Value) (n':Nat) (Bx:List Value):Prop where
 own:w'.ownsRow 0 e k u' n' Bx
 grown:w.grownBy w' u.ownBlock
 jK:∀ b,u'.ownBlock=some b→u.ownBlock=some b ∨ w.heap.size≤b
 drawn:w.drawn≤w'.drawn
theorem sM {t t' ty ty':TypeId} {vs:Array Value}:Builtin.append_ #[t,t'] ty vs=Builtin.append_ #[t,t'] ty' vs:=rfl
end
end Go.L
namespace Go.L
section
variable {P:Program} {N:Nat} {pr:Nat→Prop} {ops:Array Oper} {e:Env} {m m':Mem} {ev:Operand→LV} {o:Oper} {lv:LV} {l:List Oper} {KE:Env→Mem→Prop}
def HB (id:Nat) (m:Mem):Prop:=∀ j le,j ≠ id→m j=some le→le.jh id=true
theorem HB.of {id:Nat} {ml:List (Nat × LE)} (h:tH id ml=true):HB id (Mem.of ml):=o6 h
theorem cA.ZG {c:Cx} (h:cA c m) (id:Nat) (le:LE) (be:BE) (w':World)
  (Ka:w'.os=c.w.os) (rI:w'.tape=c.w.tape) (pa:w'.output=c.w.output) (B5:c.w.drawn≤w'.drawn) (iM:c.w.heap.size≤w'.heap.size)
  (iX:∀ b,b<c.w.heap.size→(∀ dA,c.B id=some dA→¬ dA.has b)→w'.heap[b]?=c.w.heap[b]?)
  (hblk:∀ b,be.has b→(∃ dA,c.B id=some dA∧dA.has b) ∨ c.w.heap.size≤b)
  (kA:¬ pr id) (j3:HB id m) (iQ:∀ c':Cx,c'.w=w'→c.Le c'→bo c' (some le) (some be)) :
  ∃ c':Cx,c'.w=w'∧c'.B id=some be∧cA c' (m.put id le)∧Grow pr c c'∧∀ i,i ≠ id→jy (c.B i) (c'.B i):=by
 let c':Cx:=⟨w',fun i=>if i=id then some be else c.B i,c.O⟩
 have bt:∀ b,c'.own b→c.own b ∨ c.w.heap.size≤b:=by
  rintro b ⟨i,ef,h1,h2⟩
  by_cases hi:i=id
  ·simp only [c',hi,if_true] at h1
   cases h1
   rcases hblk b h2 with ⟨dA,h3,h4⟩ | hs
   ·exact .inl ⟨id,dA,h3,h4⟩
   ·exact .inr hs
  ·simp only [c',hi,if_false] at h1
   exact .inl ⟨i,ef,h1,h2⟩
 have eW:Grow pr c c':=by
  refine ⟨rfl,Ka,rI,pa,B5,iM,fun b hb ho=>iX b hb (fun dA h0 h1=>ho ⟨id,dA,h0,h1⟩),bt,fun i ef hp hb=>?_⟩
  by_cases hi:i=id
  ·subst hi; exact absurd hp kA
  ·exact ⟨ef,by simp only [c',hi,if_false]; exact hb,.refl ef⟩
 have hble:∀ i,i ≠ id→jy (c.B i) (c'.B i):=by
  intro i hi
  simp only [c',hi,if_false]; exact jy.refl _
 refine ⟨c',rfl,by simp [c'],⟨fun i=>?_,?_,?_,?_⟩,eW,hble⟩
 ·by_cases hi:i=id
  ·subst hi; simp only [c',Mem.put,if_true]; exact iQ c' rfl eW.le
  ·simp only [Mem.put,hi,if_false]
   have hBi:c'.B i=c.B i:=by simp [c',hi]
   rw [hBi]
   have hh:∀ ef b,c.B i=some ef→ef.has b→c'.w.heap[b]?=c.w.heap[b]?:=fun ef b hb vH =>
    iX b ((h.gY i).lt hb vH) fun dA h0 h1=>hi (h.inj i id ef dA b hb h0 vH h1)
   have he:=h.gY i
   cases Bi:m i with
   | none=>rw [Bi] at he; simpa only [bo] using he
   | some po =>
    rw [Bi] at he
    cases po with
    | box cs =>
     simp only [bo] at he ⊢
     obtain ⟨b,vs,ee,h1,h2,h3,h4⟩:=he
     exact ⟨b,vs,ee,h1,(hh _ b h1 rfl).trans h2,aD.mono eW.le cs vs (fun j hj=>by
      by_cases B9:j=id
      ·subst B9; have h9:=j3 i _ hi Bi; simp only [LE.jh] at h9; rw [h9] at hj; cases hj
      ·exact hble j B9) h3,h4⟩
    | arr ee k xs =>
     simp only [bo] at he ⊢
     obtain ⟨u,vs,h1,h0,h2,h3,h4,h5⟩:=he
     exact ⟨u,vs,h1,h0,c9 h2 (fun b hb=>hh _ b h1 (.inl hb)),aD.mono eW.le xs vs (fun j hj=>by rw [az xs h5] at hj; cases hj) h3,h4,h5⟩
    | nest ee k os xs =>
     simp only [bo] at he ⊢
     obtain ⟨u,vs,bs,h1,h0,h2,h3,h4⟩:=he
     exact ⟨u,vs,bs,h1,h0,c9 h2 (fun b hb=>hh _ b h1 (.inl hb)),h3.mono eW.le (fun b hb=>hh _ b h1 (.inr hb)),h4⟩
    | dm ee k os xs i1 o1 id2 n2 =>
     simp only [bo] at he ⊢
     obtain ⟨u,vs,bs,h1,h0,h2,h3,⟨ws,v,q1,q2,q3⟩,h4⟩:=he
     exact ⟨u,vs,bs,h1,h0,c9 h2 (fun b hb=>hh _ b h1 (.inl hb)),h3.mono eW.le (fun b hb=>hh _ b h1 (.inr hb)),⟨ws,v,q1,(sQ (hh _ ws h1 (.inl q1)) _).trans q2,ao.mono eW.le (.arr id2 n2) v (fun j hj=>by
      by_cases B9:j=id
      ·subst B9; have h9:=j3 i _ hi Bi; simp only [LE.jh] at h9; simp only [LV.bg] at hj; rw [h9] at hj; cases hj
      ·exact hble j B9) q3⟩,h4⟩
    | dead=>simpa only [bo] using he
    | map kt vt es =>
     simp only [bo] at he ⊢
     obtain ⟨b,kP,ck,h1,h2,h3,h4,h5,h6,h7⟩:=he
     exact ⟨b,kP,ck,h1,(hh _ b h1 rfl).trans h2,aD.mono eW.le _ _ (fun j hj=>by rw [az _ h5] at hj; cases hj) h3,aD.mono eW.le _ _ (fun j hj=>by rw [az _ h6] at hj; cases hj) h4,h5,h6,h7⟩
 ·intro i i' b1 b2 b h1 h2 h3 h4
  by_cases hi:i=id <;> by_cases fQ:i'=id
  ·rw [hi,fQ]
  ·simp only [c',hi,if_true] at h1
   simp only [c',fQ,if_false] at h2
   cases h1
   rcases hblk b h3 with ⟨dA,h5,h6⟩ | hs
   ·rw [hi]; exact h.inj id i' dA b2 b h5 h2 h6 h4
   ·have:=(h.gY i').lt h2 h4; omega
  ·simp only [c',hi,if_false] at h1
   simp only [c',fQ,if_true] at h2
   cases h2
   rcases hblk b h4 with ⟨dA,h5,h6⟩ | hs
   ·rw [fQ]; exact h.inj i id b1 dA b h1 h5 h3 h6
   ·have:=(h.gY i).lt h1 h3; omega
  ·simp only [c',hi,if_false] at h1
   simp only [c',fQ,if_false] at h2
   exact h.inj i i' b1 b2 b h1 h2 h3 h4
 ·intro b ho hO
  rcases bt b ho with ho | hs
  ·exact h.kB b ho hO
  ·have:=h.xR b hO; omega
 ·intro b hO; exact Nat.lt_of_lt_of_le (h.xR b hO) iM
def Env.drop (e:Env) (id:Nat):Env:=fun i=>if (e i).bg id=true then e i else .fp
def oY (P:Program) (pr:Nat→Prop) (id:Nat) (o:Oper) (ev:Operand→LV) (m:Mem) (lv:LV) (m':Mem):Prop :=
 ∀ (c:Cx) (a:Act) (Q:Exit→Act→World→Prop),(∀ x,ao c (ev x) (a.eval x))→cA c m →
  o.wp P a c.w (fun a' w'=>∃ v c',a'=a.put o.dst v∧c'.w=w'∧ao c' lv v∧cA c' m'∧Grow pr c c'∧∀ i,i ≠ id→jy (c.B i) (c'.B i)) Q
theorem Ik {i id:Nat} {op:Op} {ty:TypeId} {pos:String} {af:Array Edge} (h:oY P pr id ⟨some i,op,ty,pos,af,.none⟩ (dZ e) m lv m') (hr:cH P N pr ops l KE ((e.drop id).put i lv) m'):cH P N pr ops (⟨some i,op,ty,pos,af,.none⟩ :: l) KE e m:=by
 intro hd hl
 obtain ⟨e2,m2,hK,kj⟩:=hr hd (fun q hq=>hl q (by simp [hq]))
 refine ⟨e2,m2,hK,fun c a cn=>?_⟩
 simp only [wpList]
 rw [if_pos (by simp [Region.wanted])]
 left
 refine Oper.wp_mono ?_ (h c a _ cn.ev cn.mem)
 rintro a' w' ⟨v,c',rfl,rfl,hv,kh,hg,hble⟩
 have hlt:i<N:=hd ⟨some i,op,ty,pos,af,.none⟩ (hl _ (by simp)) i rfl
 have vW:oh N c' ((e.drop id).put i lv) m' (a.put (some i) v):=by
  refine ⟨fun j=>?_,kh,by simp [Act.put,cn.size],cn.defers⟩
  simp only [Env.put,Act.put]
  by_cases hj:j=i
  ·subst hj
   have:j<a.tmps.size:=by rw [cn.size]; exact hlt
   simpa [this] using hv
  ·simp only [hj,if_false]
   have:ao c' (e.drop id j) (a.tmps.getD j undef):=by
    simp only [Env.drop]
    split
    ·rename_i hn
     exact ao.mono hg.le _ _ (fun q hq=>hble q (fun O3=>by subst O3; rw [hn] at hq; cases hq)) (cn.env j)
    ·simp only [ao]
   simpa [Array.getElem?_setIfInBounds_ne (Ne.symm hj)] using this
 refine gJ _ _ _ _ _ ?_ (kj c' _ vW)
 rintro x VH UT ⟨hx,c2,rL,hr2,hg2⟩
 exact ⟨hx,c2,rL,hr2,hg.trans hg2⟩
theorem oY.of {id k n n' e0:Nat} {ys:List LV} (kA:¬ pr id) (j3:HB id m)
  (W:∀ (c:Cx) (a:Act),(∀ x,ao c (ev x) (a.eval x))→cA c m→∃ u f args fD,c.B id=some (.arr u k n [])∧(execOp a.eval o).run P c.w=.ok (.enter f args) c.w∧(Calls P f args c.w fun en w'=>∃ u',en=.returned u'∧mJ c.w w' e0 k u u' ys.length (flat fD))∧aD c ys fD∧(∀ v ∈ fD,v.cells.size=k∧∀ y ∈ v.cells,y.oneCell'=true)∧LV.bf ys=true∧0<k) :
  oY P pr id o ev m (.arr id ys.length) (m.put id (.arr e0 k ys)):=by
 intro c a Q bG hm
 obtain ⟨u,f,args,fD,hB,dD,lI,hl,hc,hp,hk⟩:=W c a bG hm
 unfold Oper.wp
 rw [dD]
 simp only [Oper.upon]
 refine lI.mono ?_
 rintro en w' ⟨u',rfl,h⟩
 obtain ⟨c',hw,hb,h2,h3,h4⟩:=hm.ZG (pr:=pr) id (.arr e0 k ys) (.arr u' k ys.length []) w' h.grown.os h.grown.tape h.grown.output h.drawn h.grown.size
  (fun b hb eO=>h.grown.block b hb (fun hh=>eO _ hB (.inl hh.symm)))
  (fun b hb=>hb.elim (fun hb=>(h.jK b hb).imp (fun hh=>⟨_,hB,.inl hh⟩) (fun hh=>hh)) (fun hh=>by cases hh)) kA j3
  (fun c' hw hle=>by
   simp only [bo]
   exact ⟨u',fD,rfl,hk,by rw [hw]; exact h.own,aD.mono hle _ _ (fun j hj=>by rw [az _ hp] at hj; cases hj) hl,hc,hp⟩)
 refine ⟨u',c',rfl,hw,?_,h2,h3,h4⟩
 simp only [ao]
 refine ⟨?_,_,_,_,_,hb,Nat.le_refl _,fun _=>rfl⟩
 rcases h.own.2 with ⟨rfl,_⟩ | ⟨g,cap,cur,rfl,_⟩ <;> rfl
theorem sS {k:Nat}:∀ {vs:List Value} (h:∀ v ∈ vs,v.cells.size=k) (i:Nat),(flat vs).take (i * k)=flat (vs.take i)
 | [],_,i=>by simp [flat]
 | v :: vs,h,0=>by simp [flat]
 | v :: vs,h,i+1=>by
  have hv:=h v (by simp)
  rw [gO,List.take_succ_cons,gO,List.take_append,Nat.succ_mul]
  have e1:(i * k+k) - v.cells.toList.length=i * k:=by simp [hv]
  rw [e1,sS (fun u hu=>h u (by simp [hu])) i,List.take_of_length_le (by simp [hv])]
theorem yK {k:Nat}:∀ {vs:List Value} (h:∀ v ∈ vs,v.cells.size=k) (i:Nat),(flat vs).drop (i * k)=flat (vs.drop i)
 | [],_,i=>by simp [flat]
 | v :: vs,h,0=>by simp [flat]
 | v :: vs,h,i+1=>by
  have hv:=h v (by simp)
  rw [gO,List.drop_succ_cons,List.drop_append,Nat.succ_mul]
  have e1:(i * k+k) - v.cells.toList.length=i * k:=by simp [hv]
  rw [e1,yK (fun u hu=>h u (by simp [hu])) i,List.drop_of_length_le (by simp [hv])]
  rfl
theorem vE {vs:List Value} (h:∀ v ∈ vs,∀ y ∈ v.cells,y.oneCell'=true):∀ y ∈ flat vs,y.oneCell'=true:=by
 intro y hy
 simp only [flat,List.mem_flatMap] at hy
 obtain ⟨v,hv,hy⟩:=hy
 exact h v hv y (by simpa using hy)
def VF (P:Program) (f e k:Nat):Prop:=∀ (u:Value) (n i:Nat) (xs:List Value) (v:Value) (vs:List Value) (w:World),w.ownsRow 0 e k u n xs→(∀ y ∈ xs,y.oneCell'=true)→i≤n→n≤549755813887→w.ownsRow 0 e k v 1 vs→(∀ y ∈ vs,y.oneCell'=true)→(∀ b,v.ownBlock=some b→u.ownBlock ≠ some b) →
 Calls P f #[u,.int .i64 i,v] w fun en w'=>∃ u',en=.returned u'∧mJ w w' e k u u' (n+1) (xs.take (i * k)++vs++xs.drop (i * k))
def E9 (P:Program) (f e k:Nat):Prop:=∀ (a:Option Addr) (n cap:Nat) (news:List Value) (w:World),news.length=n * k→(a=none→n=0)→(∀ ad,a=some ad→∀ j u,news[j]?=some u→w.cell? (ad.add j)=some u)→(∀ u ∈ news,u.oneCell'=true)→n≤549755813888 →
 Calls P f #[.slice a n cap] w fun en w'=>∃ u',en=.returned u'∧mJ w w' e k (.slice none 0 0) u' n news
def Pd {α:Type} (xs:List α) (i:Int) (z:α):Option (List α):=if 0≤i∧i≤xs.length∧xs.length≤549755813887 then some (xs.take i.toNat++[z]++xs.drop i.toNat) else .none
theorem K1 {f : Nat} {xs : Array Operand} {ts : Array TypeId} {d : Option Nat} {ty : TypeId} {pos : String} {af : Array Edge} {gd : Option (Nat × Bool)} (hf : ∃ fn, P.funcs[f]? = some fn ∧ (fn.name == "runtime.NumGoroutine") = false ∧ fn.body.isNone = false) (a : Act) (w : World) :
  (execOp a.eval ⟨d,.call ⟨.value (.func f),xs,ts⟩,ty,pos,af,gd⟩).run P w=.ok (.enter f (xs.map a.eval)) w:=by
 obtain ⟨fn,hf,vN,o7⟩:=hf
 have qH : ¬ fn.name = "runtime.NumGoroutine" := by simpa using vN
 have qD:¬ fn.body=.none:=fun hn=>by rw [hn] at o7; cases o7
 simp [execOp,resolve,Deferred.ofValue,Act.eval,invoke,callFunc,hf,qH,qD]
theorem MR {d id kk len:Nat} {t el:TypeId} {ty:TypeId} {pos:String} {af:Array Edge} {gd:Option (Nat × Bool)} {α:Type} {g:α→LV} {ys:List α} {ps:List (Nat × Operand)} (he:telem P t=some el) (nI:fP P el=true) (hk:tsize P el=kk) (SX:Nat.ble (len * kk) 16777216=true) (Wn:ps.map (·.1)=List.range len) (QH:(ps.map fun p=>ev p.2)=ys.map g) (iD:pG kk g) (bX:m id=.none) :
  cj P pr ⟨some d,.buildSlice t len ps.toArray,ty,pos,af,gd⟩ ev m (.arr id ys.length) (m.put id (.arr el kk (ys.map g))):=by
 subst hk
 have Oc:=Nat.le_of_ble_eq_true SX
 have hu:=gN he
 obtain ⟨i,zv,hi,FX,Bo,Bn,fE,Qr,uQ⟩:=tm nI
 obtain ⟨parts,HA⟩:∃ parts:Array (Nat × Operand),parts=ps.toArray:=⟨_,rfl⟩
 have QE:parts.toList=ps:=by rw [HA]
 have Lr:parts.toList.map (·.1)=List.range len:=by rw [QE]; exact Wn
 have Lo:tO (tsize P el) (parts.toList.map fun p=>ev p.2):=by rw [QE,QH]; exact iD.els ys
 obtain ⟨o,ho0⟩:∃ o:Oper,o=⟨some d,.buildSlice t len ps.toArray,ty,pos,af,gd⟩:=⟨_,rfl⟩
 have ho:o.op=.buildSlice t len parts:=by rw [ho0,HA]
 rw [← ho0]
 refine cj.value fun c a bG hm=>?_
 have pd:parts.toList.length=len:=by have:=congrArg List.length Lr; simpa using this
 let vs:=parts.toList.map fun p=>a.eval p.2
 have hl:aD c (parts.toList.map fun p=>ev p.2) vs:=aD.of (by simp [vs]) fun j x v hx hv=>by
  simp only [vs,List.getElem?_map,Option.map_eq_some_iff] at hx hv
  obtain ⟨p,hp,rfl⟩:=hx
  obtain ⟨p',FK,rfl⟩:=hv
  rw [hp] at FK; cases FK; exact bG _
 have hcell:∀ v ∈ vs,v.cells.size=i.size∧∀ y ∈ v.cells,y.oneCell'=true:=by
  intro v hv
  simp only [vs,List.mem_map] at hv
  obtain ⟨p,hp,rfl⟩:=hv
  obtain ⟨_,e1,e2⟩:=Lo (ev p.2) (List.mem_map.2 ⟨p,hp,rfl⟩)
  obtain ⟨e3,e4⟩:=(bG p.2).cellsOf e2
  refine ⟨?_,e4⟩
  have:=e3.length
  rw [e1,uQ] at this
  simpa using this.symm
 have LI:LV.bf (parts.toList.map fun p=>ev p.2)=true:=dg.2 fun x hx=>(Lo x hx).1
 have FL:(parts.map fun (p:Nat × Operand)=>(p.1,a.eval p.2)).toList=(vs.zipIdx 0).map fun x=>(x.2,x.1):=by
  apply List.ext_getElem?
  intro j
  have hj:=congrArg (fun l=>l[j]?) Lr
  simp only [List.getElem?_map,List.getElem?_range] at hj
  simp only [Array.toList_map,List.getElem?_map,List.getElem?_zipIdx,vs,Nat.zero_add]
  cases hp:parts.toList[j]? with
  | none=>simp
  | some p =>
   rw [hp] at hj
   have nz:j<len:=by
    rw [← pd]; exact (List.getElem?_eq_some_iff.1 hp).1
   rw [List.getElem?_range nz] at hj
   simp at hj
   simp [hj]
 obtain ⟨cells,B7,B8⟩:∃ cells,Instr.fill (fun i'=>some (i' * i.size,i.size)) ((Array.range (len * i.size)).map (zv.cells[· % zv.cells.size]!)) (parts.map fun (p:Nat × Operand)=>(p.1,a.eval p.2)).toList=some cells∧cells.toList=flat vs:=by
  have pg:vs.length=len:=by simp [vs,pd]
  obtain ⟨r,hr,hrs,WH⟩:=Great.fill_dense fE vs 0 ((Array.range (len * i.size)).map (zv.cells[· % zv.cells.size]!)) (fun v hv=>(hcell v hv).1) (by simp [pg])
  refine ⟨r,by rw [FL]; exact hr,?_⟩
  apply List.ext_getElem?
  intro j
  rw [flat_get fE (fun v hv=>(hcell v hv).1),Array.getElem?_toList,WH j]
  simp only [Nat.zero_mul,Nat.zero_le,true_and,Nat.zero_add,Nat.sub_zero,pg]
  by_cases hj:j<len * i.size
  ·rw [if_pos hj]
  ·rw [if_neg hj]
   have h1:¬ j / i.size<len:=fun hh=>hj ((Nat.div_lt_iff_lt_mul fE).1 hh)
   rw [List.getElem?_eq_none (by omega:vs.length≤j / i.size)]
   simp; omega
 have nH:cells=(flat vs).toArray:=by rw [← B8]
 subst nH
 have dD:(execOp a.eval o).run P c.w=.ok (.value (.slice (some ⟨c.w.heap.size,0,.none⟩) len len)) (c.w.alloc (.cells (flat vs).toArray el)):=by
  by_cases QB:len=0
  ·subst QB
   have O2:parts=#[]:=by apply Array.ext'; simpa using pd
   subst O2
   simp [execOp,ho,Instr.buildSlice,run_underlying hu,sizeOf,typeInfo,hi,Instr.fill,newRow,vs,flat,Array.range_zero']
  ·have LG:¬ len * i.size=0:=by
    intro h0
    rcases Nat.mul_eq_zero.1 h0 with h0 | h0 <;> omega
   have hb:=run_buildSlice (P:=P) c.w t el len (parts.map fun (p:Nat × Operand)=>(p.1,a.eval p.2)) (flat vs).toArray i zv hu hi FX (by rw [uQ] at Oc; omega) LG B7
   simp [execOp,ho,hb]
 have hlen:ys.length=len:=by rw [← pd,QE]; have:=congrArg List.length QH; simpa using this.symm
 have hB:=hm.fresh bX
 have pP:aD c (ys.map g) vs:=by rw [← QH,← QE]; exact hl
 have Hw:(flat vs).length=len * i.size:=by
  rw [eS (fun v hv=>(hcell v hv).1)]; congr 1; rw [← pd]; simp [vs]
 have bt:(c.w.alloc (.cells (flat vs).toArray el)).ownsRow 0 el i.size (.slice (some ⟨c.w.heap.size,0,.none⟩) len len) len (flat vs) :=
  ⟨Hw,.inr ⟨c.w.heap.size,len,(flat vs).toArray,rfl,Nat.zero_le _,heap_alloc_new c.w _,Nat.le_refl _,by
   have:len≤len * tsize P el:=Nat.le_mul_of_pos_right _ (by rw [uQ]; exact fE)
   simp only [maxLen]; omega,by simp [Hw],by rw [← Hw]; simp⟩⟩
 obtain ⟨c',hw,hb,h2,h3⟩:=hm.Bw (pr:=pr) id (.arr el (tsize P el) (ys.map g)) (.arr (.slice (some ⟨c.w.heap.size,0,.none⟩) len len) (tsize P el) len []) (c.w.alloc (.cells (flat vs).toArray el)) rfl rfl rfl (Nat.le_refl _) (by simp)
  (fun b hb _=>rG c.w _ b hb) (fun b hb=>by simp [BE.has,Value.ownBlock] at hb; exact .inr (by omega)) (by rw [hB]; trivial) (fun _ dA h0=>by rw [hB] at h0; cases h0)
  (fun c' hw hle hble=>by
   simp only [bo]
   refine ⟨.slice (some ⟨c.w.heap.size,0,.none⟩) len len,vs,by simp [hlen],by rw [uQ]; exact fE,?_,aD.mono hle _ _ (fun j _=>hble j) pP,fun u hu=>by rw [uQ]; exact hcell u hu,by rw [← QH,← QE]; exact LI⟩
   rw [hw,uQ]; simpa [hlen] using bt)
 refine ⟨_,c',by rw [hw]; exact dD,?_,h2,h3⟩
 simp only [ao]
 exact ⟨rfl,_,_,_,_,hb,by omega,fun _=>rfl⟩
theorem kW {f e0 k:Nat} (W:E9 P f e0 k) (hk:Nat.ble 1 k=true) {α:Type} {g:α→LV} {xs r:List α} (id:Nat) (h:app [] xs=some r):aF P f [.lst k (xs.map g)] (Mem.of []) (.arr id r.length) (Mem.of [(id,.arr e0 k (r.map g))]):=by
 unfold app at h
 split at h
 ·rename_i hb
  obtain rfl:xs=r:=by simpa using h
  intro c vs hm ha
  simp only [aD] at ha
  obtain ⟨v,fD,rfl,hv,rfl⟩:=ha
  simp only [ao] at hv
  obtain ⟨a,cap,rfl,hcap,hnil,hp,hx⟩:=hv
  have pR:∃ us,(flat us).length=xs.length * k∧(a=none→xs.length=0)∧(∀ ad,a=some ad→∀ j u,(flat us)[j]?=some u→c.w.cell? (ad.add j)=some u)∧aD c (xs.map g) us∧∀ u ∈ us,u.cells.size=k∧∀ y ∈ u.cells,y.oneCell'=true:=by
   rcases hx with hx | ⟨b,off,us,rfl,hbl,hX,hl,hc,hra⟩
   ·have Oe:xs=[]:=by simpa using hx
    subst Oe
    exact ⟨[],by simp [flat],fun _=>rfl,by simp [flat],by simp [aD],by simp⟩
   ·refine ⟨us,?_,(fun h=>by cases h),fun ad had j u hu=>?_,hl,hc⟩
    ·rw [eS (fun v hv=>(hc v hv).1)]; congr 1; have:=hl.length; simpa using this.symm
    ·cases had; rw [Addr.add_lit]; exact hra j u hu
  obtain ⟨us,h1,h2,h3,hl,hc⟩:=pR
  have hlen:(xs.map g).length=xs.length:=by simp
  have:=W a xs.length cap (flat us) c.w h1 h2 h3 (vE fun v hv=>(hc v hv).2) (by simpa using hb)
  rw [hlen]
  refine this.mono ?_
  rintro en w' ⟨u',rfl,hr⟩
  have hB:=hm.fresh (id:=id) rfl
  obtain ⟨c',hw,jP,h4,h5⟩:=hm.Bw (pr:=fun id=>Mem.of [] id ≠ .none) id (.arr e0 k (xs.map g)) (.arr u' k xs.length []) w' hr.grown.os hr.grown.tape hr.grown.output hr.drawn hr.grown.size
   (fun b hb _=>hr.grown.block b hb (by simp [Value.ownBlock])) (fun b hb=>.inr (hb.elim (fun hb=>(hr.jK b hb).elim (fun h=>by simp [Value.ownBlock] at h) (fun h=>h)) (fun hh=>by cases hh))) (by rw [hB]; trivial) (fun _ dA h0=>by rw [hB] at h0; cases h0)
   (fun c' hw hle hble=>by
    simp only [bo]
    exact ⟨u',us,by simp,Nat.le_of_ble_eq_true hk,by rw [hw]; simpa using hr.own,aD.mono hle _ _ (fun j _=>hble j) hl,hc,hp⟩)
  refine ⟨u',c',rfl,hw,h4,?_,h5.grow⟩
  simp only [ao]
  refine ⟨?_,_,_,_,_,jP,Nat.le_refl _,fun _=>rfl⟩
  rcases hr.own.2 with ⟨rfl,_⟩ | ⟨g,cap,cur,rfl,_⟩ <;> rfl
 ·cases h
def uC (k:IntKind) (u w:Int):Int:=u.fdiv (2 ^ min w.toNat k.bits)
theorem Up {d:Option Nat} {x y:Operand} {t t' ty:TypeId} {pos:String} {af:Array Edge} {gd:Option (Nat × Bool)} {k yk:IntKind} {u w:Int} (hx:ev x=.int k u) (hy:ev y=.int yk w) (hw:0≤w):bI P pr ⟨d,.binOp .shr t x y t',ty,pos,af,gd⟩ ev m (.int k (uC k u w)) m :=
 bI.value fun c a bG hm=>by
  have h1:=bG x (by simp [Op.operands])
  have h2:=bG y (by simp [Op.operands])
  rw [hx] at h1; rw [hy] at h2
  simp only [ao] at h1 h2
  refine ⟨.int k (uC k u w),c,?_,by simp [ao],hm,Step.refl pr c⟩
  have hn:¬ w<0:=by omega
  simp [execOp,h1,h2,binOp,Op.shift,hn,uC,eqGuard]
theorem M5 {c:List LV} (hc:LV.bf c=true):∀ {l:List LV},LV.bf l=true→LV.bf (l++c)=true:=fun h=>kD h hc
theorem KP {cs:Array Value} (h:∀ y ∈ cs.toList,(∃ k n,y=.int k n) ∨ ∃ b,y=.bool b) (n:Nat):Instr.sameBits (n+1) (.agg cs) (.agg cs)=true:=by
 simp only [Instr.sameBits,beq_self_eq_true,Bool.true_and,List.all_eq_true]
 intro p hp
 have hpe:p.1=p.2∧p.1 ∈ cs.toList:=by
  obtain ⟨i,hi,rfl⟩:=List.mem_iff_getElem.1 hp
  simp [List.getElem_zip]
 obtain ⟨a,b⟩:=p
 simp only at hpe ⊢
 obtain ⟨he,hm⟩:=hpe
 subst he
 rcases h _ hm with ⟨k,m,h⟩ | ⟨b,h⟩ <;> subst h <;> cases n <;> simp [Instr.sameBits]
mutual
theorem JJ:∀ (x:LV),x.pure=true→x.refs=[]
 | .fp,_ | .int _ _,_ | .bool _,_ | .nil,_ | .slen _,_ | .full _ _,_ | .str _,_ | .it _,_ | .nilf,_ | .nilp,_ | .lst _ _,_=>by simp [LV.refs]
 | .sptr cs,h=>by simp only [LV.pure] at h; simp only [LV.refs]; exact gD cs h
 | .arr _ _,h | .ptr _ _,h | .eptr _ _ _ _,h | .mp _,h=>by simp [LV.pure] at h
 | .agg cs,h=>by simp only [LV.pure] at h; simp only [LV.refs]; exact gD cs h
 | .tup cs,h=>by simp only [LV.pure] at h; simp only [LV.refs]; exact gD cs h
 | .fn _ cs,h=>by simp only [LV.pure] at h; simp only [LV.refs]; exact gD cs h
 | .bfn _ cs,h=>by simp only [LV.pure] at h; simp only [LV.refs]; exact gD cs h
theorem gD:∀ (xs:List LV),LV.bf xs=true→LV.b6 xs=[]
 | [],_=>by simp [LV.b6]
 | x :: xs,h=>by
  simp only [LV.bf,Bool.and_eq_true] at h
  simp only [LV.b6,JJ x h.1,gD xs h.2,List.append_nil]
end
theorem eK {xs:List LV} (h:LV.bf xs=true):LV.b6 xs=[]:=gD xs h
end
end Go.L
namespace Go.L
section
variable {P:Program} {N:Nat} {pr:Nat→Prop} {ops:Array Oper} {e:Env} {m m':Mem} {ev:Operand→LV} {o:Oper} {lv:LV} {l:List Oper} {KE:Env→Mem→Prop}
end
end Go.L
namespace Go.L
mutual
/-- aaB the value not Zm of memory Zt adj ae0 -/
def LV.nj:LV→Bool
 | .lst _ _=>false
 | .full _ _=>false
 | .sptr _=>false
 | .agg cs=>LV.iF cs
 | .tup cs=>LV.iF cs
 | .fn _ cs=>LV.iF cs
 | .bfn _ cs=>LV.iF cs
 | _=>true
def LV.iF:List LV→Bool
 | []=>true
 | x :: xs=>x.nj && LV.iF xs
end
theorem wj:∀ {xs:List LV},LV.iF xs=true ↔ ∀ x ∈ xs,x.nj=true
 | []=>by simp [LV.iF]
 | x :: xs=>by simp [LV.iF,wj (xs:=xs)]
mutual
theorem ao.kl {c c':Cx}:∀ (x:LV) (v:Value),x.nj=true→(∀ id,x.bg id=false→c'.B id=c.B id)→ao c x v→ao c' x v
 | .fp,v,_,_,h=>by simp only [ao]
 | .int _ _,v,_,_,h=>by simpa only [ao] using h
 | .bool _,v,_,_,h=>by simpa only [ao] using h
 | .nil,v,_,_,h=>by simpa only [ao] using h
 | .slen _,v,_,_,h=>by simpa only [ao] using h
 | .str _,v,_,_,h=>by simpa only [ao] using h
 | .it _,v,_,_,h=>by simpa only [ao] using h
 | .full _ _,v,hn,_,h=>by simp [LV.nj] at hn
 | .nilf,v,_,_,h=>by simpa only [ao] using h
 | .nilp,v,_,_,h=>by simpa only [ao] using h
 | .lst _ _,v,hn,_,h=>by simp [LV.nj] at hn
 | .sptr _,v,hn,_,h=>by simp [LV.nj] at hn
 | .arr id n,v,_,hB,h=>by simp only [ao] at h ⊢; rw [hB id (by simp [LV.bg])]; exact h
 | .ptr id o,v,_,hB,h=>by simp only [ao] at h ⊢; rw [hB id (by simp [LV.bg])]; exact h
 | .eptr id n i o,v,_,hB,h=>by simp only [ao] at h ⊢; rw [hB id (by simp [LV.bg])]; exact h
 | .mp id,v,_,hB,h=>by simp only [ao] at h ⊢; rw [hB id (by simp [LV.bg])]; exact h
 | .agg cs,v,hn,hB,h=>by
  simp only [ao] at h ⊢
  obtain ⟨vs,h1,h2⟩:=h
  exact ⟨vs,h1,aD.kl cs vs (by simpa [LV.nj] using hn) (fun id bX=>hB id (by simpa [LV.bg] using bX)) h2⟩
 | .tup cs,v,hn,hB,h=>by
  simp only [ao] at h ⊢
  obtain ⟨vs,h1,h2⟩:=h
  exact ⟨vs,h1,aD.kl cs vs (by simpa [LV.nj] using hn) (fun id bX=>hB id (by simpa [LV.bg] using bX)) h2⟩
 | .fn f cs,v,hn,hB,h=>by
  simp only [ao] at h ⊢
  obtain ⟨vs,h1,h2⟩:=h
  exact ⟨vs,h1,aD.kl cs vs (by simpa [LV.nj] using hn) (fun id bX=>hB id (by simpa [LV.bg] using bX)) h2⟩
 | .bfn f cs,v,hn,hB,h=>by
  simp only [ao] at h ⊢
  obtain ⟨vs,h1,h2⟩:=h
  exact ⟨vs,h1,aD.kl cs vs (by simpa [LV.nj] using hn) (fun id bX=>hB id (by simpa [LV.bg] using bX)) h2⟩
theorem aD.kl {c c':Cx}:∀ (xs:List LV) (vs:List Value),LV.iF xs=true→(∀ id,LV.cz id xs=false→c'.B id=c.B id)→aD c xs vs→aD c' xs vs
 | [],vs,_,_,h=>by simpa only [aD] using h
 | x :: xs,vs,hn,hB,h=>by
  simp only [aD] at h ⊢
  obtain ⟨v,fD,rfl,h1,h2⟩:=h
  simp only [LV.iF,Bool.and_eq_true] at hn
  exact ⟨v,fD,rfl,ao.kl x v hn.1 (fun id bX=>hB id (by simp [LV.cz,bX])) h1,aD.kl xs fD hn.2 (fun id bX=>hB id (by simp [LV.cz,bX])) h2⟩
end
def LE.plain (id:Nat):LE→Prop
 | .box cs=>LV.iF cs=true∧LV.cz id cs=true
 | .arr _ _ xs=>LV.iF xs=true
 | .map _ _ es=>LV.iF (es.map (·.1))=true∧LV.iF (es.map (·.2))=true
 | .nest _ _ _ _=>False
 | .dm _ _ _ _ _ _ _ _=>False
 | .dead=>True
theorem bo.kl {c c':Cx} {id:Nat} (hw:c'.w=c.w) (hB:∀ i,i ≠ id→c'.B i=c.B i) {x:LE} (hx:x.plain id) {y:Option BE} (h:bo c (some x) y):bo c' (some x) y:=by
 cases x with
 | box cs =>
  simp only [bo] at h ⊢
  obtain ⟨b,vs,e,h1,h2,h3,h4⟩:=h
  exact ⟨b,vs,e,h1,by rw [hw]; exact h2,aD.kl cs vs hx.1 (fun i hi=>hB i (fun he=>by subst he; rw [hx.2] at hi; cases hi)) h3,h4⟩
 | arr e k xs =>
  simp only [bo] at h ⊢
  obtain ⟨u,vs,h1,h0,h2,h3,h4,h5⟩:=h
  exact ⟨u,vs,h1,h0,by rw [hw]; exact h2,aD.kl xs vs hx (fun i hi=>by rw [az xs h5] at hi; cases hi) h3,h4,h5⟩
 | nest e k os xs=>exact hx.elim
 | dm _ _ _ _ _ _ _ _=>exact hx.elim
 | dead=>simpa only [bo] using h
 | map kt vt es =>
  simp only [bo] at h ⊢
  obtain ⟨b,kP,ck,h1,h2,h3,h4,h5,h6,h7⟩:=h
  exact ⟨b,kP,ck,h1,by rw [hw]; exact h2,aD.kl _ _ hx.1 (fun i hi=>by rw [az _ h5] at hi; cases hi) h3,aD.kl _ _ hx.2 (fun i hi=>by rw [az _ h6] at hi; cases hi) h4,h5,h6,h7⟩
inductive rm (id k:Nat) (xs:List LV):List LV→List LV→Prop
 | nil:rm id k xs [] []
 | row {n:Nat} {l l':List LV} (hn:n=xs.length) (h:rm id k xs l l'):rm id k xs (.arr id n :: l) (.lst k xs :: l')
 | keep {x:LV} {l l':List LV} (hx:x.bg id=true) (h:rm id k xs l l'):rm id k xs (x :: l) (x :: l')
theorem rm.rep {id k:Nat} {xs:List LV} {c c':Cx} (hV:∀ x v,x.bg id=true→ao c x v→ao c' x v) (hR:∀ v,ao c (.arr id xs.length) v→ao c' (.lst k xs) v):∀ {l l':List LV} (h:rm id k xs l l') {vs:List Value},aD c l vs→aD c' l' vs
 | _,_,.nil,vs,hr=>by simpa only [aD] using hr
 | _,_,.row hn h,vs,hr=>by
  subst hn
  simp only [aD] at hr ⊢
  obtain ⟨v,fD,rfl,h1,h2⟩:=hr
  exact ⟨v,fD,rfl,hR v h1,h.rep hV hR h2⟩
 | _,_,.keep hx h,vs,hr=>by
  simp only [aD] at hr ⊢
  obtain ⟨v,fD,rfl,h1,h2⟩:=hr
  exact ⟨v,fD,rfl,hV _ v hx h1,h.rep hV hR h2⟩
def vf (id:Nat) (ml:List (Nat × LE)):Prop:=∀ i le,Mem.of ml i=some le→le.plain id
theorem Vp {id:Nat}:vf id []:=fun i le h=>by simp [Mem.of] at h
theorem plC {id i:Nat} {le:LE} {ml:List (Nat × LE)} (h:le.plain id) (hr:vf id ml):vf id ((i,le) :: ml):=fun j po hj=>by
 simp only [Mem.of] at hj
 split at hj
 ·cases hj; exact h
 ·exact hr j po hj
theorem plA {α:Type} {f:α→LV} {id e k:Nat} {xs:List α} (h:∀ z,(f z).nj=true):(LE.arr e k (xs.map f)).plain id:=by
 show LV.iF (xs.map f)=true
 rw [wj]; intro x hx
 obtain ⟨z,_,rfl⟩:=List.mem_map.1 hx
 exact h z
theorem aF.MA {P:Program} {f:Nat} {args ew:List LV} {ml eD:List (Nat × LE)} {r:LV} (id e k:Nat) {xs:List LV} (h:aF P f ew (Mem.of ml) r (Mem.of eD)) (ha:rm id k xs args ew)
  (h1:Mem.of ml id=.none) (h2:Mem.of eD id=.none) (na:tH id ml=true) (hr:r.nj=true) (hrn:r.bg id=true) (yN:vf id eD) :
  aF P f args (Mem.of ((id,.arr e k xs) :: ml)) r (Mem.of ((id,.arr e k xs) :: eD)):=by
 intro c vs hm hargs
 have bX:Mem.of ((id,LE.arr e k xs) :: ml) id=some (.arr e k xs):=by simp [Mem.of]
 obtain ⟨u,us,hB,hk,bt,hl,hc,hp⟩:=mL hm bX
 have j3:∀ i le,i ≠ id→Mem.of ((id,LE.arr e k xs) :: ml) i=some le→le.jh id=true:=fun i cs hi Bi=>by
  simp only [Mem.of,hi,if_false] at Bi
  exact o6 na i cs hi Bi
 obtain ⟨c1,hw,hO,mr,hV,pc,hX,ON⟩:=hm.del id j3
 have Sw:(Mem.of ((id,LE.arr e k xs) :: ml)).del id=Mem.of ml:=by
  funext i
  unfold Mem.del
  by_cases hi:i=id
  ·subst hi; simp [h1]
  ·simp [hi,Mem.of]
 rw [Sw] at mr
 have Lv:c.Le c1:=⟨by rw [hw]; exact Nat.le_refl _,fun b _ hx=>⟨by rw [hw],fun pR=>hx (pR.imp (fun h=>by rw [hO] at h; exact h) (pc b))⟩⟩
 have hR:∀ v,ao c (.arr id xs.length) v→ao c1 (.lst k xs) v:=by
  intro v hv
  obtain ⟨fD,I0,J8,pb,pP,Bd,FK⟩:=gi hm hv bX rfl
  simp only [ao]
  have SA:=aD.mono Lv xs fD (fun j hj=>by rw [az xs FK] at hj; cases hj) pP
  rcases pb.2 with ⟨rfl,h0⟩ | ⟨g,cap,cur,rfl,_,hg,mG,_⟩
  ·exact ⟨.none,0,by rw [h0],by omega,fun _=>rfl,FK,.inl (List.eq_nil_of_length_eq_zero h0)⟩
  ·refine ⟨some ⟨g,0,.none⟩,cap,rfl,mG,by simp,FK,.inr ⟨g,0,fD,rfl,by rw [hw]; exact (Array.getElem?_eq_some_iff.1 hg).1,hX g _ I0 (.inl rfl),SA,Bd,?_⟩⟩
   rw [hw]; exact gC pb rfl
 have lI:=h c1 vs mr (ha.rep hV hR hargs)
 rw [hw] at lI
 refine lI.mono ?_
 rintro en w' ⟨v,c2,rfl,rfl,mE,hv2,hg⟩
 have B0:c2.B id=.none:=mE.fresh h2
 -- the block of the row
 have hblk:∀ b,u.ownBlock=some b→b<c.w.heap.size∧c2.w.heap[b]?=c.w.heap[b]?∧¬ c2.own b∧¬ c2.O b:=by
  intro b hb
  have hlt:=(hm.gY id).lt hB (show (BE.arr u k xs.length []).has b from .inl hb)
  have Wy:¬ c1.X b:=hX b _ hB (.inl hb)
  have uO:¬ c1.own b:=fun ho=>Wy (.inr ho)
  refine ⟨hlt,?_,?_,?_⟩
  ·have:=hg.keep b (by rw [hw]; exact hlt) uO; rw [hw] at this; exact this
  ·intro ho
   rcases hg.own b ho with h' | h'
   ·exact uO h'
   ·rw [hw] at h'; omega
  ·rw [hg.O]; exact fun ho=>Wy (.inl ho)
 let c3:Cx:=⟨c2.w,fun i=>if i=id then c.B id else c2.B i,c2.O⟩
 have An:∀ i,i ≠ id→c3.B i=c2.B i:=fun i hi=>by simp [c3,hi]
 have vF:c3.B id=c.B id:=by simp [c3]
 have vP:∀ b,c3.own b→c2.own b ∨ u.ownBlock=some b:=by
  rintro b ⟨i,be,g1,g2⟩
  by_cases hi:i=id
  ·subst hi; rw [vF,hB] at g1; cases g1; exact .inr (g2.elim (fun h=>h) (fun h=>by cases h))
  ·rw [An i hi] at g1; exact .inl ⟨i,be,g1,g2⟩
 have J3:c3.O=c.O:=by show c2.O=c.O; rw [hg.O,hO]
 have Lw:c.Le c3:=by
  refine ⟨by have:=hg.size; rw [hw] at this; exact this,fun b hb hx=>⟨?_,?_⟩⟩
  ·have:=hg.keep b (by rw [hw]; exact hb) (fun ho=>hx (.inr (pc b ho))); rw [hw] at this; exact this
  ·rintro (ho | ho)
   ·rw [J3] at ho; exact hx (.inl ho)
   ·rcases vP b ho with h' | h'
    ·rcases hg.own b h' with BZ | BZ
     ·exact hx (.inr (pc b BZ))
     ·rw [hw] at BZ; omega
    ·exact hx (.inr ⟨id,_,hB,.inl h'⟩)
 refine ⟨v,c3,rfl,rfl,⟨fun i=>?_,?_,?_,?_⟩,?_,?_⟩
 ·by_cases hi:i=id
  ·subst hi
   rw [vF,hB]
   simp only [Mem.of,if_true,bo]
   exact ⟨u,us,rfl,hk,c9 bt (fun b hb=>(hblk b hb).2.1),aD.mono Lw xs us (fun j hj=>by rw [az xs hp] at hj; cases hj) hl,hc,hp⟩
  ·rw [An i hi]
   simp only [Mem.of,hi,if_false]
   have he:=mE.gY i
   cases Bi:Mem.of eD i with
   | none=>rw [Bi] at he; simpa only [bo] using he
   | some le=>rw [Bi] at he; exact bo.kl (c:=c2) (c':=c3) rfl An (yN i le Bi) he
 ·intro i j be ef b g1 g2 g3 g4
  by_cases hi:i=id
  ·by_cases hj:j=id
   ·rw [hi,hj]
   ·subst hi
    rw [vF,hB] at g1; cases g1
    rw [An j hj] at g2
    exact absurd ⟨j,ef,g2,g4⟩ (hblk b (g3.elim (fun h=>h) (fun h=>by cases h))).2.2.1
  ·by_cases hj:j=id
   ·subst hj
    rw [vF,hB] at g2; cases g2
    rw [An i hi] at g1
    exact absurd ⟨i,be,g1,g3⟩ (hblk b (g4.elim (fun h=>h) (fun h=>by cases h))).2.2.1
   ·rw [An i hi] at g1; rw [An j hj] at g2
    exact mE.inj i j be ef b g1 g2 g3 g4
 ·intro b ho
  rcases vP b ho with h' | h'
  ·exact mE.kB b h'
  ·exact (hblk b h').2.2.2
 ·intro b ho; exact mE.xR b ho
 ·exact ao.kl r v hr (fun i hi=>An i (fun he=>by subst he; rw [hrn] at hi; cases hi)) hv2
 ·refine ⟨J3,?_,?_,?_,?_,?_,?_,?_,?_⟩
  ·have:=hg.os; rw [hw] at this; exact this
  ·have:=hg.tape; rw [hw] at this; exact this
  ·have:=hg.output; rw [hw] at this; exact this
  ·have:=hg.drawn; rw [hw] at this; exact this
  ·have:=hg.size; rw [hw] at this; exact this
  ·intro b hb ho
   have:=hg.keep b (by rw [hw]; exact hb) (fun Bj=>ho (pc b Bj)); rw [hw] at this; exact this
  ·intro b ho
   rcases vP b ho with h' | h'
   ·rcases hg.own b h' with BZ | BZ
    ·exact .inl (pc b BZ)
    ·rw [hw] at BZ; exact .inr BZ
   ·exact .inl ⟨id,_,hB,.inl h'⟩
  ·intro i be LF V3
   by_cases hi:i=id
   ·subst hi; exact ⟨be,by rw [vF]; exact V3,.refl be⟩
   ·rw [An i hi]
    have OQ:c1.B i=some be:=by rw [ON i hi]; exact V3
    exact hg.Gg i be (by simpa [Mem.of,hi] using LF) OQ
end Go.L
namespace Go.L
section
variable {P:Program} {N:Nat} {pr:Nat→Prop} {ops:Array Oper} {e:Env} {m m':Mem} {ev:Operand→LV} {o:Oper} {lv:LV} {l:List Oper} {KE:Env→Mem→Prop}
theorem ed.at {c:Cx} {os:List (Nat × Nat × Nat)}:∀ {xs:List LV} {vs:List Value} {bs:List Nat},ed c os xs vs bs→∀ {i:Nat} {x:LV},xs[i]?=some x →
  ∃ v bp b bq,vs[i]?=some v∧bs=bp++(b++bq)∧Qe c os x v b∧∀ {c':Cx} {x':LV} {v':Value} {b':List Nat},c.Le c'→(∀ q ∈ bp++bq,c'.w.heap[q]?=c.w.heap[q]?)→Qe c' os x' v' b'→ed c' os (xs.set i x') (vs.set i v') (bp++(b'++bq))
 | [],_,_,h,i,x,hx=>by simp at hx
 | y :: ys,vs,bs,h,i,x,hx=>by
  simp only [ed] at h
  obtain ⟨v,fD,b1,b2,rfl,rfl,h1,h2⟩:=h
  cases i with
  | zero =>
   simp at hx; subst hx
   refine ⟨v,[],b1,b2,by simp,by simp,h1,fun {c' x' v' b'} hle hh he=>?_⟩
   simp only [List.set_cons_zero,ed,List.nil_append]
   exact ⟨v',fD,b',b2,rfl,rfl,he,h2.mono hle (fun q hq=>hh q (by simp [hq]))⟩
  | succ i =>
   simp at hx
   obtain ⟨u,bp,b,bq,g1,rfl,g3,g4⟩:=h2.at hx
   refine ⟨u,b1++bp,b,bq,by simpa using g1,by simp,g3,fun {c' x' v' b'} hle hh he=>?_⟩
   simp only [List.set_cons_succ,ed]
   refine ⟨v,fD.set i v',b1,bp++(b'++bq),rfl,by simp,?_,g4 hle (fun q hq=>hh q (by simp at hq ⊢; rcases hq with h | h <;> simp [h])) he⟩
   obtain ⟨cs,ws,rfl,hv,hc⟩:=h1
   exact ⟨cs,ws,rfl,hv,hc.mono hle (fun q hq=>hh q (by simp [hq]))⟩
theorem BR {k i:Nat} {vs:List Value} (h:∀ v ∈ vs,v.cells.size=k) (hi:i<vs.length) {v':Value} (hv:v'.cells.size=k):flat (vs.set i v')=(flat vs).take (i * k)++v'.cells.toList++(flat vs).drop (i * k+k):=by
 have e1:vs.set i v'=vs.take i++v' :: vs.drop (i+1):=by rw [List.set_eq_take_append_cons_drop,if_pos hi]
 obtain ⟨f1,f2⟩:=js h (i:=i) (u:=vs[i]) (by simp [hi])
 have hu:vs[i].cells.toList.length=k:=by simpa using h _ (List.getElem_mem hi)
 rw [e1,fI,gO,f1,← f2]
 rw [List.take_left' rfl]
 have:(flat (vs.take i)).length+k=(flat (vs.take i)).length+vs[i].cells.toList.length:=by omega
 have hd:∀ (A B C:List Value),(A++(B++C)).drop (A.length+B.length)=C:=fun A B C=>by
  rw [← List.append_assoc,← List.length_append,List.drop_left' rfl]
 rw [this,hd]
 simp
theorem cA.wi {c:Cx} (hm:cA c m) {id e0 k:Nat} {os:List (Nat × Nat × Nat)} {xs:List LV} (bX:m id=some (.nest e0 k os xs)) {i:Nat} {x:LV} (hx:xs[i]?=some x) :
  ∃ g cap cur v bs ins,c.B id=some (.arr (.slice (some ⟨g,0,.none⟩) xs.length cap) k xs.length ins)∧c.w.heap[g]?=some (.cells cur e0 (0,0))∧cur.size=cap * k∧xs.length≤cap∧0<k ∧
   v.cells.size=k∧(∀ y ∈ v.cells,y.oneCell'=true)∧(cur.toList.drop (i * k)).take k=v.cells.toList∧Qe c os x v bs∧bs.Nodup∧g ∉ bs∧(∀ b ∈ bs,b ∈ ins) ∧
   ∀ (w':World) (x':LV) (v':Value) (Hi:List Nat),w'.os=c.w.os→w'.tape=c.w.tape→w'.output=c.w.output→c.w.drawn≤w'.drawn→c.w.heap.size≤w'.heap.size →
    (∀ b,b<c.w.heap.size→b ≠ g→b ∉ bs→w'.heap[b]?=c.w.heap[b]?) →
    w'.heap[g]?=some (.cells (cur.toList.take (i * k)++v'.cells.toList++cur.toList.drop (i * k+k)).toArray e0 (0,0))→v'.cells.size=k→(∀ y ∈ v'.cells,y.oneCell'=true) →
    (∀ b ∈ Hi,b ∈ bs ∨ c.w.heap.size≤b)→Hi.Nodup→(∀ c':Cx,c'.w=w'→c.Le c'→Qe c' os x' v' Hi) →
    ∃ c':Cx,c'.w=w'∧cA c' (m.put id (.nest e0 k os (xs.set i x')))∧Step pr c c':=by
 have he:=hm.gY id
 rw [bX] at he
 simp only [bo] at he
 obtain ⟨u,vs,ins,hB,hk,bt,hn,hc,hnd,uO⟩:=he
 have hi:i<xs.length:=(List.getElem?_eq_some_iff.1 hx).1
 obtain ⟨v,bp,bs,bq,hv,rfl,uu,ju⟩:=hn.at hx
 have S8:=List.mem_of_getElem? hv
 have pg:=hn.length
 rcases bt.2 with ⟨_,h0⟩ | ⟨g,cap,cur,rfl,Aw,hg,mG,hcm,hcs,uP⟩
 ·omega
 ·have tJ : g ∉ bp ++ (bs ++ bq) := uO g rfl
  have V9:xs.length * k≤cap * k:=Nat.mul_le_mul_right k mG
  have Ls:i * k+k≤xs.length * k:=by
   have:=Nat.mul_le_mul_right k (show i+1≤xs.length by omega)
   rw [Nat.add_mul,Nat.one_mul] at this; exact this
  have hcl:cur.toList.length=cur.size:=by simp
  have Hw:(flat vs).length=xs.length * k:=bt.1
  have Ln:(cur.toList.drop (i * k)).take k=v.cells.toList:=by
   obtain ⟨f1,f2⟩:=js (fun v hv=>(hc v hv).1) hv
   have HC:v.cells.toList.length=k:=by simpa using (hc v S8).1
   have:(cur.toList.drop (i * k)).take k=((flat vs).drop (i * k)).take k:=by
    rw [← uP,List.drop_take,List.take_take]
    congr 1
    omega
   rw [this,f1,← f2,List.drop_left' rfl,← HC,List.take_left' rfl]
  have qI:=List.nodup_append.1 hnd
  have OZ:=List.nodup_append.1 qI.2.1
  refine ⟨g,cap,cur,v,bs,_,hB,hg,hcs,mG,hk,(hc v S8).1,(hc v S8).2,Ln,uu,OZ.1,fun h=>tJ (by simp [h]),fun b hb=>by simp [hb],?_⟩
  intro w' x' v' Hi a1 a2 a3 a4 a5 iX ye vY SZ OU aa0 Sx
  have hlt:∀ b ∈ bp++(bs++bq),b<c.w.heap.size:=hn.lt
  obtain ⟨c',hw,jP,h2,h3⟩:=hm.Bw (pr:=pr) id (.nest e0 k os (xs.set i x')) (.arr (.slice (some ⟨g,0,.none⟩) xs.length cap) k xs.length (bp++(Hi++bq))) w' a1 a2 a3 a4 a5
   (fun b hb eO=>by
    have:=eO _ hB
    refine iX b hb (fun J5=>this (.inl (by rw [J5]; rfl))) (fun vH=>this (.inr (by simp [vH]))))
   (fun b hb=>by
    rcases hb with hb | hb
    ·exact .inl ⟨_,hB,.inl hb⟩
    ·simp only [List.mem_append] at hb
     rcases hb with hb | hb | hb
     ·exact .inl ⟨_,hB,.inr (by simp [hb])⟩
     ·rcases OU b hb with h | h
      ·exact .inl ⟨_,hB,.inr (by simp [h])⟩
      ·exact .inr h
     ·exact .inl ⟨_,hB,.inr (by simp [hb])⟩)
   (by rw [hB]; exact ⟨_,_,_,rfl,Nat.le_refl _,fun _=>rfl⟩) (fun _ dA h0=>by rw [hB] at h0; cases h0; exact ⟨_,_,_,rfl,Nat.le_refl _,fun _=>rfl⟩)
   (fun c' hw hle hble=>by
    simp only [bo,List.length_set]
    refine ⟨.slice (some ⟨g,0,.none⟩) xs.length cap,vs.set i v',bp++(Hi++bq),rfl,hk,⟨?_,.inr ⟨g,cap,_,rfl,Aw,by rw [hw]; exact ye,mG,hcm,?_,?_⟩⟩,ju hle (fun q hq=>?_) (Sx c' hw hle),?_,?_,?_⟩
    ·rw [eS (k:=k) (fun y hy=>?_)]
     ·simp [pg]
     ·rcases List.mem_or_eq_of_mem_set hy with h | h
      ·exact (hc y h).1
      ·rw [h]; exact vY
    ·have:v'.cells.toList.length=k:=by simpa using vY
     simp only [List.size_toArray,List.length_append,List.length_take,List.length_drop,hcl,this,hcs]
     omega
    ·rw [BR (fun y hy=>(hc y hy).1) (by omega) vY,← uP]
     have e2:v'.cells.toList.length=k:=by simpa using vY
     apply List.ext_getElem?
     intro j
     simp only [List.toList_toArray,List.getElem?_take,List.getElem?_append,List.length_append,List.length_take,List.getElem?_drop,e2,hcl]
     repeat' split
     all_goals first | rfl | omega | (congr 1; omega) | skip
    ·refine (hw ▸ iX q (hlt q (by simp at hq ⊢; rcases hq with h | h <;> simp [h])) (fun WB=>tJ (by rw [← WB]; simp at hq ⊢; rcases hq with h | h <;> simp [h])) (fun hqb=>?_))
     rcases List.mem_append.1 hq with h | h
     ·exact qI.2.2 q h q (by simp [hqb]) rfl
     ·exact OZ.2.2 q hqb q h rfl
    ·intro y hy
     rcases List.mem_or_eq_of_mem_set hy with h | h
     ·exact hc y h
     ·rw [h]; exact ⟨vY,SZ⟩
    ·refine List.nodup_append.2 ⟨qI.1,List.nodup_append.2 ⟨aa0,OZ.2.1,fun a ha b hb qo=>?_⟩,fun a ha b hb qo=>?_⟩
     ·subst qo
      rcases OU a ha with h | h
      ·exact OZ.2.2 a h a hb rfl
      ·have:=hlt a (by simp [hb]); omega
     ·subst qo
      rcases List.mem_append.1 hb with h | h
      ·rcases OU a h with h' | h'
       ·exact qI.2.2 a ha a (by simp [h']) rfl
       ·have:=hlt a (by simp [ha]); omega
      ·exact qI.2.2 a ha a (by simp [h]) rfl
    ·intro b hb
     have J5:g=b:=by simpa [Value.ownBlock] using hb
     subst J5
     intro Bd
     simp only [List.mem_append] at Bd
     rcases Bd with h | h | h
     ·exact tJ (by simp [h])
     ·rcases OU g h with h' | h'
      ·exact tJ (by simp [h'])
      ·have:=(Array.getElem?_eq_some_iff.1 hg).1; omega
     ·exact tJ (by simp [h]))
  exact ⟨c',hw,h2,h3⟩
theorem MJ {c:Cx} {m:Mem} (hm:cA c m) {id n e0 k:Nat} {os:List (Nat × Nat × Nat)} {xs:List LV} {v:Value} (hv:ao c (.arr id n) v) (bX:m id=some (.nest e0 k os xs)) (hn:n=xs.length) :
  ∃ vs ins,c.B id=some (.arr v k xs.length ins)∧0<k∧c.w.ownsRow 0 e0 k v xs.length (flat vs)∧ed c os xs vs ins∧(∀ v ∈ vs,v.cells.size=k∧∀ y ∈ v.cells,y.oneCell'=true):=by
 have he:=hm.gY id
 rw [bX] at he
 simp only [bo] at he
 obtain ⟨u,vs,ins,hB,hk,bt,hl,hc,_⟩:=he
 simp only [ao] at hv
 obtain ⟨_,u',k',len,nf,kY,Ca,hv⟩:=hv
 rw [hB] at kY
 cases kY
 have:=hv hn
 subst this
 exact ⟨vs,ins,hB,hk,bt,hl,hc⟩
theorem Ul {d:Option Nat} {x y:Operand} {t ty:TypeId} {pos:String} {af:Array Edge} {g:Option (Nat × Bool)} {el kk id n:Nat} {os:List (Nat × Nat × Nat)} {xs:List LV} {k:IntKind} {u:Int} (he:telem P t=some el) (hk:tok P el=true) (hs:tsize P el=kk) (hx:ev x=.arr id n) (hm:m id=some (.nest el kk os xs)) (hn:n=xs.length) (hy:ev y=.int k u) (h0:0≤u) (h1:u.toNat<xs.length) :
  bI P pr ⟨d,.indexAddr t x y,ty,pos,af,g⟩ ev m (.eptr id n u.toNat 0) m:=by
 have hu:=gN he
 refine bI.value fun c a bG hM=>?_
 have L4:=bG y (by simp [Op.operands])
 rw [hy] at L4
 simp only [ao] at L4
 have hv:=bG x (by simp [Op.operands])
 rw [hx] at hv
 obtain ⟨vs,ins,hB,Lu,bt,hl,hc⟩:=MJ hM hv hm hn
 subst hn
 rcases bt.2 with ⟨_,h00⟩ | ⟨g,cap,cur,Ta,_⟩
 ·omega
 ·refine ⟨.pointer (some ⟨g,u.toNat * kk,.none⟩),c,?_,?_,hM,Step.refl pr c⟩
  ·unfold tok at hk
   cases Ax:P.info? el with
   | none=>simp [Ax] at hk
   | some ie =>
    have Hz:kk=ie.size:=by rw [← hs]; simp [tsize,Ax]
    have Ly:u<(xs.length:Int):=by omega
    simp [execOp,Ta,L4,Instr.indexAt,asIntOf,run_underlying hu,h0,Ly,sizeOf,typeInfo,Ax,Addr.add_mid,Hz]
  ·simp only [ao]
   exact ⟨rfl,_,kk,xs.length,_,hB,by omega,fun _=>⟨g,by rw [Ta]; rfl,by simp⟩⟩
theorem ed.PM {c:Cx} {os:List (Nat × Nat × Nat)} {x:LV} {v:Value} (h:Qe c os x v []):∀ n,ed c os (List.replicate n x) (List.replicate n v) []
 | 0=>by simp [ed]
 | n+1=>by
  simp only [List.replicate_succ,ed]
  exact ⟨v,List.replicate n v,[],[],rfl,rfl,h,ed.PM h n⟩
end
theorem va.BV {c c':Cx} (hle:c.Le c') (hw:c'.w=c.w) {e k:Nat} {x:LV} {v:Value} {bs:List Nat} (hX:∀ b ∈ bs,¬ c'.X b) (h:va c e k x v bs):ao c' x v:=by
 rcases h with ⟨rfl,_⟩ | ⟨ys,us,rfl,hk,bt,hl,hc,hp,rfl⟩
 ·simp only [ao]
 ·simp only [ao]
  have pP:=aD.mono hle ys us (fun j hj=>by rw [az ys hp] at hj; cases hj) hl
  rcases bt.2 with ⟨rfl,h0⟩ | ⟨g,cap,cur,rfl,_,hg,mG,_⟩
  ·exact ⟨.none,0,by rw [h0],by omega,fun _=>rfl,hp,.inl (List.eq_nil_of_length_eq_zero h0)⟩
  ·refine ⟨some ⟨g,0,.none⟩,cap,rfl,mG,by simp,hp,.inr ⟨g,0,us,rfl,by rw [hw]; exact (Array.getElem?_eq_some_iff.1 hg).1,hX g (by simp [Value.ownBlock]),pP,hc,?_⟩⟩
   rw [hw]; exact gC bt rfl
theorem je.BV {c c':Cx} (hle:c.Le c') (hw:c'.w=c.w) {os:List (Nat × Nat × Nat)}:∀ {o:Nat} {xs:List LV} {ws:List Value} {bs:List Nat},(∀ b ∈ bs,¬ c'.X b)→je c os o xs ws bs→aD c' xs ws
 | _,[],_,_,_,h=>by simp only [je] at h; simp only [aD]; exact h.1
 | o,x :: xs,ws,bs,hX,h=>by
  simp only [je] at h
  obtain ⟨w,Ko,b1,b2,rfl,rfl,h1,h2⟩:=h
  simp only [aD]
  refine ⟨w,Ko,rfl,?_,je.BV hle hw (fun b hb=>hX b (by simp [hb])) h2⟩
  unfold fS at h1
  split at h1
  ·exact va.BV hle hw (fun b hb=>hX b (by simp [hb])) h1
  ·exact ao.mono hle x w (fun id bX=>by rw [il x h1.2.1] at bX; cases bX) h1.1
theorem ed.BV {c c':Cx} (hle:c.Le c') (hw:c'.w=c.w) {os:List (Nat × Nat × Nat)}:∀ {xs:List LV} {vs:List Value} {bs:List Nat},(∀ b ∈ bs,¬ c'.X b)→ed c os xs vs bs→aD c' xs vs
 | [],_,_,_,h=>by simp only [ed] at h; simp only [aD]; exact h.1
 | x :: xs,vs,bs,hX,h=>by
  simp only [ed] at h
  obtain ⟨v,fD,b1,b2,rfl,rfl,⟨cs,ws,rfl,rfl,h1⟩,h2⟩:=h
  simp only [aD]
  refine ⟨_,fD,rfl,?_,ed.BV hle hw (fun b hb=>hX b (by simp [hb])) h2⟩
  simp only [ao]
  exact ⟨ws,rfl,h1.BV hle hw (fun b hb=>hX b (by simp [hb]))⟩
theorem mX {P:Program} {pr:Nat→Prop} {ro:List Nat} {ops:Array Oper} {l:List Oper} {eh:List Nat} {KE:Env→Mem→Prop} {e:Env} {m m':Mem} {lv:LV} {i:Nat} {op:Op} {ty:TypeId} {pos:String} {af:Array Edge} (h:bI P pr ⟨some i,op,ty,pos,af,.none⟩ (dZ e) m lv m') (hr:cE P pr ro ops (List.zip l eh) KE (e.put i lv) m'):cE P pr ro ops (List.zip (⟨some i,op,ty,pos,af,.none⟩ :: l) (3 :: eh)) KE e m:=⟨lv,m',h,hr⟩
theorem mX_ {P:Program} {pr:Nat→Prop} {ro:List Nat} {ops:Array Oper} {l:List Oper} {eh:List Nat} {KE:Env→Mem→Prop} {e:Env} {m m':Mem} {lv:LV} {op:Op} {ty:TypeId} {pos:String} {af:Array Edge} (h:bI P pr ⟨.none,op,ty,pos,af,.none⟩ (dZ e) m lv m') (hr:cE P pr ro ops (List.zip l eh) KE e m'):cE P pr ro ops (List.zip (⟨.none,op,ty,pos,af,.none⟩ :: l) (3 :: eh)) KE e m:=⟨lv,m',h,hr⟩
end Go.L
namespace Go.L
section
variable {P:Program} {N:Nat} {pr:Nat→Prop} {ops:Array Oper} {ev:Operand→LV} {o:Oper} {lv:LV} {m m':Mem}
theorem cA.P6 {c:Cx} (h:cA c m) (id id2:Nat) (eO:id ≠ id2) (le le2:LE) (be Hh:BE) (w':World)
  (Ka:w'.os=c.w.os) (rI:w'.tape=c.w.tape) (pa:w'.output=c.w.output) (B5:c.w.drawn≤w'.drawn) (iM:c.w.heap.size≤w'.heap.size)
  (iX:∀ b,b<c.w.heap.size→(∀ dA,c.B id=some dA→¬ dA.has b)→(∀ dA,c.B id2=some dA→¬ dA.has b)→w'.heap[b]?=c.w.heap[b]?)
  (hblk:∀ b,be.has b ∨ Hh.has b→(∃ dA,c.B id=some dA∧dA.has b) ∨ (∃ dA,c.B id2=some dA∧dA.has b) ∨ c.w.heap.size≤b) (I4:∀ b,be.has b→Hh.has b→False)
  (hle:jy (c.B id) (some be)) (abD:jy (c.B id2) (some Hh)) (kA:pr id→∀ dA,c.B id=some dA→dA.jX be) (vQ:pr id2→∀ dA,c.B id2=some dA→dA.jX Hh)
  (iQ:∀ c':Cx,c'.w=w'→c.Le c'→(∀ i,jy (c.B i) (c'.B i))→c'.B id2=some Hh→bo c' (some le) (some be)) (B6:∀ c':Cx,c'.w=w'→c.Le c'→(∀ i,jy (c.B i) (c'.B i))→bo c' (some le2) (some Hh)) :
  ∃ c':Cx,c'.w=w'∧c'.B id=some be∧c'.B id2=some Hh∧cA c' ((m.put id le).put id2 le2)∧Step pr c c':=by
 let c':Cx:=⟨w',fun i=>if i=id2 then some Hh else if i=id then some be else c.B i,c.O⟩
 have e1:c'.B id=some be:=by simp [c',eO]
 have e2:c'.B id2=some Hh:=by simp [c']
 have e3:∀ i,i ≠ id→i ≠ id2→c'.B i=c.B i:=fun i h1 h2=>by simp [c',h1,h2]
 have key:∀ i b1 b,c'.B i=some b1→b1.has b→(∃ j dA,c.B j=some dA∧dA.has b∧(j=i ∨ (i=id ∨ i=id2)∧(j=id ∨ j=id2))) ∨ c.w.heap.size≤b:=by
  intro i b1 b g1 g2
  by_cases hi:i=id
  ·subst hi; rw [e1] at g1; cases g1
   rcases hblk b (.inl g2) with ⟨dA,q1,q2⟩ | ⟨dA,q1,q2⟩ | q
   ·exact .inl ⟨i,dA,q1,q2,.inl rfl⟩
   ·exact .inl ⟨id2,dA,q1,q2,.inr ⟨.inl rfl,.inr rfl⟩⟩
   ·exact .inr q
  ·by_cases pO:i=id2
   ·subst pO; rw [e2] at g1; cases g1
    rcases hblk b (.inr g2) with ⟨dA,q1,q2⟩ | ⟨dA,q1,q2⟩ | q
    ·exact .inl ⟨id,dA,q1,q2,.inr ⟨.inr rfl,.inl rfl⟩⟩
    ·exact .inl ⟨i,dA,q1,q2,.inl rfl⟩
    ·exact .inr q
   ·rw [e3 i hi pO] at g1; exact .inl ⟨i,b1,g1,g2,.inl rfl⟩
 have bt:∀ b,c'.own b→c.own b ∨ c.w.heap.size≤b:=by
  rintro b ⟨i,ef,h1,h2⟩
  rcases key i ef b h1 h2 with ⟨j,dA,q1,q2,_⟩ | q
  ·exact .inl ⟨j,dA,q1,q2⟩
  ·exact .inr q
 have eW:Grow pr c c':=by
  refine ⟨rfl,Ka,rI,pa,B5,iM,fun b hb ho=>iX b hb (fun dA h0 h1=>ho ⟨id,dA,h0,h1⟩) (fun dA h0 h1=>ho ⟨id2,dA,h0,h1⟩),bt,fun i ef hp hb=>?_⟩
  by_cases hi:i=id
  ·subst hi; exact ⟨be,e1,kA hp ef hb⟩
  ·by_cases pO:i=id2
   ·subst pO; exact ⟨Hh,e2,vQ hp ef hb⟩
   ·exact ⟨ef,by rw [e3 i hi pO]; exact hb,.refl ef⟩
 have hble:∀ i,jy (c.B i) (c'.B i):=by
  intro i
  by_cases hi:i=id
  ·subst hi; rw [e1]; exact hle
  ·by_cases pO:i=id2
   ·subst pO; rw [e2]; exact abD
   ·rw [e3 i hi pO]; exact jy.refl _
 refine ⟨c',rfl,e1,e2,⟨fun i=>?_,?_,?_,?_⟩,eW,hble⟩
 ·by_cases pO:i=id2
  ·subst pO; rw [e2]; simp only [Mem.put,if_true]; exact B6 c' rfl eW.le hble
  ·by_cases hi:i=id
   ·subst hi; rw [e1]; simp only [Mem.put,pO,if_false,if_true]; exact iQ c' rfl eW.le hble e2
   ·rw [e3 i hi pO]
    simp only [Mem.put,hi,pO,if_false]
    refine (h.gY i).mono eW.le hble fun ef b hb vH=>?_
    refine iX b ((h.gY i).lt hb vH) (fun dA h0 h1=>?_) (fun dA h0 h1=>?_)
    ·exact hi (h.inj i id ef dA b hb h0 vH h1)
    ·exact pO (h.inj i id2 ef dA b hb h0 vH h1)
 ·intro i i' b1 b2 b h1 h2 h3 h4
  rcases key i b1 b h1 h3 with ⟨j,dA,q1,q2,q3⟩ | q
  ·rcases key i' b2 b h2 h4 with ⟨j',VK,q1',q2',E4⟩ | q'
   ·have hj := h.inj j j' dA VK b q1 q1' q2 q2'
    subst hj
    by_cases hi:i=id
    ·by_cases fQ:i'=id
     ·rw [hi,fQ]
     ·by_cases pO:i'=id2
      ·rw [hi,e1] at h1; rw [pO,e2] at h2; cases h1; cases h2; exact (I4 b h3 h4).elim
      ·rcases E4 with E4 | ⟨q,_⟩
       ·subst E4
        rcases q3 with q3 | ⟨_,q3⟩
        ·exact q3.symm
        ·rcases q3 with q3 | q3
         ·exact absurd q3 fQ
         ·exact absurd q3 pO
       ·rcases q with q | q
        ·exact absurd q fQ
        ·exact absurd q pO
    ·by_cases pO:i=id2
     ·by_cases fQ:i'=id
      ·rw [pO,e2] at h1; rw [fQ,e1] at h2; cases h1; cases h2; exact (I4 b h4 h3).elim
      ·by_cases I5:i'=id2
       ·rw [pO,I5]
       ·rcases E4 with E4 | ⟨q,_⟩
        ·subst E4
         rcases q3 with q3 | ⟨_,q3⟩
         ·exact q3.symm
         ·rcases q3 with q3 | q3
          ·exact absurd q3 fQ
          ·exact absurd q3 I5
        ·rcases q with q | q
         ·exact absurd q fQ
         ·exact absurd q I5
     ·rcases q3 with q3 | ⟨q,_⟩
      ·subst q3
       rcases E4 with E4 | ⟨_,E4⟩
       ·exact E4
       ·rcases E4 with E4 | E4
        ·exact absurd E4 hi
        ·exact absurd E4 pO
      ·rcases q with q | q
       ·exact absurd q hi
       ·exact absurd q pO
   ·have:=(h.gY j).lt q1 q2; omega
  ·rcases key i' b2 b h2 h4 with ⟨j',VK,q1',q2',E4⟩ | q'
   ·have:=(h.gY j').lt q1' q2'; omega
   ·by_cases hi:i=id
    ·by_cases fQ:i'=id
     ·rw [hi,fQ]
     ·by_cases pO:i'=id2
      ·rw [hi,e1] at h1; rw [pO,e2] at h2; cases h1; cases h2; exact (I4 b h3 h4).elim
      ·rw [e3 i' fQ pO] at h2; have:=(h.gY i').lt h2 h4; omega
    ·by_cases pO:i=id2
     ·by_cases fQ:i'=id
      ·rw [pO,e2] at h1; rw [fQ,e1] at h2; cases h1; cases h2; exact (I4 b h4 h3).elim
      ·by_cases I5:i'=id2
       ·rw [pO,I5]
       ·rw [e3 i' fQ I5] at h2; have:=(h.gY i').lt h2 h4; omega
     ·rw [e3 i hi pO] at h1; have:=(h.gY i).lt h1 h3; omega
 ·intro b ho hO
  rcases bt b ho with ho | hs
  ·exact h.kB b ho hO
  ·have:=h.xR b hO; omega
 ·intro b hO; exact Nat.lt_of_lt_of_le (h.xR b hO) iM
theorem je.at {c:Cx} {os:List (Nat × Nat × Nat)}:∀ {q:Nat} {xs:List LV} {ws:List Value} {bs:List Nat},je c os q xs ws bs→∀ {j:Nat} {x:LV},xs[j]?=some x →
  ∃ w bp b bq,ws[j]?=some w∧bs=bp++(b++bq)∧fS c os (q+j) x w b∧∀ {c':Cx} {x':LV} {w':Value} {b':List Nat},c.Le c'→(∀ r ∈ bp++bq,c'.w.heap[r]?=c.w.heap[r]?)→fS c' os (q+j) x' w' b'→je c' os q (xs.set j x') (ws.set j w') (bp++(b'++bq))
 | _,[],_,_,h,j,x,hx=>by simp at hx
 | q,y :: ys,ws,bs,h,j,x,hx=>by
  simp only [je] at h
  obtain ⟨w,Ko,b1,b2,rfl,rfl,h1,h2⟩:=h
  cases j with
  | zero =>
   simp at hx; subst hx
   refine ⟨w,[],b1,b2,by simp,by simp,h1,fun {c' x' w' b'} hle hh he=>?_⟩
   simp only [List.set_cons_zero,je,List.nil_append]
   exact ⟨w',Ko,b',b2,rfl,rfl,he,h2.mono hle (fun r hr=>hh r (by simp [hr]))⟩
  | succ j =>
   simp at hx
   obtain ⟨u,bp,b,bq,g1,rfl,g3,g4⟩:=je.at h2 hx
   have hq:q+1+j=q+(j+1):=by omega
   rw [hq] at g3
   refine ⟨u,b1++bp,b,bq,by simpa using g1,by simp,g3,fun {c' x' w' b'} hle hh he=>?_⟩
   simp only [List.set_cons_succ,je]
   refine ⟨w,Ko.set j w',b1,bp++(b'++bq),rfl,by simp,h1.mono hle (fun r hr=>hh r (by simp [hr])),g4 hle (fun r hr=>hh r (by simp at hr ⊢; rcases hr with h | h <;> simp [h])) (by rw [hq]; exact he)⟩
theorem pX {w:World} {g i k o0 e0:Nat} {cur:Array Value} {ws:List Value} {x:Value} (hg:w.heap[g]?=some (.cells cur e0 (0,0))) (Av:(cur.toList.drop (i * k)).take k=ws) (hw:ws[o0]?=some x):w.cell? ⟨g,i * k+o0,.none⟩=some x:=by
 rw [← Av,List.getElem?_take] at hw
 split at hw
 ·rw [List.getElem?_drop] at hw
  simp [World.cell?,hg]
  simpa using hw
 ·cases hw
theorem tV {cur ws:List Value} {ik k o0:Nat} {w':Value} (Av:(cur.drop ik).take k=ws) (hk:ik+k≤cur.length) (ho:o0<k):cur.take (ik+o0)++[w']++cur.drop (ik+o0+1)=cur.take ik++ws.set o0 w'++cur.drop (ik+k):=by
 have HD:ws.length=k:=by rw [← Av]; simp; omega
 have e1:cur.take (ik+o0)++[w']++cur.drop (ik+o0+1)=cur.set (ik+o0) w':=by
  rw [List.set_eq_take_append_cons_drop,if_pos (by omega)]; simp
 have e2:cur=cur.take ik++(ws++cur.drop (ik+k)):=by
  rw [← Av]
  have:cur.drop (ik+k)=(cur.drop ik).drop k:=by rw [List.drop_drop]
  rw [this,List.take_append_drop,List.take_append_drop]
 have hl:(cur.take ik).length=ik:=by simp; omega
 rw [e1]
 conv=>lhs; rw [e2]
 rw [List.set_append_right _ _ (by omega),hl,show ik+o0 - ik=o0 by omega,List.set_append_left _ _ (by omega)]
 simp
theorem jN {c:Cx} {id n i o0 g cap k len:Nat} {ins:List Nat} {v:Value} (hv:ao c (.eptr id n i o0) v) (hB:c.B id=some (.arr (.slice (some ⟨g,0,.none⟩) len cap) k len ins)) (hn:n=len):v=.pointer (some ⟨g,i * k+o0,.none⟩):=by
 simp only [ao] at hv
 obtain ⟨_,u',k',nh,nf,kY,Ca,hv⟩:=hv
 rw [hB] at kY
 cases kY
 obtain ⟨b,hb,he⟩:=hv hn
 have:g=b:=by simpa [Value.ownBlock] using hb
 rw [this]; exact he
section
variable {d:Option Nat} {d1:Nat} {x y:Operand} {t ty:TypeId} {pos:String} {af:Array Edge} {gd:Option (Nat × Bool)} {e0 k id n i o0:Nat} {os:List (Nat × Nat × Nat)} {xs cs:List LV} {z:LV}
theorem gf (hx:ev x=.eptr id n i o0) (hm:m id=some (.nest e0 k os xs)) (hn:n=xs.length) (hz:xs[i]?=some z):bI P pr ⟨d,.nilCheck x,ty,pos,af,gd⟩ ev m (.eptr id n i o0) m:=by
 refine bI.value fun c a bG hM=>?_
 have hv:=bG x (by simp [Op.operands])
 rw [hx] at hv
 obtain ⟨g,cap,cur,v,bs,ins,hB,_⟩:=hM.wi (pr:=pr) hm hz
 have he:=jN hv hB hn
 exact ⟨a.eval x,c,by simp [execOp,he],hv,hM,Step.refl pr c⟩
theorem gb {f off ft kk:Nat} (hf:tfield P t f=some (off,ft)) (hk:tok P ft=true) (hs:tsize P ft=kk+1) (hx:ev x=.eptr id n i o0) (hm:m id=some (.nest e0 k os xs)) (hn:n=xs.length) (hz:xs[i]?=some z):bI P pr ⟨d,.fieldAddr t x f,ty,pos,af,gd⟩ ev m (.eptr id n i (o0+off)) m:=by
  obtain ⟨fs,fd,hu,J6,rfl,rfl⟩:∃ fs fd,P.underlying t=some (.struct fs)∧fs[f]?=some fd∧fd.offset=off∧fd.type=ft:=by
    unfold tfield at hf
    split at hf
    · rename_i fs hu
      cases hf':fs[f]? with
      | none=>simp [hf'] at hf
      | some fd=>simp [hf'] at hf; exact ⟨fs,fd,hu,hf',hf.1,hf.2⟩
    · cases hf
  refine bI.value fun c a bG hM=>?_
  have hv:=bG x (by simp [Op.operands])
  rw [hx] at hv
  obtain ⟨g,cap,cur,v,bs,ins,hB,_⟩:=hM.wi (pr:=pr) hm hz
  have he:=jN hv hB hn
  have hi:∃ i,P.info? fd.type=some i∧i.size ≠ 0:=by
    unfold tok at hk
    cases hi:P.info? fd.type with
    | none=>simp [hi] at hk
    | some i => exact ⟨i, rfl, by have : tsize P fd.type = i.size := by simp [tsize, hi]
                                  omega⟩
  obtain ⟨ii,hi,hi0⟩:=hi
  refine ⟨.pointer (some ⟨g,i * k+(o0+fd.offset),.none⟩),c,?_,?_,hM,Step.refl pr c⟩
  · simp [execOp,he,Instr.fieldAt,run_underlying hu,J6,Instr.sureAddr,fieldPlace,sizeOf,typeInfo,hi,hi0,Addr.add_mid,Nat.add_assoc]
  · simp only [ao]
    exact ⟨rfl,_,k,xs.length,_,hB,by omega,fun _=>⟨g,rfl,rfl⟩⟩
theorem yY {c:Cx} (hM:cA c m) (hm:m id=some (.nest e0 k os xs)) (hn:n=xs.length) (hz:xs[i]?=some (.agg cs)) (hc:cs[o0]?=some z) {v:Value} (hv:ao c (.eptr id n i o0) v) (ht:tok P t=true) (ha:tagg P t=false) :
  ∃ w b,fS c os o0 z w b∧(Instr.loadAt t v).run P c.w=.ok w c.w:=by
 obtain ⟨g,cap,cur,v0,bs,ins,hB,hg,hcs,mG,hk,HC,jj,Av,uu,_⟩:=hM.wi (pr:=fun _=>False) hm hz
 have he:=jN hv hB hn
 obtain ⟨eA,ws,h1,rfl,hC⟩:=uu
 cases h1
 obtain ⟨w,bp,b,bq,g1,_,g3,_⟩:=hC.at hc
 have vJ:(cur.toList.drop (i * k)).take k=ws:=by simpa [Value.cells] using Av
 have hcell:=pX hg vJ g1
 rw [Nat.zero_add] at g3
 refine ⟨w,b,g3,?_⟩
 rw [he]
 exact (gE (cs:=[.fp]) (vs:=[w]) (c:=c) ht (by simp [aD,ao]) (fun j v hj=>by
  cases j with
  | zero=>simp at hj; subst hj; simpa using hcell
  | succ j=>simp at hj)).2 ha w [] rfl
theorem AN (hx:ev x=.eptr id n i o0) (hm:m id=some (.nest e0 k os xs)) (hn:n=xs.length) (hz:xs[i]?=some (.agg cs)) (hc:cs[o0]?=some z) (hl:os.lookup o0=.none) (ht:tok P t=true) (ha:tagg P t=false):bI P pr ⟨d,.load t x,ty,pos,af,gd⟩ ev m z m:=by
 refine bI.value fun c a bG hM=>?_
 have hv:=bG x (by simp [Op.operands])
 rw [hx] at hv
 obtain ⟨w,b,h1,h2⟩:=yY hM hm hn hz hc hv ht ha
 unfold fS at h1
 rw [hl] at h1
 exact ⟨w,c,by simp [execOp,h2],h1.1,hM,Step.refl pr c⟩
theorem Um {e' k':Nat} {ys:List LV} (hx:ev x=.eptr id n i o0) (hm:m id=some (.nest e0 k os xs)) (hn:n=xs.length) (hz:xs[i]?=some (.agg cs)) (hc:cs[o0]?=some (.lst k' ys)) (hl:os.lookup o0=some (e',k')) (ht:tok P t=true) (ha:tagg P t=false):bI P pr ⟨d,.load t x,ty,pos,af,gd⟩ ev m (.slen ys.length) m:=by
 refine bI.value fun c a bG hM=>?_
 have hv:=bG x (by simp [Op.operands])
 rw [hx] at hv
 obtain ⟨w,b,h1,h2⟩:=yY hM hm hn hz hc hv ht ha
 unfold fS at h1
 rw [hl] at h1
 refine ⟨w,c,by simp [execOp,h2],?_,hM,Step.refl pr c⟩
 rcases h1 with ⟨h,_⟩ | ⟨ys',us,h,_,bt,_⟩
 ·cases h
 ·cases h
  obtain ⟨ad,cp,he⟩:=ea bt
  simp only [ao]; exact ⟨ad,cp,he⟩
theorem AO {el nn:Nat} (he:telem P t=some el) (hx:ev x=.slen nn):bI P pr ⟨d,.call ⟨.builtin .len,#[x],#[t]⟩,ty,pos,af,gd⟩ ev m (.int .i64 nn) m:=by
 have hu:=gN he
 refine bI.value fun c a bG hM=>?_
 have hv:=bG x (by simp [Op.operands,Call.operands])
 rw [hx] at hv
 simp only [ao] at hv
 obtain ⟨ad,cp,hv⟩:=hv
 exact ⟨.int .i64 nn,c,by simp [execOp,resolve,invoke,builtin,Builtin.len_,hv,run_underlying hu,goInt],by simp [ao],hM,Step.refl pr c⟩
theorem Uo {z':LV} (hx:ev x=.eptr id n i o0) (hm:m id=some (.nest e0 k os xs)) (hn:n=xs.length) (hz:xs[i]?=some (.agg cs)) (hc:cs[o0]?=some z) (hl:os.lookup o0=.none) (hy:ev y=z') (Bk:z'.scalar=true) (hp:z'.pure=true) (ht:tok P t=true) (hs:tsize P t=1) :
  bI P pr ⟨.none,.store t x y,ty,pos,af,gd⟩ ev m .fp (m.put id (.nest e0 k os (xs.set i (.agg (cs.set o0 z'))))):=by
 refine bI.skip rfl fun c a bG hM=>?_
 have hv:=bG x (by simp [Op.operands])
 rw [hx] at hv
 have qL:=bG y (by simp [Op.operands])
 rw [hy] at qL
 obtain ⟨g,cap,cur,v0,bs,ins,hB,hg,hcs,mG,hk,HC,jj,Av,uu,hnd,hgb,af5,uw⟩:=hM.wi (pr:=pr) hm hz
 have he:=jN hv hB hn
 obtain ⟨eA,ws,h1,rfl,hC⟩:=uu
 cases h1
 have HD:ws.length=k:=by simpa [Value.cells] using HC
 have vJ:(cur.toList.drop (i * k)).take k=ws:=by simpa [Value.cells] using Av
 obtain ⟨w,bp,b,bq,g1,rfl,g3,g4⟩:=hC.at hc
 have iD:o0<k:=by rw [← HD]; exact (List.getElem?_eq_some_iff.1 g1).1
 have hi:i<xs.length:=(List.getElem?_eq_some_iff.1 hz).1
 have Ls:i * k+k≤cur.size:=by
  have h1:=Nat.mul_le_mul_right k (show i+1≤cap by omega)
  rw [Nat.add_mul,Nat.one_mul] at h1; omega
 have yh:=fg Bk qL
 have Je:=dY yh
 have dD:=jD (P:=P) (t:=t) (v:=a.eval y) (off:=i * k+o0) ht (by rw [hs,Je]; rfl) hg (by rw [Je]; simp; omega) (by rw [Je]; simpa using yh)
 rw [Je] at dD
 have ju:=tV (w':=a.eval y) vJ (by simpa using Ls) iD
 have nI:(cur.toList.take (i * k+o0)++[a.eval y]++cur.toList.drop (i * k+o0+1))=cur.toList.take (i * k)++(Value.agg (ws.set o0 (a.eval y)).toArray).cells.toList++cur.toList.drop (i * k+k):=by rw [ju]; simp [Value.cells]
 have hb0:b=[]:=by unfold fS at g3; rw [Nat.zero_add,hl] at g3; exact g3.2.2
 subst hb0
 obtain ⟨c',hw,h2,h3⟩:=uw (c.w.setRow g (cur.toList.take (i * k+o0)++[a.eval y]++cur.toList.drop (i * k+o0+1)).toArray) (.agg (cs.set o0 z')) (.agg (ws.set o0 (a.eval y)).toArray) (bp++([]++bq)) rfl rfl rfl (Nat.le_refl _) (by simp)
  (fun b hb eO _=>setRow_other _ _ _ _ eO) (by rw [nI]; exact setRow_heap c.w g _ _ e0 _ hg) (by simp [Value.cells,HD]) (fun q hq=>by
   simp only [Value.cells] at hq jj
   have rb:q ∈ ws.set o0 (a.eval y):=by simpa using hq
   rcases List.mem_or_eq_of_mem_set rb with h | h
   ·exact jj q (by simpa using h)
   ·rw [h]; exact yh) (fun b hb=>.inl hb) hnd (fun c' hw hle=>⟨_,_,rfl,rfl,g4 hle (fun r hr=>by rw [hw]; exact setRow_other _ _ _ _ (fun WG=>hgb (by rw [← WG]; simp at hr ⊢; exact hr)))
   (by unfold fS; rw [Nat.zero_add,hl]; exact ⟨ao.mono hle z' _ (fun q hq=>by rw [il z' hp] at hq; cases hq) qL,hp,rfl⟩)⟩)
 refine ⟨c',?_,h2,h3⟩
 rw [hw]
 simp [execOp,he,dD]
end
end
end Go.L
namespace Go.L
theorem rS {c:Cx} {e0 k:Nat} {os:List (Nat × Nat × Nat)} {xs:List LV} {y:Option BE} (he:bo c (some (.nest e0 k os xs)) y) {i:Nat} {x:LV} (hx:xs[i]?=some x) :
  ∃ g cap cur v bp bs bq,y=some (.arr (.slice (some ⟨g,0,.none⟩) xs.length cap) k xs.length (bp++(bs++bq)))∧c.w.heap[g]?=some (.cells cur e0 (0,0))∧cur.size=cap * k∧xs.length≤cap∧0<k ∧
   v.cells.size=k∧(∀ y ∈ v.cells,y.oneCell'=true)∧(cur.toList.drop (i * k)).take k=v.cells.toList∧Qe c os x v bs∧(bp++(bs++bq)).Nodup∧g ∉ bp++(bs++bq) ∧
   ∀ (c':Cx) (x':LV) (v':Value) (Hi:List Nat),c.Le c'→c'.w.heap[g]?=some (.cells (cur.toList.take (i * k)++v'.cells.toList++cur.toList.drop (i * k+k)).toArray e0 (0,0))→(∀ q ∈ bp++bq,c'.w.heap[q]?=c.w.heap[q]?) →
    v'.cells.size=k→(∀ y ∈ v'.cells,y.oneCell'=true)→Qe c' os x' v' Hi→(bp++(Hi++bq)).Nodup→g ∉ Hi→bo c' (some (.nest e0 k os (xs.set i x'))) (some (.arr (.slice (some ⟨g,0,.none⟩) xs.length cap) k xs.length (bp++(Hi++bq)))):=by
 simp only [bo] at he
 obtain ⟨u,vs,ins,rfl,hk,bt,hn,hc,hnd,uO⟩:=he
 have hi:i<xs.length:=(List.getElem?_eq_some_iff.1 hx).1
 obtain ⟨v,bp,bs,bq,hv,rfl,uu,ju⟩:=hn.at hx
 have S8:=List.mem_of_getElem? hv
 have pg:=hn.length
 rcases bt.2 with ⟨_,h0⟩ | ⟨g,cap,cur,rfl,Aw,hg,mG,hcm,hcs,uP⟩
 ·omega
 ·have tJ:g ∉ bp++(bs++bq):=uO g rfl
  have V9:xs.length * k≤cap * k:=Nat.mul_le_mul_right k mG
  have Ls:i * k+k≤xs.length * k:=by
   have:=Nat.mul_le_mul_right k (show i+1≤xs.length by omega)
   rw [Nat.add_mul,Nat.one_mul] at this; exact this
  have hcl:cur.toList.length=cur.size:=by simp
  have Ln:(cur.toList.drop (i * k)).take k=v.cells.toList:=by
   obtain ⟨f1,f2⟩:=js (fun v hv=>(hc v hv).1) hv
   have HC:v.cells.toList.length=k:=by simpa using (hc v S8).1
   have:(cur.toList.drop (i * k)).take k=((flat vs).drop (i * k)).take k:=by
    rw [← uP,List.drop_take,List.take_take]
    congr 1
    omega
   rw [this,f1,← f2,List.drop_left' rfl,← HC,List.take_left' rfl]
  refine ⟨g,cap,cur,v,bp,bs,bq,rfl,hg,hcs,mG,hk,(hc v S8).1,(hc v S8).2,Ln,uu,hnd,tJ,?_⟩
  intro c' x' v' Hi hle ye iX vY SZ Sx qI hgb
  simp only [bo,List.length_set]
  refine ⟨.slice (some ⟨g,0,.none⟩) xs.length cap,vs.set i v',bp++(Hi++bq),rfl,hk,⟨?_,.inr ⟨g,cap,_,rfl,Aw,ye,mG,hcm,?_,?_⟩⟩,ju hle iX Sx,?_,qI,?_⟩
  ·rw [eS (k:=k) (fun y hy=>?_)]
   ·simp [pg]
   ·rcases List.mem_or_eq_of_mem_set hy with h | h
    ·exact (hc y h).1
    ·rw [h]; exact vY
  ·have:v'.cells.toList.length=k:=by simpa using vY
   simp only [List.size_toArray,List.length_append,List.length_take,List.length_drop,hcl,this,hcs]
   omega
  ·rw [BR (fun y hy=>(hc y hy).1) (by omega) vY,← uP]
   have e2:v'.cells.toList.length=k:=by simpa using vY
   apply List.ext_getElem?
   intro j
   simp only [List.toList_toArray,List.getElem?_take,List.getElem?_append,List.length_append,List.length_take,List.getElem?_drop,e2,hcl]
   repeat' split
   all_goals first | rfl | omega | (congr 1; omega) | skip
  ·intro y hy
   rcases List.mem_or_eq_of_mem_set hy with h | h
   ·exact hc y h
   ·rw [h]; exact ⟨vY,SZ⟩
  ·intro b hb
   have J5:g=b:=by simpa [Value.ownBlock] using hb
   subst J5
   intro Bd
   simp only [List.mem_append] at Bd tJ
   rcases Bd with h | h | h
   ·exact tJ (.inl h)
   ·exact hgb h
   ·exact tJ (.inr (.inr h))
section
variable {P:Program} {N:Nat} {pr:Nat→Prop} {ev:Operand→LV} {m:Mem} {d:Option Nat} {x y:Operand} {t ty:TypeId} {pos:String} {af:Array Edge} {gd:Option (Nat × Bool)} {e0 k id n i o0 id2 e' k':Nat} {os:List (Nat × Nat × Nat)} {xs cs ys:List LV}
theorem M0 (hx:ev x=.eptr id n i o0) (hm:m id=some (.nest e0 k os xs)) (hn:n=xs.length) (hz:xs[i]?=some (.agg cs)) (hc:cs[o0]?=some (.lst k' ys)) (hl:os.lookup o0=some (e',k')) (bX:m id2=.none) (ht:tok P t=true) (ha:tagg P t=false) :
  bI P pr ⟨d,.load t x,ty,pos,af,gd⟩ ev m (.arr id2 ys.length) ((m.put id (.nest e0 k os (xs.set i (.agg (cs.set o0 .fp))))).put id2 (.arr e' k' ys)):=by
 have eO:id ≠ id2:=fun h=>by rw [h,bX] at hm; cases hm
 refine bI.value fun c a bG hM=>?_
 have hv:=bG x (by simp [Op.operands])
 rw [hx] at hv
 have iQ:=hM.gY id
 rw [hm] at iQ
 obtain ⟨g,cap,cur,v,bp,bs,bq,hB,hg,hcs,mG,hk,HC,jj,Av,uu,hnd,tJ,uw⟩:=rS iQ hz
 have he:=jN hv hB hn
 obtain ⟨eA,ws,h1,rfl,hC⟩:=uu
 cases h1
 have vJ:(cur.toList.drop (i * k)).take k=ws:=by simpa [Value.cells] using Av
 obtain ⟨w,cp,cb,cq,g1,rfl,g3,g4⟩:=hC.at hc
 have hcell:=pX hg vJ g1
 rw [Nat.zero_add] at g3 g4
 unfold fS at g3
 rw [hl] at g3
 obtain ⟨us,J8,bt,Cg,SY,LK,rfl⟩:∃ us,0<k'∧c.w.ownsRow 0 e' k' w ys.length (flat us)∧aD c ys us∧(∀ u ∈ us,u.cells.size=k'∧∀ y ∈ u.cells,y.oneCell'=true)∧LV.bf ys=true∧cb=w.ownBlock.toList:=by
  rcases g3 with ⟨h,_⟩ | ⟨ys',us,h,q0,q1,q2,q3,q4,q5⟩
  ·cases h
  ·cases h; exact ⟨us,q0,q1,q2,q3,q4,q5⟩
 have dD:(Instr.loadAt t (a.eval x)).run P c.w=.ok w c.w:=by
  rw [he]
  exact (gE (cs:=[.fp]) (vs:=[w]) (c:=c) ht (by simp [aD,ao]) (fun j v hj=>by
   cases j with
   | zero=>simp at hj; subst hj; simpa using hcell
   | succ j=>simp at hj)).2 ha w [] rfl
 have B0:=hM.fresh bX
 have pe:∀ b,b ∈ bp++((cp++([]++cq))++bq)→b ∈ bp++((cp++(w.ownBlock.toList++cq))++bq):=fun b hb=>by
  simp only [List.mem_append,List.nil_append] at hb ⊢
  rcases hb with h | (h | h) | h <;> simp [h]
 have qI:(bp++((cp++([]++cq))++bq)).Nodup:=by
  refine List.Nodup.sublist ?_ hnd
  refine List.Sublist.append (List.Sublist.refl _) (List.Sublist.append (List.Sublist.append (List.Sublist.refl _) ?_) (List.Sublist.refl _))
  exact List.Sublist.append (List.nil_sublist _) (List.Sublist.refl _)
 have rH:ws.set o0 w=ws:=by
  obtain ⟨hlt,hw⟩:=List.getElem?_eq_some_iff.1 g1
  rw [← hw]; exact List.set_getElem_self hlt
 obtain ⟨c',hw,eb1,VS,h2,h3⟩:=hM.P6 (pr:=pr) id id2 eO (.nest e0 k os (xs.set i (.agg (cs.set o0 .fp)))) (.arr e' k' ys) (.arr (.slice (some ⟨g,0,.none⟩) xs.length cap) k xs.length (bp++((cp++([]++cq))++bq))) (.arr w k' ys.length []) c.w rfl rfl rfl (Nat.le_refl _) (Nat.le_refl _)
  (fun b _ _ _=>rfl)
  (fun b hb=>by
   rcases hb with hb | hb
   ·rcases hb with hb | hb
    ·exact .inl ⟨_,hB,.inl hb⟩
    ·exact .inl ⟨_,hB,.inr (pe b hb)⟩
   ·rcases hb with hb | hb
    ·exact .inl ⟨_,hB,.inr (by simp [hb])⟩
    ·cases hb)
  (fun b hb hb2=>by
   have hbw:w.ownBlock=some b:=by
    rcases hb2 with h | h
    ·exact h
    ·cases h
   rcases hb with hb | hb
   ·have:g=b:=by simpa [Value.ownBlock] using hb
    subst this
    exact tJ (by simp [hbw])
   ·have n1:=List.nodup_append.1 hnd
    have n2:=List.nodup_append.1 n1.2.1
    have n3:=List.nodup_append.1 n2.1
    have n4:=List.nodup_append.1 n3.2.1
    have hin:b ∈ w.ownBlock.toList:=by simp [hbw]
    simp only [List.mem_append,List.nil_append] at hb
    rcases hb with h | (h | h) | h
    ·exact n1.2.2 b h b (by simp [hbw]) rfl
    ·exact n3.2.2 b h b (by simp [hbw]) rfl
    ·exact n4.2.2 b hin b h rfl
    ·exact n2.2.2 b (by simp [hbw]) b h rfl)
  (by rw [hB]; exact ⟨_,_,_,rfl,Nat.le_refl _,fun _=>rfl⟩) (by rw [B0]; trivial) (fun _ dA h0=>by rw [hB] at h0; cases h0; exact ⟨_,_,_,rfl,Nat.le_refl _,fun _=>rfl⟩) (fun _ dA h0=>by rw [B0] at h0; cases h0)
  (fun c' hw hle hble _=>by
   refine uw c' _ (.agg ws.toArray) _ hle ?_ (fun q _=>by rw [hw]) HC jj ⟨_,ws,rfl,rfl,?_⟩ qI (fun h=>tJ (by
    simp only [List.mem_append,List.nil_append] at h ⊢
    rcases h with h | h <;> simp [h]))
   ·rw [hw,hg]
    congr 2
    apply Array.toList_inj.1
    simp only [List.toList_toArray]
    rw [← Av,← List.drop_drop,List.append_assoc,List.take_append_drop,List.take_append_drop]
   ·have:=g4 (c':=c') (x':=.fp) (w':=w) (b':=[]) hle (fun r _=>by rw [hw]) (by unfold fS; rw [hl]; exact .inl ⟨rfl,rfl⟩)
    rw [rH] at this
    exact this)
  (fun c' hw hle hble=>by
   simp only [bo]
   exact ⟨w,us,rfl,J8,by rw [hw]; exact bt,aD.mono hle ys us (fun j hj=>by rw [az ys LK] at hj; cases hj) Cg,SY,LK⟩)
 refine ⟨w,c',by rw [hw]; simp [execOp,dD],?_,h2,h3⟩
 simp only [ao]
 refine ⟨?_,_,_,_,_,VS,Nat.le_refl _,fun _=>rfl⟩
 obtain ⟨ad,VQ,L5⟩:=ea bt
 rw [L5]; rfl
theorem Pv {n2:Nat} (hx:ev x=.eptr id n i o0) (hm:m id=some (.nest e0 k os xs)) (hn:n=xs.length) (hz:xs[i]?=some (.agg cs)) (hc:cs[o0]?=some .fp) (hl:os.lookup o0=some (e',k')) (hy:ev y=.arr id2 n2) (mE:m id2=some (.arr e' k' ys)) (OX:n2=ys.length) (vQ:¬ pr id2) (ht:tok P t=true) (hs:tsize P t=1) :
  bI P pr ⟨.none,.store t x y,ty,pos,af,gd⟩ ev m .fp ((m.put id (.nest e0 k os (xs.set i (.agg (cs.set o0 (.lst k' ys)))))).put id2 .dead):=by
 have eO:id ≠ id2:=fun h=>by rw [h,mE] at hm; cases hm
 refine bI.skip rfl fun c a bG hM=>?_
 have hv:=bG x (by simp [Op.operands])
 rw [hx] at hv
 have qL:=bG y (by simp [Op.operands])
 rw [hy] at qL
 obtain ⟨us,B0,J8,bt,Cg,SY,LK⟩:=gi hM qL mE OX
 have iQ:=hM.gY id
 rw [hm] at iQ
 obtain ⟨g,cap,cur,v,bp,bs,bq,hB,hg,hcs,mG,hk,HC,jj,Av,uu,hnd,tJ,uw⟩:=rS iQ hz
 have he:=jN hv hB hn
 obtain ⟨eA,ws,h1,rfl,hC⟩:=uu
 cases h1
 have HD:ws.length=k:=by simpa [Value.cells] using HC
 have vJ:(cur.toList.drop (i * k)).take k=ws:=by simpa [Value.cells] using Av
 obtain ⟨w0,cp,cb,cq,g1,rfl,g3,g4⟩:=hC.at hc
 rw [Nat.zero_add] at g3 g4
 have V8:cb=[]:=by
  unfold fS at g3
  rw [hl] at g3
  rcases g3 with ⟨_,h⟩ | ⟨_,_,h,_⟩
  ·exact h
  ·cases h
 subst V8
 have iD:o0<k:=by rw [← HD]; exact (List.getElem?_eq_some_iff.1 g1).1
 have hi:i<xs.length:=(List.getElem?_eq_some_iff.1 hz).1
 have Ls:i * k+k≤cur.size:=by
  have h1:=Nat.mul_le_mul_right k (show i+1≤cap by omega)
  rw [Nat.add_mul,Nat.one_mul] at h1; omega
 have yh:(a.eval y).oneCell'=true:=by
  obtain ⟨ad,VQ,L5⟩:=ea bt
  rw [L5]; rfl
 have Je:=dY yh
 have dD:=jD (P:=P) (t:=t) (v:=a.eval y) (off:=i * k+o0) ht (by rw [hs,Je]; rfl) hg (by rw [Je]; simp; omega) (by rw [Je]; simpa using yh)
 rw [Je] at dD
 have ju:=tV (w':=a.eval y) vJ (by simpa using Ls) iD
 have nI:(cur.toList.take (i * k+o0)++[a.eval y]++cur.toList.drop (i * k+o0+1))=cur.toList.take (i * k)++(Value.agg (ws.set o0 (a.eval y)).toArray).cells.toList++cur.toList.drop (i * k+k):=by rw [ju]; simp [Value.cells]
 -- the block of the slice is not one of the Zh
 have qF:∀ b,(a.eval y).ownBlock=some b→b ≠ g∧b ∉ bp++((cp++([]++cq))++bq):=fun b hb=>by
  constructor
  ·intro J5
   exact eO (hM.inj id id2 _ _ b hB B0 (.inl (by rw [J5]; rfl)) (.inl hb))
  ·intro hin
   exact eO (hM.inj id id2 _ _ b hB B0 (.inr hin) (.inl hb))
 have qI:(bp++((cp++((a.eval y).ownBlock.toList++cq))++bq)).Nodup:=by
  cases hb:(a.eval y).ownBlock with
  | none=>simpa [hb] using hnd
  | some b =>
   have hf:=(qF b hb).2
   have hp:(bp++((cp++((some b).toList++cq))++bq)).Perm (b :: (bp++((cp++([]++cq))++bq))):=by
    simp only [Option.toList_some,List.singleton_append,List.nil_append]
    refine (List.Perm.append_left bp ?_).trans (List.perm_middle)
    rw [List.append_assoc,List.append_assoc,List.cons_append]
    exact List.perm_middle
   exact hp.nodup_iff.2 (List.nodup_cons.2 ⟨hf,hnd⟩)
 obtain ⟨c',hw,eb1,VS,h2,h3⟩:=hM.P6 (pr:=pr) id id2 eO (.nest e0 k os (xs.set i (.agg (cs.set o0 (.lst k' ys))))) .dead (.arr (.slice (some ⟨g,0,.none⟩) xs.length cap) k xs.length (bp++((cp++((a.eval y).ownBlock.toList++cq))++bq))) (.arr (.slice .none 0 0) k' (ys.length+1) []) (c.w.setRow g (cur.toList.take (i * k+o0)++[a.eval y]++cur.toList.drop (i * k+o0+1)).toArray) rfl rfl rfl (Nat.le_refl _) (by simp)
  (fun b _ h1 _=>setRow_other _ _ _ _ (fun J5=>h1 _ hB (.inl (by rw [J5]; rfl))))
  (fun b hb=>by
   rcases hb with hb | hb
   ·rcases hb with hb | hb
    ·exact .inl ⟨_,hB,.inl hb⟩
    ·simp only [List.mem_append,Option.mem_toList] at hb
     rcases hb with h | (h | h | h) | h
     ·exact .inl ⟨_,hB,.inr (by simp [h])⟩
     ·exact .inl ⟨_,hB,.inr (by simp [h])⟩
     ·exact .inr (.inl ⟨_,B0,.inl h⟩)
     ·exact .inl ⟨_,hB,.inr (by simp [h])⟩
     ·exact .inl ⟨_,hB,.inr (by simp [h])⟩
   ·rcases hb with hb | hb
    ·simp [Value.ownBlock] at hb
    ·cases hb)
  (fun b _ hb2=>by
   rcases hb2 with hb | hb
   ·simp [Value.ownBlock] at hb
   ·cases hb)
  (by rw [hB]; exact ⟨_,_,_,rfl,Nat.le_refl _,fun _=>rfl⟩) (by rw [B0]; exact ⟨_,_,_,rfl,by omega,fun h=>by omega⟩) (fun _ dA h0=>by rw [hB] at h0; cases h0; exact ⟨_,_,_,rfl,Nat.le_refl _,fun _=>rfl⟩) (fun h=>absurd h vQ)
  (fun c' hw hle hble _=>by
   have FJ:∀ b,b ≠ g→c'.w.heap[b]?=c.w.heap[b]?:=fun b hb=>by rw [hw]; exact setRow_other _ _ _ _ hb
   refine uw c' _ (.agg (ws.set o0 (a.eval y)).toArray) _ hle (by rw [hw,nI]; exact setRow_heap c.w g _ _ e0 _ hg) (fun q hq=>FJ q (fun WB=>tJ (by rw [← WB]; simp at hq ⊢; rcases hq with h | h <;> simp [h]))) (by simp [Value.cells,HD]) (fun q hq=>by
    simp only [Value.cells] at hq jj
    have rb:q ∈ ws.set o0 (a.eval y):=by simpa using hq
    rcases List.mem_or_eq_of_mem_set rb with h | h
    ·exact jj q (by simpa using h)
    ·rw [h]; exact yh) ⟨_,_,rfl,rfl,?_⟩ qI (fun h=>?_)
   ·refine g4 (c':=c') (x':=.lst k' ys) (w':=a.eval y) (b':=(a.eval y).ownBlock.toList) hle (fun r hr=>FJ r (fun WG=>tJ (by rw [← WG]; simp at hr ⊢; rcases hr with h | h <;> simp [h]))) ?_
    unfold fS
    rw [hl]
    exact .inr ⟨ys,us,rfl,J8,c9 bt (fun b hb=>FJ b (qF b hb).1),aD.mono hle ys us (fun j hj=>by rw [az ys LK] at hj; cases hj) Cg,SY,LK,rfl⟩
   ·simp only [List.mem_append,Option.mem_toList] at h
    rcases h with h | h | h
    ·exact tJ (by simp [h])
    ·exact (qF g h).1 rfl
    ·exact tJ (by simp [h]))
  (fun c' hw hle hble=>by simp only [bo]; exact ⟨_,_,_,rfl,rfl⟩)
 refine ⟨c',?_,h2,h3⟩
 rw [hw]
 simp [execOp,he,dD]
end
end Go.L
namespace Go.L
section
variable {P:Program} {N:Nat} {pr:Nat→Prop} {ev:Operand→LV} {m m':Mem} {d:Option Nat} {x y:Operand} {t ty:TypeId} {pos:String} {af:Array Edge} {gd:Option (Nat × Bool)} {lv:LV}
end
end Go.L
namespace Go.L
section
variable {P:Program} {N:Nat} {pr:Nat→Prop} {ev:Operand→LV} {m m':Mem} {d:Option Nat} {x y:Operand} {t ty:TypeId} {pos:String} {af:Array Edge} {gd:Option (Nat × Bool)} {lv:LV} {α β:Type} {f:α→LV} {g:β→LV} {e0 k id n:Nat} {os:List (Nat × Nat × Nat)} {xs:List α} {u:Int} {z0:α} {cs:List LV} {o0:Nat} {z:LV}
theorem ry (h:idx xs u=some z0):some (LE.nest e0 k os (xs.map f))=some (LE.nest e0 k os ((xs.map f).set u.toNat (f z0))):=by
 obtain ⟨_,h2⟩:=cU h
 obtain ⟨h3,h4⟩:=List.getElem?_eq_some_iff.1 h2
 have:(xs.map f).set u.toNat (f z0)=xs.map f:=by
  rw [← List.map_set,← h4,List.set_getElem_self]
 rw [this]
theorem ct (h:idx xs u=some z0) {w:LV}:((xs.map f).set u.toNat w)[u.toNat]?=some w:=by
 obtain ⟨_,h2⟩:=cU h
 have h3:=(List.getElem?_eq_some_iff.1 h2).1
 rw [List.getElem?_set_self (by simpa using h3)]
theorem P5 {z':α} {ys:List α} (hz:f z'=.agg cs) (hy:ys=xs.set u.toNat z'):some (LE.nest e0 k os ((xs.map f).set u.toNat (.agg cs)))=some (LE.nest e0 k os (ys.map f)):=by
 rw [hy,List.map_set,hz]
theorem Un {z':LV} {ls:List LV} {i:Nat} (hx:ev x=.eptr id n i o0) (hm:m id=some (.nest e0 k os (ls.set i (.agg cs)))) (hn:n=ls.length) (hz:(ls.set i (.agg cs))[i]?=some (.agg cs)) (hc:cs[o0]?=some z) (hl:os.lookup o0=.none) (hy:ev y=z') (Bk:z'.scalar=true) (hp:z'.pure=true) (ht:tok P t=true) (hs:tsize P t=1) {eA:List LV} (hcs:cs.set o0 z'=eA) :
  bI P pr ⟨.none,.store t x y,ty,pos,af,gd⟩ ev m .fp (m.put id (.nest e0 k os (ls.set i (.agg eA)))):=by
 subst hcs
 have:=Uo (pr:=pr) (ty:=ty) (pos:=pos) (af:=af) (gd:=gd) hx hm (by simpa using hn) hz hc hl hy Bk hp ht hs
 rwa [List.set_set] at this
theorem Ga {e' k':Nat} {ys:List β} {ls:List LV} {i:Nat} (hx:ev x=.eptr id n i o0) (hm:m id=some (.nest e0 k os ls)) (hn:n=ls.length) (hz:ls[i]?=some (.agg cs)) (hc:cs[o0]?=some (.lst k' (ys.map g))) (hl:os.lookup o0=some (e',k')) (ht:tok P t=true) (ha:tagg P t=false):bI P pr ⟨d,.load t x,ty,pos,af,gd⟩ ev m (.slen ys.length) m:=by
 have:=Um (pr:=pr) (d:=d) (ty:=ty) (pos:=pos) (af:=af) (gd:=gd) hx hm hn hz hc hl ht ha
 rwa [List.length_map] at this
theorem wy {e' k' id2:Nat} {ys:List β} {ls:List LV} {i:Nat} (hx:ev x=.eptr id n i o0) (hm:m id=some (.nest e0 k os (ls.set i (.agg cs)))) (hn:n=ls.length) (hz:(ls.set i (.agg cs))[i]?=some (.agg cs)) (hc:cs[o0]?=some (.lst k' (ys.map g))) (hl:os.lookup o0=some (e',k')) (bX:m id2=.none) (ht:tok P t=true) (ha:tagg P t=false) {eA:List LV} (hcs:cs.set o0 .fp=eA) :
  bI P pr ⟨d,.load t x,ty,pos,af,gd⟩ ev m (.arr id2 ys.length) ((m.put id (.nest e0 k os (ls.set i (.agg eA)))).put id2 (.arr e' k' (ys.map g))):=by
 subst hcs
 have:=M0 (pr:=pr) (d:=d) (ty:=ty) (pos:=pos) (af:=af) (gd:=gd) hx hm (by simpa using hn) hz hc hl bX ht ha
 rwa [List.length_map,List.set_set] at this
theorem AP {e' k' id2 n2:Nat} {ys:List β} {ls:List LV} {i:Nat} (hx:ev x=.eptr id n i o0) (hm:m id=some (.nest e0 k os (ls.set i (.agg cs)))) (hn:n=ls.length) (hz:(ls.set i (.agg cs))[i]?=some (.agg cs)) (hc:cs[o0]?=some .fp) (hl:os.lookup o0=some (e',k')) (hy:ev y=.arr id2 n2) (mE:m id2=some (.arr e' k' (ys.map g))) (OX:n2=ys.length) (vQ:¬ pr id2) (ht:tok P t=true) (hs:tsize P t=1) {eA:List LV} (hcs:cs.set o0 (.lst k' (ys.map g))=eA) :
  bI P pr ⟨.none,.store t x y,ty,pos,af,gd⟩ ev m .fp ((m.put id (.nest e0 k os (ls.set i (.agg eA)))).put id2 .dead):=by
 subst hcs
 have:=Pv (pr:=pr) (ty:=ty) (pos:=pos) (af:=af) (gd:=gd) hx hm (by simpa using hn) hz hc hl hy mE (by simpa using OX) vQ ht hs
 rwa [List.set_set] at this
theorem Uk {el kk:Nat} {kd:IntKind} (he:telem P t=some el) (hk:tok P el=true) (hs:tsize P el=kk) (hx:ev x=.arr id n) (hm:m id=some (.nest el kk os (xs.map f))) (hn:n=xs.length) (hy:ev y=.int kd u) (hz:idx xs u=some z0) :
  bI P pr ⟨d,.indexAddr t x y,ty,pos,af,gd⟩ ev m (.eptr id n u.toNat 0) m:=by
 obtain ⟨h0,h2⟩:=cU hz
 exact Ul he hk hs hx hm (by simpa using hn) hy h0 (by simpa using (List.getElem?_eq_some_iff.1 h2).1)
theorem Gb {kd kd':IntKind} {u w:Int} {ts:Array TypeId} (hx:ev x=.int kd u) (hy:ev y=.int kd' w):bI P pr ⟨d,.call ⟨.builtin .min,#[x,y],ts⟩,ty,pos,af,gd⟩ ev m (.int kd (min u w)) m:=by
 refine bI.value fun c a bG hM=>?_
 have hv:=bG x (by simp [Op.operands,Call.operands])
 have hw:=bG y (by simp [Op.operands,Call.operands])
 rw [hx] at hv
 rw [hy] at hw
 simp only [ao] at hv hw
 have hmn:(if w<u then w else u)=min u w:=by omega
 exact ⟨.int kd (min u w),c,by simp [execOp,resolve,invoke,builtin,Builtin.min_,Builtin.min2,hv,hw,hmn],by simp [ao],hM,Step.refl pr c⟩
theorem MU {kd kd':IntKind} {u w:Int} {ts:Array TypeId} (hx:ev x=.int kd u) (hy:ev y=.int kd' w):bI P pr ⟨d,.call ⟨.builtin .max,#[x,y],ts⟩,ty,pos,af,gd⟩ ev m (.int kd (max u w)) m:=by
 refine bI.value fun c a bG hM=>?_
 have hv:=bG x (by simp [Op.operands,Call.operands])
 have hw:=bG y (by simp [Op.operands,Call.operands])
 rw [hx] at hv
 rw [hy] at hw
 simp only [ao] at hv hw
 have hmn:(if w > u then w else u)=max u w:=by omega
 exact ⟨.int kd (max u w),c,by simp [execOp,resolve,invoke,builtin,Builtin.max_,Builtin.max2,hv,hw,hmn],by simp [ao],hM,Step.refl pr c⟩
end
end Go.L
namespace Go.L
theorem cA.re {c:Cx} {m:Mem} (h:cA c m) {pI:Nat} {cs eA:List LV} (hm:m pI=some (.box cs)) {vs:List Value} {b:Nat} {e:TypeId} (hB:c.B pI=some (.box b cs.length)) (hh:c.w.heap[b]?=some (.cells vs.toArray e (0,0))) (hl:aD c eA vs) (h1:∀ v ∈ vs,v.oneCell'=true) (hn:eA.length=cs.length):cA c (m.put pI (.box eA)):=by
 refine ⟨fun i=>?_,h.inj,h.kB,h.xR⟩
 by_cases hi:i=pI
 ·subst hi
  simp only [Mem.put,if_true,bo]
  exact ⟨b,vs,e,by rw [hn]; exact hB,hh,hl,h1⟩
 ·simp only [Mem.put,hi,if_false]
  exact h.gY i
theorem Et {c:Cx}:∀ (cs:List LV) (vs:List Value),aD c cs vs→aD c (cs.map fun _=>LV.fp) vs
 | [],vs,h=>by simpa only [aD,List.map_nil] using h
 | x :: xs,vs,h=>by
  simp only [aD,List.map_cons] at h ⊢
  obtain ⟨v,fD,rfl,h1,h2⟩:=h
  exact ⟨v,fD,rfl,by simp [ao],Et xs fD h2⟩
theorem wo {id:Nat}:∀ (cs:List LV),LV.cz id (cs.map fun _=>LV.fp)=true
 | []=>by simp [LV.cz]
 | x :: xs=>by simp [LV.cz,LV.bg,wo xs]
theorem rz {id k:Nat} {xs:List LV}:∀ (cs:List LV),(LV.gz id k xs cs).length=cs.length
 | []=>by simp [LV.gz]
 | x :: cs=>by simp [LV.gz,rz cs]
def Sb (id pI:Nat) (ml:List (Nat × LE)):Bool:=ml.all fun q=>q.1 == id || q.1 == pI || match q.2 with | .box cs=>LV.cz id cs | .arr _ _ _=>true | .map _ _ _=>true | .nest _ _ _ _=>true | .dm _ _ _ _ _ _ id2 _=>id2 != id | .dead=>true
theorem Wk.cL {pr:Nat→Prop} {el:List (Nat × LV)} {ml:List (Nat × LE)} {α:Type} {f:α→LV} (id e k:Nat) (xs:List α) (pI:Nat) {cs eA:List LV} (bX:Mem.of ml id=some (.arr e k (xs.map f))) (hb:Mem.of ml pI=some (.box cs)) (eO:(pI == id)=false) (hcs:LV.gz id k (xs.map f) cs=eA) (na:Sb id pI ml=true) (Sy:(el.all fun p=>p.2.bg id)=true) (kA:¬ pr id) :
  Wk pr (Env.of el) (Mem.of ml) (Env.of el) (((Mem.of ml).del id).put pI (.box eA)):=by
 intro N c a cn
 have eO:pI ≠ id:=by simpa using eO
 obtain ⟨b,vs,e1,I0,hh,hl,h1⟩:=kV cn.mem hb
 have mr:=cn.mem.re (eA:=cs.map fun _=>LV.fp) hb I0 hh (Et cs vs hl) h1 (by simp)
 obtain ⟨c',hw,hO,kh,hV,bt,hX,hB⟩:=mr.del id (by
  intro i ds hi hd
  by_cases Vc:i=pI
  ·subst Vc
   simp only [Mem.put,if_true,Option.some.injEq] at hd
   rw [← hd]; exact wo cs
  ·simp only [Mem.put,Vc,if_false] at hd
   have:=List.all_eq_true.1 na _ (ep hd)
   cases ds with
   | box cs=>simpa [hi,Vc,LE.jh] using this
   | dm _ _ _ _ _ _ _ _=>simpa [hi,Vc,LE.jh] using this
   | _=>rfl)
 have hle:c.Le c':=⟨by rw [hw]; exact Nat.le_refl _,fun b _ hx=>⟨by rw [hw],fun pR=>hx (pR.imp (fun h=>by rw [hO] at h; exact h) (bt b))⟩⟩
 have aaX:∀ v,ao c (.arr id (xs.map f).length) v→ao c' (.lst k (xs.map f)) v:=by
  intro v hv
  obtain ⟨us,hBu,hk,pb,hl,hc,hp⟩:=gi cn.mem hv bX rfl
  simp only [ao]
  have pP:=aD.mono hle (xs.map f) us (fun j hj=>by rw [az _ hp] at hj; cases hj) hl
  rcases pb.2 with ⟨rfl,h0⟩ | ⟨g,cap,cur,rfl,_,hg,mG,_⟩
  ·exact ⟨.none,0,by rw [h0],by omega,fun _=>rfl,hp,.inl (List.eq_nil_of_length_eq_zero h0)⟩
  ·refine ⟨some ⟨g,0,.none⟩,cap,rfl,mG,by simp,hp,.inr ⟨g,0,us,rfl,by rw [hw]; exact (Array.getElem?_eq_some_iff.1 hg).1,hX g _ hBu (.inl rfl),pP,hc,?_⟩⟩
   rw [hw]; exact gC pb rfl
 have FF:aD c' eA vs:=by rw [← hcs]; exact kQ hV aaX cs vs hl
 have hlen:eA.length=cs.length:=by rw [← hcs,rz]
 have mE:=kh.re (pI:=pI) (cs:=cs.map fun _=>LV.fp) (eA:=eA) (by simp [Mem.del,Mem.put,eO]) (by rw [hB pI eO]; simpa using I0) (by rw [hw]; exact hh) FF h1 (by simpa using hlen)
 have eP:(((Mem.of ml).put pI (.box (cs.map fun _=>LV.fp))).del id).put pI (.box eA)=((Mem.of ml).del id).put pI (.box eA):=by
  funext i
  simp only [Mem.put,Mem.del]
  by_cases Vc:i=pI <;> simp [Vc]
 rw [eP] at mE
 refine ⟨c',hw,⟨fun i=>hV _ _ ?_ (cn.env i),mE,cn.size,cn.defers⟩,?_⟩
 ·clear cn
  induction el with
  | nil=>simp [Env.of,LV.bg]
  | cons p el ih =>
   simp only [List.all_cons,Bool.and_eq_true] at Sy
   simp only [Env.of]
   split
   ·exact Sy.1
   ·exact ih Sy.2
 ·refine ⟨hO,by rw [hw],by rw [hw],by rw [hw],by rw [hw]; exact Nat.le_refl _,by rw [hw]; exact Nat.le_refl _,fun b _ _=>by rw [hw],fun b ho=>.inl (bt b ho),fun i be LF hb=>?_⟩
  exact ⟨be,by rw [hB i (fun h=>kA (h ▸ LF))]; exact hb,.refl be⟩
theorem dV {id k:Nat} {ys:List LV}:LV.gz id k ys []=[]:=by simp [LV.gz]
theorem ay {id k:Nat} {ys:List LV} {x:LV} {cs eA:List LV} (h:x.bg id=true) (hr:LV.gz id k ys cs=eA):LV.gz id k ys (x :: cs)=x :: eA:=by
 simp only [LV.gz,qC x h,hr]
theorem dW {α:Type} {f:α→LV} {id k:Nat} {ys:List α} {cs eA:List LV} (hr:LV.gz id k (ys.map f) cs=eA):LV.gz id k (ys.map f) (.arr id ys.length :: cs)=.lst k (ys.map f) :: eA:=by
 simp [LV.gz,LV.fy,hr]
section
variable {α β γ:Type} {n:Nat} {v w:Option (α × List β)}
end
end Go.L
namespace Go.L
section
variable {P:Program} {N:Nat} {pr:Nat→Prop} {ev:Operand→LV} {m m':Mem} {d:Option Nat} {x y z:Operand} {t ty:TypeId} {pos:String} {af:Array Edge} {gd:Option (Nat × Bool)} {lv:LV} {α β:Type} {f:α→LV} {g:β→LV} {e0 k id n:Nat} {os:List (Nat × Nat × Nat)} {xs:List α} {u:Int} {z0:α} {cs:List LV} {o0:Nat}
theorem cj.mem {o:Oper} {m2:Mem} (h:cj P pr o ev m lv m') (hs:∀ c,cA c m'→cA c m2):cj P pr o ev m lv m2:=by
 intro c a Q bG hm
 refine Oper.wp_mono ?_ (h c a Q bG hm)
 rintro a' w' ⟨v,c',h1,h2,h3,h4,h5⟩
 exact ⟨v,c',h1,h2,h3,hs c' h4,h5⟩
end
theorem cA.adA {c:Cx} {m:Mem} {id e k:Nat} {xs ys:List LV} (hs:fc xs ys) (hp:LV.bf ys=true) (h:cA c (m.put id (.arr e k xs))):cA c (m.put id (.arr e k ys)):=by
 refine ⟨fun i=>?_,h.inj,h.kB,h.xR⟩
 have he:=h.gY i
 by_cases hi:i=id
 ·subst hi
  simp only [Mem.put,if_true,bo] at he ⊢
  obtain ⟨u,vs,h1,h2,h3,h4,h5,h6⟩:=he
  have hl:ys.length=xs.length:=by rw [h4.length,(hs.rep h4).length]
  exact ⟨u,vs,by rw [hl]; exact h1,h2,by rw [hl]; exact h3,hs.rep h4,h5,hp⟩
 ·simp only [Mem.put,hi,if_false] at he ⊢
  exact he
theorem fc.PM {x y:LV} (h:Sub x y):∀ n,fc (List.replicate n x) (List.replicate n y)
 | 0=>trivial
 | n+1=>⟨h,fc.PM h n⟩
end Go.L
namespace Go.L
def Fv:Option BE→Option BE
 | some (.arr u k len _)=>some (.arr (.slice .none 0 0) k (len+1) [])
 | y=>y
def Mem.gone (m:Mem) (id:Nat) (le:LE) (S:List Nat):Mem:=fun i=>if i=id then some le else if i ∈ S then some .dead else m i
theorem cA.UR {pr:Nat→Prop} {c:Cx} {m:Mem} (h:cA c m) (id:Nat) (S:List Nat) (hS:id ∉ S) (hSa:∀ j ∈ S,∃ u k len ins,c.B j=some (.arr u k len ins)) (hSp:∀ j ∈ S,¬ pr j) (le:LE) (be:BE) (w':World)
  (Ka:w'.os=c.w.os) (rI:w'.tape=c.w.tape) (pa:w'.output=c.w.output) (B5:c.w.drawn≤w'.drawn) (iM:c.w.heap.size≤w'.heap.size)
  (iX:∀ b,b<c.w.heap.size→(∀ dA,c.B id=some dA→¬ dA.has b)→w'.heap[b]?=c.w.heap[b]?)
  (hblk:∀ b,be.has b→(∃ dA,c.B id=some dA∧dA.has b) ∨ (∃ j ∈ S,∃ dA,c.B j=some dA∧dA.has b) ∨ c.w.heap.size≤b)
  (hle:jy (c.B id) (some be)) (kA:pr id→∀ dA,c.B id=some dA→dA.jX be)
  (iQ:∀ c':Cx,c'.w=w'→c.Le c'→(∀ i,jy (c.B i) (c'.B i))→c'.O=c.O→(∀ b,c'.own b→be.has b ∨ ∃ j dA,j ≠ id∧c.B j=some dA∧dA.has b)→bo c' (some le) (some be)) :
  ∃ c':Cx,c'.w=w'∧c'.B id=some be∧cA c' (m.gone id le S)∧Step pr c c':=by
 let c':Cx:=⟨w',fun i=>if i=id then some be else if i ∈ S then Fv (c.B i) else c.B i,c.O⟩
 have e1:c'.B id=some be:=by simp [c']
 have e2:∀ i,i ∈ S→c'.B i=Fv (c.B i):=fun i hi=>by
  have:i ≠ id:=fun h=>hS (h ▸ hi)
  simp [c',this,hi]
 have e3:∀ i,i ≠ id→i ∉ S→c'.B i=c.B i:=fun i h1 h2=>by simp [c',h1,h2]
 have key:∀ i b1 b,c'.B i=some b1→b1.has b→(i=id∧be.has b) ∨ (i ≠ id∧i ∉ S∧c.B i=some b1):=by
  intro i b1 b g1 g2
  by_cases hi:i=id
  ·subst hi; rw [e1] at g1; cases g1; exact .inl ⟨rfl,g2⟩
  ·by_cases hs:i ∈ S
   ·rw [e2 i hs] at g1
    obtain ⟨u,k,len,ins,hB⟩:=hSa i hs
    rw [hB] at g1
    simp only [Fv,Option.some.injEq] at g1
    subst g1
    rcases g2 with g2 | g2
    ·simp [Value.ownBlock] at g2
    ·cases g2
   ·rw [e3 i hi hs] at g1; exact .inr ⟨hi,hs,g1⟩
 have bt:∀ b,c'.own b→c.own b ∨ c.w.heap.size≤b:=by
  rintro b ⟨i,ef,h1,h2⟩
  rcases key i ef b h1 h2 with ⟨_,h3⟩ | ⟨_,_,h3⟩
  ·rcases hblk b h3 with ⟨dA,q1,q2⟩ | ⟨j,_,dA,q1,q2⟩ | q
   ·exact .inl ⟨id,dA,q1,q2⟩
   ·exact .inl ⟨j,dA,q1,q2⟩
   ·exact .inr q
  ·exact .inl ⟨i,ef,h3,h2⟩
 have eW:Grow pr c c':=by
  refine ⟨rfl,Ka,rI,pa,B5,iM,fun b hb ho=>iX b hb (fun dA h0 h1=>ho ⟨id,dA,h0,h1⟩),bt,fun i ef hp hb=>?_⟩
  by_cases hi:i=id
  ·subst hi; exact ⟨be,e1,kA hp ef hb⟩
  ·have hs:i ∉ S:=fun hs=>hSp i hs hp
   exact ⟨ef,by rw [e3 i hi hs]; exact hb,.refl ef⟩
 have hble:∀ i,jy (c.B i) (c'.B i):=by
  intro i
  by_cases hi:i=id
  ·subst hi; rw [e1]; exact hle
  ·by_cases hs:i ∈ S
   ·rw [e2 i hs]
    obtain ⟨u,k,len,ins,hB⟩:=hSa i hs
    rw [hB]
    exact ⟨_,_,_,rfl,by omega,fun h=>by omega⟩
   ·rw [e3 i hi hs]; exact jy.refl _
 have Cd:∀ b,c'.own b→be.has b ∨ ∃ j dA,j ≠ id∧c.B j=some dA∧dA.has b:=by
  rintro b ⟨i,ef,h1,h2⟩
  rcases key i ef b h1 h2 with ⟨_,h3⟩ | ⟨q1,_,h3⟩
  ·exact .inl h3
  ·exact .inr ⟨i,ef,q1,h3,h2⟩
 refine ⟨c',rfl,e1,⟨fun i=>?_,?_,?_,?_⟩,eW,hble⟩
 ·by_cases hi:i=id
  ·subst hi; rw [e1]; simp only [Mem.gone,if_true]; exact iQ c' rfl eW.le hble rfl Cd
  ·by_cases hs:i ∈ S
   ·rw [e2 i hs]
    simp only [Mem.gone,hi,hs,if_true,if_false,bo]
    obtain ⟨u,k,len,ins,hB⟩:=hSa i hs
    rw [hB]
    exact ⟨_,_,_,rfl,rfl⟩
   ·rw [e3 i hi hs]
    simp only [Mem.gone,hi,hs,if_false]
    refine (h.gY i).mono eW.le hble fun ef b hb vH=>?_
    refine iX b ((h.gY i).lt hb vH) (fun dA h0 h1=>?_)
    exact hi (h.inj i id ef dA b hb h0 vH h1)
 ·have one:∀ i b1 b,i ≠ id→i ∉ S→c.B i=some b1→b1.has b→be.has b→False:=by
   intro i b1 b h1 h2 h3 h4 h5
   rcases hblk b h5 with ⟨dA,q1,q2⟩ | ⟨j,hj,dA,q1,q2⟩ | q
   ·exact h1 (h.inj i id b1 dA b h3 q1 h4 q2)
   ·exact h2 (h.inj i j b1 dA b h3 q1 h4 q2 ▸ hj)
   ·have:=(h.gY i).lt h3 h4; omega
  intro i i' b1 b2 b h1 h2 h3 h4
  rcases key i b1 b h1 h3 with ⟨q1,q2⟩ | ⟨q1,q2,q3⟩
  ·rcases key i' b2 b h2 h4 with ⟨r1,r2⟩ | ⟨r1,r2,r3⟩
   ·rw [q1,r1]
   ·exact (one i' b2 b r1 r2 r3 h4 q2).elim
  ·rcases key i' b2 b h2 h4 with ⟨r1,r2⟩ | ⟨r1,r2,r3⟩
   ·exact (one i b1 b q1 q2 q3 h3 r2).elim
   ·exact h.inj i i' b1 b2 b q3 r3 h3 h4
 ·intro b ho hO
  rcases bt b ho with ho | hs
  ·exact h.kB b ho hO
  ·have:=h.xR b hO; omega
 ·intro b hO; exact Nat.lt_of_lt_of_le (h.xR b hO) iM
theorem Wk.NW {pr:Nat→Prop} {el:List (Nat × LV)} {ml:List (Nat × LE)} {α:Type} {f:α→LV} (id e k:Nat) (os:List (Nat × Nat × Nat)) (xs:List α) (bX:Mem.of ml id=some (.nest e k os (xs.map f))) (iD:pG k f) :
  Wk pr (Env.of el) (Mem.of ml) (Env.of el) ((Mem.of ml).gone id (.arr e k (xs.map f)) []):=by
 intro N c a cn
 have he:=cn.mem.gY id
 rw [bX] at he
 simp only [bo] at he
 obtain ⟨u,vs,bs,hB,hk,bt,hn,hc,hnd,uO⟩:=he
 obtain ⟨c',hw,hb,h2,h3⟩:=cn.mem.UR (pr:=pr) id [] (by simp) (by simp) (by simp) (.arr e k (xs.map f)) (.arr u k (xs.map f).length []) c.w rfl rfl rfl (Nat.le_refl _) (Nat.le_refl _)
  (fun b _ _=>rfl) (fun b hb=>.inl ⟨_,hB,hb.elim .inl (fun h=>by cases h)⟩) (by rw [hB]; exact ⟨_,_,_,rfl,Nat.le_refl _,fun _=>rfl⟩) (fun _ dA h0=>by rw [hB] at h0; cases h0; exact ⟨_,_,_,rfl,Nat.le_refl _,fun _=>rfl⟩)
  (fun c' hw hle hble hO Cd=>by
   simp only [bo]
   refine ⟨u,vs,rfl,hk,by rw [hw]; exact bt,hn.BV hle hw (fun b hb=>?_),hc,iD.bf xs⟩
   have OT:c.own b:=⟨id,_,hB,.inr hb⟩
   rintro (h | h)
   ·rw [hO] at h; exact cn.mem.kB b OT h
   ·rcases Cd b h with h | ⟨j,dA,q1,q2,q3⟩
    ·rcases h with h | h
     ·exact uO b h hb
     ·cases h
    ·exact q1 (cn.mem.inj j id dA _ b q2 hB q3 (.inr hb)))
 exact ⟨c',hw,⟨fun i=>h3.A4 (cn.env i),h2,cn.size,cn.defers⟩,h3.grow⟩
theorem Wk.kp {pr:Nat→Prop} {el:List (Nat × LV)} {ml:List (Nat × LE)} (id e k pI j:Nat) {cs eA:List LV} (bX:Mem.of ml id=.none) (hk:Nat.ble 1 k=true) (hb:Mem.of ml pI=some (.box cs)) (hj:cs[j]?=some .nil) (hcs:cs.set j (.arr id 0)=eA) (kA:¬ pr id) :
  Wk pr (Env.of el) (Mem.of ml) (Env.of el) (((Mem.of ml).put id (.arr e k [])).put pI (.box eA)):=by
 intro N c a cn
 have eO:pI ≠ id:=fun h=>by rw [h,bX] at hb; cases hb
 have hB:=cn.mem.fresh bX
 obtain ⟨c',hw,jP,h2,h3⟩:=cn.mem.Bw (pr:=pr) id (.arr e k []) (.arr (.slice .none 0 0) k 0 []) c.w rfl rfl rfl (Nat.le_refl _) (Nat.le_refl _)
  (fun b _ _=>rfl) (fun b hb=>by simp [BE.has,Value.ownBlock] at hb) (by rw [hB]; trivial) (fun h=>absurd h kA)
  (fun c' hw hle hble=>by
   simp only [bo]
   exact ⟨.slice .none 0 0,[],rfl,Nat.le_of_ble_eq_true hk,by rw [hw]; exact World.ownsRow_nil c.w 0 e k,by simp [aD],by simp,by simp [LV.bf]⟩)
 have hb2:((Mem.of ml).put id (.arr e k [])) pI=some (.box cs):=by simp only [Mem.put,eO,if_false]; exact hb
 obtain ⟨b,vs,e1,I0,hh,hl,h1⟩:=kV h2 hb2
 have ju:∀ (cs:List LV) (vs:List Value) (j:Nat),aD c' cs vs→cs[j]?=some .nil→aD c' (cs.set j (.arr id 0)) vs:=by
  intro cs
  induction cs with
  | nil=>intro vs j _ h; simp at h
  | cons x xs ih =>
   intro vs j hl hj
   simp only [aD] at hl
   obtain ⟨v,fD,rfl,hv,pP⟩:=hl
   cases j with
   | zero =>
    simp at hj; subst hj
    simp only [ao] at hv
    simp only [List.set_cons_zero,aD]
    refine ⟨v,fD,rfl,?_,pP⟩
    simp only [ao]
    exact ⟨by rw [hv]; rfl,_,_,_,_,jP,Nat.le_refl _,fun _=>hv⟩
   | succ j =>
    simp only [List.set_cons_succ,aD]
    exact ⟨v,fD,rfl,hv,ih fD j pP (by simpa using hj)⟩
 have mE:=h2.re (eA:=eA) hb2 I0 hh (by rw [← hcs]; exact ju cs vs j hl hj) h1 (by rw [← hcs]; simp)
 exact ⟨c',hw,⟨fun i=>h3.A4 (cn.env i),mE,cn.size,cn.defers⟩,h3.grow⟩
def oy (m:Mem) (os:List (Nat × Nat × Nat)):Nat→List LV→List LV→List Nat→Prop
 | _,[],eA,S=>eA=[]∧S=[]
 | o,x :: xs,eA,S=>∃ x' Bx S1 S2,eA=x' :: Bx∧S=S1++S2∧oy m os (o+1) xs Bx S2 ∧
   match os.lookup o with
   | .none=>x'=x∧x.pure=true∧S1=[]
   | some (e,k)=>(x=.nil∧0<k∧x'=.lst k []∧S1=[]) ∨ ∃ id2 ys,x=.arr id2 ys.length∧m id2=some (.arr e k ys)∧x'=.lst k ys∧S1=[id2]
theorem abN {m:Mem} {os:List (Nat × Nat × Nat)} {o:Nat}:oy m os o [] [] []:=⟨rfl,rfl⟩
theorem abP {m:Mem} {os:List (Nat × Nat × Nat)} {o:Nat} {x:LV} {xs Bx:List LV} {S:List Nat} (hl:os.lookup o=.none) (hp:x.pure=true) (h:oy m os (o+1) xs Bx S):oy m os o (x :: xs) (x :: Bx) S :=
 ⟨x,Bx,[],S,rfl,rfl,h,by rw [hl]; exact ⟨rfl,hp,rfl⟩⟩
theorem abZ {m:Mem} {os:List (Nat × Nat × Nat)} {o e k:Nat} {xs Bx:List LV} {S:List Nat} (hl:os.lookup o=some (e,k)) (hk:Nat.ble 1 k=true) (h:oy m os (o+1) xs Bx S):oy m os o (.nil :: xs) (.lst k [] :: Bx) S :=
 ⟨.lst k [],Bx,[],S,rfl,rfl,h,by rw [hl]; exact .inl ⟨rfl,Nat.le_of_ble_eq_true hk,rfl,rfl⟩⟩
theorem abA {α:Type} {g:α→LV} {ys:List α} {m:Mem} {os:List (Nat × Nat × Nat)} {o e k id2:Nat} {xs Bx:List LV} {S:List Nat} (hl:os.lookup o=some (e,k)) (hm:m id2=some (.arr e k (ys.map g))) (h:oy m os (o+1) xs Bx S):oy m os o (.arr id2 ys.length :: xs) (.lst k (ys.map g) :: Bx) (id2 :: S) :=
 ⟨.lst k (ys.map g),Bx,[id2],S,rfl,rfl,h,by rw [hl]; exact .inr ⟨id2,ys.map g,by simp,hm,rfl,rfl⟩⟩
def oi:Option BE→List Nat
 | some (.arr u _ _ _)=>u.ownBlock.toList
 | _=>[]
def jY (c:Cx) (S:List Nat):List Nat:=S.flatMap fun j=>oi (c.B j)
theorem rn {c:Cx} {S:List Nat} {b:Nat} (h:b ∈ jY c S):∃ j ∈ S,∃ be,c.B j=some be∧be.has b:=by
 simp only [jY,List.mem_flatMap] at h
 obtain ⟨j,hj,hb⟩:=h
 refine ⟨j,hj,?_⟩
 cases hB:c.B j with
 | none=>simp [oi,hB] at hb
 | some be =>
  cases be with
  | box _ _=>simp [oi,hB] at hb
  | mp _=>simp [oi,hB] at hb
  | arr u k len ins=>rw [hB] at hb; exact ⟨_,rfl,.inl (by simpa [oi] using hb)⟩
theorem vj {c:Cx} {m:Mem} (hM:cA c m):∀ {S:List Nat},S.Nodup→(jY c S).Nodup
 | [],_=>by simp [jY]
 | j :: S,h=>by
  have h':=List.nodup_cons.1 h
  have:jY c (j :: S)=oi (c.B j)++jY c S:=by simp [jY]
  rw [this,List.nodup_append]
  refine ⟨?_,vj hM h'.2,?_⟩
  ·cases hB:c.B j with
   | none=>simp [oi]
   | some be =>
    cases be with
    | box _ _=>simp [oi]
    | mp _=>simp [oi]
    | arr u k len ins=>cases hu:u.ownBlock <;> simp [oi,hu]
  ·intro a ha b hb qo
   subst qo
   obtain ⟨j1,Vd,VL,q1,q2⟩:=rn (c:=c) (S:=[j]) (b:=a) (by simpa [jY] using ha)
   obtain ⟨j2,Lt,Hh,q3,q4⟩:=rn hb
   have hjj:=hM.inj j1 j2 VL Hh a q1 q3 q2 q4
   simp at Vd
   rw [← Vd,hjj] at h'
   exact h'.1 Lt
theorem oy.ids {m:Mem} {os:List (Nat × Nat × Nat)}:∀ {o:Nat} {cs eA:List LV} {S:List Nat},oy m os o cs eA S→∀ j ∈ S,∃ e k ys,m j=some (.arr e k ys)
 | _,[],_,_,h=>by simp only [oy] at h; rw [h.2]; simp
 | o,x :: xs,eA,S,h=>by
  simp only [oy] at h
  obtain ⟨x',Bx,S1,S2,rfl,rfl,h1,h2⟩:=h
  intro j hj
  rcases List.mem_append.1 hj with hj | hj
  ·split at h2
   ·rw [h2.2.2] at hj; cases hj
   ·rename_i e k _
    rcases h2 with ⟨_,_,_,rfl⟩ | ⟨id2,ys,_,hm,_,rfl⟩
    ·cases hj
    ·simp at hj; subst hj; exact ⟨e,k,ys,hm⟩
  ·exact h1.ids j hj
theorem oy.rep {c c':Cx} {m:Mem} (hM:cA c m) (hle:c.Le c') {os:List (Nat × Nat × Nat)}:∀ {o:Nat} {cs eA:List LV} {S:List Nat} {ws:List Value},oy m os o cs eA S→aD c cs ws→(∀ b ∈ jY c S,c'.w.heap[b]?=c.w.heap[b]?)→je c' os o eA ws (jY c S)
 | _,[],_,_,ws,h,hl,_=>by
  simp only [oy] at h
  obtain ⟨rfl,rfl⟩:=h
  simp only [aD] at hl
  simp only [je]; exact ⟨hl,by simp [jY]⟩
 | o,x :: xs,eA,S,ws,h,hl,hh=>by
  simp only [oy] at h
  obtain ⟨x',Bx,S1,S2,rfl,rfl,h1,h2⟩:=h
  simp only [aD] at hl
  obtain ⟨w,Ko,rfl,hw,pP⟩:=hl
  have hb:jY c (S1++S2)=jY c S1++jY c S2:=by simp [jY]
  rw [hb] at hh ⊢
  simp only [je]
  refine ⟨w,Ko,jY c S1,jY c S2,rfl,rfl,?_,oy.rep hM hle h1 pP (fun b hb=>hh b (by simp [hb]))⟩
  unfold fS
  split at h2
  ·rename_i hlk
   obtain ⟨rfl,hp,rfl⟩:=h2
   rw [hlk]
   exact ⟨ao.mono hle _ w (fun id bX=>by rw [il _ hp] at bX; cases bX) hw,hp,by simp [jY]⟩
  ·rename_i e k hlk
   rw [hlk]
   rcases h2 with ⟨rfl,hk,rfl,rfl⟩ | ⟨id2,ys,rfl,hm,rfl,rfl⟩
   ·simp only [ao] at hw
    subst hw
    exact .inr ⟨[],[],rfl,hk,World.ownsRow_nil c'.w 0 e k,by simp [aD],by simp,rfl,by simp [jY,Value.ownBlock]⟩
   ·obtain ⟨us,hB,hk,bt,Cg,hc,hp⟩:=gi hM hw hm rfl
    refine .inr ⟨ys,us,rfl,hk,c9 bt (fun b hb=>hh b ?_),aD.mono hle ys us (fun j hj=>by rw [az ys hp] at hj; cases hj) Cg,hc,hp,by simp [jY,hB,oi]⟩
    simp [jY,hB,oi,hb]
section
variable {P:Program} {N:Nat} {pr:Nat→Prop} {ev:Operand→LV} {m m':Mem} {d:Option Nat} {x y z:Operand} {t ty:TypeId} {pos:String} {af:Array Edge} {gd:Option (Nat × Bool)} {lv:LV} {α β:Type} {f:α→LV} {g:β→LV} {e0 k id n:Nat} {os:List (Nat × Nat × Nat)}
end
end Go.L
namespace Go.L
theorem Sub.lst {k:Nat} {xs ys:List LV} (h:fc xs ys) (hp:LV.bf ys=true):Sub (.lst k xs) (.lst k ys):=fun c v hv=>by
 simp only [ao] at hv ⊢
 obtain ⟨a,cap,rfl,h1,h2,h3,h4⟩:=hv
 have hl:∀ {xs ys:List LV},fc xs ys→xs.length=ys.length:=by
  intro xs
  induction xs with
  | nil=>intro ys h; cases ys with
   | nil=>rfl
   | cons y ys=>cases h
  | cons x xs ih=>intro ys h; cases ys with
   | nil=>cases h
   | cons y ys=>simp [ih h.2]
 refine ⟨a,cap,by rw [hl h],by rw [← hl h]; exact h1,h2,hp,?_⟩
 rcases h4 with rfl | ⟨b,off,vs,q1,q2,q3,q4,q5⟩
 ·left; exact List.eq_nil_of_length_eq_zero (by rw [← hl h]; rfl)
 ·exact .inr ⟨b,off,vs,q1,q2,q3,h.rep q4,q5⟩
section
variable {P:Program} {N:Nat} {pr:Nat→Prop} {ev:Operand→LV} {m m':Mem} {d:Option Nat} {x y z:Operand} {t ty:TypeId} {pos:String} {af:Array Edge} {gd:Option (Nat × Bool)} {lv:LV} {α β:Type} {f:α→LV} {g:β→LV} {e0 k id n:Nat} {os:List (Nat × Nat × Nat)} {xs:List α} {u:Int} {z0:α} {cs:List LV} {o0:Nat}
theorem cj.res {o:Oper} {yn:LV} (h:cj P pr o ev m lv m') (hs:Sub lv yn):cj P pr o ev m yn m':=by
 intro c a Q bG hm
 refine Oper.wp_mono ?_ (h c a Q bG hm)
 rintro a' w' ⟨v,c',h1,h2,h3,h4,h5⟩
 exact ⟨v,c',h1,h2,hs c' v h3,h4,h5⟩
theorem okN {k:Nat}:tO k []:=fun x hx=>by cases hx
theorem XY {k:Nat} {x:LV} {xs:List LV} (h1:x.pure=true) (h2:x.cells.length=k) (h3:x.cells.all LV.scalar=true) (h:tO k xs):tO k (x :: xs):=fun y hy=>by
 rcases List.mem_cons.1 hy with rfl | hy
 ·exact ⟨h1,h2,h3⟩
 ·exact h y hy
theorem MS {nn el kk:Nat} {ps:List (Nat × Operand)} {ls:List LV} {ys:List α} (he:telem P t=some el) (hr:fP P el=true) (hk:tsize P el=kk) (hb:Nat.ble (nn * kk) 16777216=true) (hi:ps.map (·.1)=List.range nn) (hv:(ps.map fun p=>ev p.2)=ls) (iD:tO kk ls) (hs:fc ls (ys.map f)) (hf:pG kk f) :
  cj P pr ⟨d,.buildSlice t nn ps.toArray,ty,pos,af,gd⟩ ev m (.lst kk (ys.map f)) m:=by
 subst hk
 obtain ⟨lv,m',⟨rfl,rfl⟩,h⟩:=kM (ro:=[]) (K:=fun lv m'=>lv=.lst (tsize P el) ls∧m'=m) (P:=P) (pr:=pr) (o:=⟨d,.buildSlice t nn ps.toArray,ty,pos,af,gd⟩) (ev:=ev) (m:=m)
  (by rw [LOp_buildSlice,he]; exact ⟨hr,Nat.le_of_ble_eq_true hb,hi,by rw [hv]; exact iD,by rw [hv]; exact ⟨rfl,rfl⟩⟩)
 exact h.res (Sub.lst hs (hf.bf ys))
theorem MW {i el kk:Nat} {zc:LV} {z:α} {r:List α} (hi:100+i=id) (he:telem P t=some el) (hz:tzero P el=some zc) (hr:fP P el=true) (hk:tsize P el=kk) (hx:ev x=.int .i64 u) (hy:ev y=.int .i64 u) (hp:zc.pure=true) (hs:Sub zc (f z)) (iD:pG kk f) (hl:yo z u=some r) (hf:m id=.none) :
  cj P pr ⟨some i,.makeSlice t x y,ty,pos,af,gd⟩ ev m (.arr id r.length) (m.put id (.arr el kk (r.map f))):=by
 have pP:yo zc u=some (List.replicate r.length zc):=by
  unfold yo at hl ⊢
  split at hl
  ·rename_i h0; cases hl; simp [h0]
  ·cases hl
 have hrr:r=List.replicate r.length z:=by
  unfold yo at hl
  split at hl
  ·cases hl; simp
  ·cases hl
 obtain ⟨lv,m',⟨rfl,rfl⟩,h⟩:=kM (ro:=[]) (K:=fun lv m'=>lv=.arr id r.length∧m'=m.put id (.arr el kk ((List.replicate r.length zc).map fun x=>x))) (P:=P) (pr:=pr) (o:=⟨some i,.makeSlice t x y,ty,pos,af,gd⟩) (ev:=ev) (m:=m)
  (QX (f:=fun x:LV=>x) hi he hz hr hk hx hy hp pP hf ⟨by simp,rfl⟩)
 refine h.mem fun c hc=>?_
 have pe:fc ((List.replicate r.length zc).map fun x=>x) (r.map f):=by
  rw [List.map_id']
  conv=>rhs; rw [hrr]
  rw [List.map_replicate]
  exact fc.PM hs _
 exact cA.adA pe (iD.bf r) hc
end
theorem aF.BV {P:Program} {fn:Nat} {args:List LV} {α:Type} {f:α→LV} {id n e k:Nat} {xs:List α} (h:aF P fn args (Mem.of []) (.arr id n) (Mem.of [(id,.arr e k (xs.map f))])) (hn:n=xs.length):aF P fn args (Mem.of []) (.lst k (xs.map f)) (Mem.of []):=by
 intro c vs hM hv
 refine (h c vs hM hv).mono ?_
 rintro en w' ⟨v,c1,rfl,rfl,mr,hr,hg⟩
 obtain ⟨us,hB,hk,bt,hl,hc,hp⟩:=gi (e:=e) (k:=k) (xs:=xs.map f) mr hr (by simp [Mem.of]) (by simpa using hn)
 obtain ⟨c',hw,hO,kh,hV,pb,hX,kY⟩:=mr.del id (by
  intro i ds hi hd
  simp [Mem.of,hi] at hd)
 have hle:c1.Le c':=⟨by rw [hw]; exact Nat.le_refl _,fun b _ hx=>⟨by rw [hw],fun pR=>hx (pR.imp (fun h=>by rw [hO] at h; exact h) (pb b))⟩⟩
 have hmm:(Mem.of [(id,.arr e k (xs.map f))]).del id=Mem.of []:=by
  funext i
  simp only [Mem.del,Mem.of]
  by_cases hi:i=id <;> simp [hi]
 rw [hmm] at kh
 refine ⟨v,c',rfl,hw,kh,?_,?_⟩
 ·simp only [ao]
  have pP:=aD.mono hle (xs.map f) us (fun j hj=>by rw [az _ hp] at hj; cases hj) hl
  rcases bt.2 with ⟨rfl,h0⟩ | ⟨g,cap,cur,rfl,_,ye,mG,_⟩
  ·exact ⟨.none,0,by rw [h0],by omega,fun _=>rfl,hp,.inl (List.eq_nil_of_length_eq_zero h0)⟩
  ·refine ⟨some ⟨g,0,.none⟩,cap,rfl,mG,by simp,hp,.inr ⟨g,0,us,rfl,by rw [hw]; exact (Array.getElem?_eq_some_iff.1 ye).1,hX g _ hB (.inl rfl),pP,hc,?_⟩⟩
   rw [hw]; exact gC bt rfl
 ·refine hg.trans ⟨hO,by rw [hw],by rw [hw],by rw [hw],by rw [hw]; exact Nat.le_refl _,by rw [hw]; exact Nat.le_refl _,fun b _ _=>by rw [hw],fun b ho=>.inl (pb b ho),fun i be LF hb=>?_⟩
  simp [Mem.of] at LF
theorem mD {P:Program} {pr:Nat→Prop} {ro:List Nat} {ops:Array Oper} {l:List Oper} {eh:List Nat} {KE:Env→Mem→Prop} {e:Env} {m:Mem} {lv:LV} {le:LE} {i md id:Nat} {op:Op} {ty:TypeId} {pos:String} {af:Array Edge} (bX:gA md=id) (FH:Vl md=true) (hm:m id=some le) (h:RU P pr ro ⟨some i,op,ty,pos,af,.none⟩ (dZ e) id le lv) (hr:cE P pr ro ops (List.zip l eh) KE (e.put i lv) m):cE P pr ro ops (List.zip (⟨some i,op,ty,pos,af,.none⟩ :: l) (md :: eh)) KE e m:=by
 subst bX
 have h1:1000≤md∧md<100000:=by simpa [Vl] using FH
 show gx P pr ro ops md _ _ e m
 unfold gx
 have hg:Go.L.gd ops ⟨some i,op,ty,pos,af,.none⟩ e=some true:=rfl
 rw [hg]
 simp only
 split
 ·omega
 ·omega
 ·omega
 ·omega
 ·rw [if_neg (by omega),if_pos h1.2]
  exact ⟨lv,le,hm,h,hr⟩
theorem mW {P:Program} {pr:Nat→Prop} {ro:List Nat} {ops:Array Oper} {l:List Oper} {eh:List Nat} {KE:Env→Mem→Prop} {e:Env} {m:Mem} {lv:LV} {le po:LE} {i md id:Nat} {op:Op} {ty:TypeId} {pos:String} {af:Array Edge} (bX:gA md=id) (FH:(Nat.ble 100000 md && Nat.blt md 1000000000)=true) (hm:m id=some le) (h:RV P pr ro ⟨some i,op,ty,pos,af,.none⟩ (dZ e) id le po lv) (hr:cE P pr ro ops (List.zip l eh) KE (e.put i lv) (m.over (Mem.of [(id,po)]))):cE P pr ro ops (List.zip (⟨some i,op,ty,pos,af,.none⟩ :: l) (md :: eh)) KE e m:=by
 subst bX
 have h1:100000≤md∧md<1000000000:=by simpa using FH
 show gx P pr ro ops md _ _ e m
 unfold gx
 have hg:Go.L.gd ops ⟨some i,op,ty,pos,af,.none⟩ e=some true:=rfl
 rw [hg]
 simp only
 split
 ·omega
 ·omega
 ·omega
 ·omega
 ·rw [if_neg (by omega),if_neg (by omega),if_pos h1.2]
  exact ⟨lv,le,po,hm,h,hr⟩
theorem mS {P:Program} {pr:Nat→Prop} {ro:List Nat} {ops:Array Oper} {l:List Oper} {eh:List Nat} {KE:Env→Mem→Prop} {e:Env} {m:Mem} {lv:LV} {le po:LE} {md id:Nat} {op:Op} {ty:TypeId} {pos:String} {af:Array Edge} (bX:gA md=id) (FH:(Nat.ble 100000 md && Nat.blt md 1000000000)=true) (hm:m id=some le) (h:∀ m0:Mem,m0 id=some le→∀ K':LV→Mem→Prop,K' lv (m0.put id po)→LOp P pr ro ⟨.none,op,ty,pos,af,.none⟩ (dZ e) m0 K') (hr:cE P pr ro ops (List.zip l eh) KE e (m.put id po)):cE P pr ro ops (List.zip (⟨.none,op,ty,pos,af,.none⟩ :: l) (md :: eh)) KE e m:=by
 subst bX
 have h1:100000≤md∧md<1000000000:=by simpa using FH
 show gx P pr ro ops md _ _ e m
 unfold gx
 have hg:Go.L.gd ops ⟨.none,op,ty,pos,af,.none⟩ e=some true:=rfl
 rw [hg]
 simp only
 split
 ·omega
 ·omega
 ·omega
 ·omega
 ·rw [if_neg (by omega),if_neg (by omega),if_pos h1.2]
  refine ⟨lv,le,po,hm,fun m0 h0 K' hK=>h m0 h0 K' (by rw [← rW]; exact hK),?_⟩
  rw [rW]; exact hr
theorem Vn {P:Program} {pr:Nat→Prop} {ro:List Nat} {ops:Array Oper} {l:List Oper} {eh:List Nat} {KE:Env→Mem→Prop} {e:Env} {m m':Mem} {lv:LV} {i md:Nat} {op:Op} {ty:TypeId} {pos:String} {af:Array Edge} (FH:Nat.ble 1000000000 md=true) (h:oW P pr ⟨some i,op,ty,pos,af,.none⟩ (dZ e) (Qp md) m lv m') (hr:cE P pr ro ops (List.zip l eh) KE (e.put i lv) m'):cE P pr ro ops (List.zip (⟨some i,op,ty,pos,af,.none⟩ :: l) (md :: eh)) KE e m:=by
 have h1:1000000000≤md:=by simpa using FH
 show gx P pr ro ops md _ _ e m
 unfold gx
 have hg:Go.L.gd ops ⟨some i,op,ty,pos,af,.none⟩ e=some true:=rfl
 rw [hg]
 simp only
 split
 ·omega
 ·omega
 ·omega
 ·omega
 ·rw [if_neg (by omega),if_neg (by omega),if_neg (by omega)]
  exact ⟨lv,m',h,hr⟩
theorem mM {P:Program} {pr:Nat→Prop} {ro:List Nat} {ops:Array Oper} {l:List Oper} {eh:List Nat} {KE:Env→Mem→Prop} {e:Env} {m:Mem} {lv:LV} {i:Nat} {op:Op} {ty:TypeId} {pos:String} {af:Array Edge} (h:∀ m0,bI P pr ⟨some i,op,ty,pos,af,.none⟩ (dZ e) m0 lv m0) (hr:cE P pr ro ops (List.zip l eh) KE (e.put i lv) m):cE P pr ro ops (List.zip (⟨some i,op,ty,pos,af,.none⟩ :: l) (4 :: eh)) KE e m:=⟨lv,h,hr⟩
def Env.look (e:Env):List (Nat × LV)→List (Nat × LV)
 | []=>[]
 | (i,_) :: r=>(i,e i) :: Env.look e r
def Mem.look (m:Mem):List (Nat × LE)→List (Nat × Option LE)
 | []=>[]
 | (i,_) :: r=>(i,m i) :: Mem.look m r
def KI:List (Nat × LE)→List (Nat × Option LE)
 | []=>[]
 | (i,x) :: r=>(i,some x) :: KI r
theorem look_eq {e:Env}:∀ {el:List (Nat × LV)},Env.look e el=el→Kq e el
 | [],_=>trivial
 | (i,v) :: r,h=>by
  simp only [Env.look,List.cons.injEq,Prod.mk.injEq,true_and] at h
  exact ⟨h.1,look_eq h.2⟩
theorem pt {m:Mem}:∀ {ml:List (Nat × LE)},Mem.look m ml=KI ml→kc m ml
 | [],_=>trivial
 | (i,v) :: r,h=>by
  simp only [Mem.look,KI,List.cons.injEq,Prod.mk.injEq,true_and] at h
  exact ⟨h.1,pt h.2⟩
theorem Wk.eq {lA ml:List (Nat × LE)} {el:List (Nat × LV)} {e:Env} {m:Mem} (he:Env.look e el=el) (hm:Mem.look m ml=KI ml) (hr:aQ (el.map fun p=>(p.1,e p.1)) ml=true) (kA:(lA.all fun p=>ml.any fun q=>q.1 == p.1)=true):Wk (fun id=>Mem.of lA id ≠ .none) e m (Env.of el) (Mem.of ml):=Wk.to (eQ (look_eq he)) (pt hm) hr (cF kA)
theorem zS {P:Program} {N:Nat} {ops:Array Oper} {lA ml:List (Nat × LE)} {el:List (Nat × LV)} {e:Env} {m:Mem} (he:Env.look e el=el:=by exact rfl) (hm:Mem.look m ml=KI ml:=by exact rfl) (hr:aQ (el.map fun p=>(p.1,e p.1)) ml=true:=by exact rfl) (kA:(lA.all fun p=>ml.any fun q=>q.1 == p.1)=true:=by exact rfl):cH P N (fun id=>Mem.of lA id ≠ .none) ops [] (fun e m=>Wk (fun id=>Mem.of lA id ≠ .none) e m (Env.of el) (Mem.of ml)) e m:=s0 (Wk.eq he hm hr kA)
theorem zM {P:Program} {ro:List Nat} {ops:Array Oper} {lA ml:List (Nat × LE)} {el:List (Nat × LV)} {e:Env} {m:Mem} (he:Env.look e el=el:=by exact rfl) (hm:Mem.look m ml=KI ml:=by exact rfl) (hr:aQ (el.map fun p=>(p.1,e p.1)) ml=true:=by exact rfl) (kA:(lA.all fun p=>ml.any fun q=>q.1 == p.1)=true:=by exact rfl):cE P (fun id=>Mem.of lA id ≠ .none) ro ops (List.zip [] []) (fun e m=>Wk (fun id=>Mem.of lA id ≠ .none) e m (Env.of el) (Mem.of ml)) e m:=m0 (Wk.eq he hm hr kA)
theorem zQ {P:Program} {N:Nat} {pr:Nat→Prop} {ops:Array Oper} {e:Env} {m:Mem}:cH P N pr ops [] (fun e1 m1=>e1=e∧m1=m) e m:=s0 ⟨rfl,rfl⟩
theorem LH.aJ {P:Program} {N:Nat} {pr:Nat→Prop} {l:List Oper} {xV:Nat} {Q:Exit→Env→Mem→Prop} {e m e' m'} (hd:gX N l=true) (h:cH P N pr l.toArray l (fun e1 m1=>e1=e'∧m1=m') e m) (hr:Q .normal e' m'):LH P N pr (.region xV l.toArray false) Q e m:=by
 obtain ⟨e2,m2,hK,dD⟩:=h (pN hd) (by simp)
 obtain ⟨rfl,rfl⟩:=hK
 refine ⟨.normal,_,_,fun c a hr=>?_,hr⟩
 refine wp_region ?_
 rw [List.size_toArray,List.range_eq_range',wpOps_eq_wpList l 0 (by simp)]
 exact dD c a hr
theorem LH.ae {P:Program} {N:Nat} {pr:Nat→Prop} {l:List Oper} {xV:Nat} {yc:Code} {Q:Exit→Env→Mem→Prop} {e m e' m'} (hd:gX N l=true) (h:cH P N pr l.toArray l (fun e1 m1=>e1=e'∧m1=m') e m) (hr:LH P N pr yc Q e' m'):LH P N pr (.seq (.region xV l.toArray false) yc) Q e m :=
 LH.seq (LH.aJ hd h hr)
theorem R {α:Type} {a:α}:a=a:=rfl
abbrev VB:List LV:=[.I 0,.I 0,.str (ByteArray.mk #[]),.nil,.nil]
abbrev tN (l:List LV):LE:=.nest 179 5 [(1,108,5),(2,4,1),(3,182,3)] l
theorem wE9 {lA:List (Nat × LE)} {e:Env} {m:Mem} (el:List (Nat × LV)) (ml:List (Nat × LE)) (he:Env.look e el=el:=by exact rfl) (hm:Mem.look m ml=KI ml:=by exact rfl) (hr:aQ (el.map fun p=>(p.1,e p.1)) ml=true:=by exact rfl) (kA:(lA.all fun p=>ml.any fun q=>q.1 == p.1)=true:=by exact rfl):Wk (fun id=>Mem.of lA id ≠ .none) e m (Env.of el) (Mem.of ml):=Wk.eq he hm hr kA
theorem aT {α:Type} {a b:Array α} (h:a=b):a.toList=b.toList:=congrArg Array.toList h
theorem oI {α:Type} {a b:α} (h:some a=some b):a=b:=Option.some.inj h
theorem nT {a b n:Nat} (h:n=b) (h2:Nat.ble a b=true):a≤n:=by rw [h]; exact Nat.le_of_ble_eq_true h2
theorem cB {a b:Bool} (h:a=b):LV.bool a=LV.bool b:=congrArg LV.bool h
theorem aM {pr:Nat→Prop} {I:Nat→Env→Mem→Prop} {n:Nat} {Q:Exit→Env→Mem→Prop} {e e':Env} {m m':Mem} (h:I n e' m') (hw:Wk pr e m e' m'):tl pr I (n+1) Q .normal e m:=Uz hw h
section
variable {P:Program} {N:Nat} {pr:Nat→Prop} {ops:Array Oper} {l:List Oper} {KE:Env→Mem→Prop} {e:Env} {m:Mem} {i:Nat} {x:Operand} {ty:TypeId} {pos:String} {af:Array Edge}
theorem aN {k:IntKind} {n:Int} (h:dZ e x=(.int k n)) (hr:cH P N pr ops l KE (e.put i (.int k n)) m):cH P N pr ops (⟨some i,.move x,ty,pos,af,.none⟩ :: l) KE e m:=sN (oM h hr)
theorem bS {b:Bool} (h:dZ e x=(.bool b)) (hr:cH P N pr ops l KE (e.put i (.bool b)) m):cH P N pr ops (⟨some i,.move x,ty,pos,af,.none⟩ :: l) KE e m:=sN (oM h hr)
theorem dC {k:Nat} {xs:List LV} (h:dZ e x=(.lst k xs)) (hr:cH P N pr ops l KE (e.put i (.lst k xs)) m):cH P N pr ops (⟨some i,.move x,ty,pos,af,.none⟩ :: l) KE e m:=sN (oM h hr)
theorem lh {id n:Nat} (h:dZ e x=(.arr id n)) (hr:cH P N pr ops l KE (e.put i (.arr id n)) m):cH P N pr ops (⟨some i,.move x,ty,pos,af,.none⟩ :: l) KE e m:=sN (oM h hr)
theorem fW {id o:Nat} (h:dZ e x=(.ptr id o)) (hr:cH P N pr ops l KE (e.put i (.ptr id o)) m):cH P N pr ops (⟨some i,.move x,ty,pos,af,.none⟩ :: l) KE e m:=sN (oM h hr)
theorem sG {cs:List LV} (h:dZ e x=(.tup cs)) (hr:cH P N pr ops l KE (e.put i (.tup cs)) m):cH P N pr ops (⟨some i,.move x,ty,pos,af,.none⟩ :: l) KE e m:=sN (oM h hr)
theorem aX {k:IntKind} {n:Int} (h:dZ e x=(.int k n)) (hr:cH P N pr ops l KE (e.put i (.int k n)) m):cH P N pr ops (⟨some i,.assign x,ty,pos,af,.none⟩ :: l) KE e m:=sN (oA h hr)
theorem bK {b:Bool} (h:dZ e x=(.bool b)) (hr:cH P N pr ops l KE (e.put i (.bool b)) m):cH P N pr ops (⟨some i,.assign x,ty,pos,af,.none⟩ :: l) KE e m:=sN (oA h hr)
theorem kE  (h:dZ e x=.nil) (hr:cH P N pr ops l KE (e.put i .nil) m):cH P N pr ops (⟨some i,.assign x,ty,pos,af,.none⟩ :: l) KE e m:=sN (oA h hr)
theorem qV {k:Nat} {xs:List LV} (h:dZ e x=(.lst k xs)) (hr:cH P N pr ops l KE (e.put i (.lst k xs)) m):cH P N pr ops (⟨some i,.assign x,ty,pos,af,.none⟩ :: l) KE e m:=sN (oA h hr)
theorem sE {id n:Nat} (h:dZ e x=(.arr id n)) (hr:cH P N pr ops l KE (e.put i (.arr id n)) m):cH P N pr ops (⟨some i,.assign x,ty,pos,af,.none⟩ :: l) KE e m:=sN (oA h hr)
theorem sAp {id o:Nat} (h:dZ e x=(.ptr id o)) (hr:cH P N pr ops l KE (e.put i (.ptr id o)) m):cH P N pr ops (⟨some i,.assign x,ty,pos,af,.none⟩ :: l) KE e m:=sN (oA h hr)
end
section
variable {P:Program} {pr:Nat→Prop} {ro:List Nat} {ops:Array Oper} {l:List Oper} {eh:List Nat} {KE:Env→Mem→Prop} {e:Env} {m:Mem} {i:Nat} {x:Operand} {ty:TypeId} {pos:String} {af:Array Edge}
theorem gu {k:IntKind} {n:Int} (h:dZ e x=(.int k n)) (hr:cE P pr ro ops (List.zip l eh) KE (e.put i (.int k n)) m):cE P pr ro ops (List.zip (⟨some i,.move x,ty,pos,af,.none⟩ :: l) (0 :: eh)) KE e m:=aI (oM h ⟨rfl,hr⟩)
theorem Kf {k:IntKind} {n:Int} (h:dZ e x=(.int k n)) (hr:cE P pr ro ops (List.zip l eh) KE (e.put i (.int k n)) m):cE P pr ro ops (List.zip (⟨some i,.assign x,ty,pos,af,.none⟩ :: l) (0 :: eh)) KE e m:=aI (oA h ⟨rfl,hr⟩)
theorem qg {b:Bool} (h:dZ e x=(.bool b)) (hr:cE P pr ro ops (List.zip l eh) KE (e.put i (.bool b)) m):cE P pr ro ops (List.zip (⟨some i,.move x,ty,pos,af,.none⟩ :: l) (0 :: eh)) KE e m:=aI (oM h ⟨rfl,hr⟩)
theorem mAb {b:Bool} (h:dZ e x=(.bool b)) (hr:cE P pr ro ops (List.zip l eh) KE (e.put i (.bool b)) m):cE P pr ro ops (List.zip (⟨some i,.assign x,ty,pos,af,.none⟩ :: l) (0 :: eh)) KE e m:=aI (oA h ⟨rfl,hr⟩)
theorem nM {k:Nat} {xs:List LV} (h:dZ e x=(.lst k xs)) (hr:cE P pr ro ops (List.zip l eh) KE (e.put i (.lst k xs)) m):cE P pr ro ops (List.zip (⟨some i,.move x,ty,pos,af,.none⟩ :: l) (0 :: eh)) KE e m:=aI (oM h ⟨rfl,hr⟩)
theorem mAl {k:Nat} {xs:List LV} (h:dZ e x=(.lst k xs)) (hr:cE P pr ro ops (List.zip l eh) KE (e.put i (.lst k xs)) m):cE P pr ro ops (List.zip (⟨some i,.assign x,ty,pos,af,.none⟩ :: l) (0 :: eh)) KE e m:=aI (oA h ⟨rfl,hr⟩)
theorem Oh {id n:Nat} (h:dZ e x=(.arr id n)) (hr:cE P pr ro ops (List.zip l eh) KE (e.put i (.arr id n)) m):cE P pr ro ops (List.zip (⟨some i,.move x,ty,pos,af,.none⟩ :: l) (0 :: eh)) KE e m:=aI (oM h ⟨rfl,hr⟩)
theorem uy {id o:Nat} (h:dZ e x=(.ptr id o)) (hr:cE P pr ro ops (List.zip l eh) KE (e.put i (.ptr id o)) m):cE P pr ro ops (List.zip (⟨some i,.move x,ty,pos,af,.none⟩ :: l) (0 :: eh)) KE e m:=aI (oM h ⟨rfl,hr⟩)
theorem mMt {cs:List LV} (h:dZ e x=(.tup cs)) (hr:cE P pr ro ops (List.zip l eh) KE (e.put i (.tup cs)) m):cE P pr ro ops (List.zip (⟨some i,.move x,ty,pos,af,.none⟩ :: l) (0 :: eh)) KE e m:=aI (oM h ⟨rfl,hr⟩)
theorem mMf {k:Nat} {cs:List LV} (h:dZ e x=(.fn k cs)) (hr:cE P pr ro ops (List.zip l eh) KE (e.put i (.fn k cs)) m):cE P pr ro ops (List.zip (⟨some i,.move x,ty,pos,af,.none⟩ :: l) (0 :: eh)) KE e m:=aI (oM h ⟨rfl,hr⟩)
end
structure FnV (α:Type) where
 f:Nat
 c:List LV
 m:Option α
 hc:LV.bf c=true
instance {α:Type}:Inhabited (FnV α):=⟨⟨0,[],.none,rfl⟩⟩
theorem FnV.refs {α:Type} (x:FnV α):LV.b6 x.c=[]:=eK x.hc
theorem fnN {α:Type} {Q:α→Prop}:∀ x ∈ ([]:List α),Q x:=fun x hx=>by cases hx
theorem fnC {α:Type} {Q:α→Prop} {x:α} {xs:List α} (h:Q x) (hr:∀ y ∈ xs,Q y):∀ y ∈ x :: xs,Q y:=fun y hy=>by
 rcases List.mem_cons.1 hy with rfl | hy
 ·exact h
 ·exact hr y hy
end Go.L
namespace Go.L
variable {P:Program} {d:Nat} {t:TypeId}
def u5 (P:Program) (d:Nat) (t:TypeId) (v u:Value) (b:Bool):Prop:=∀ w,(Op.equalIn d t v u).run P w=.ok b w
def Ov (P:Program) (d:Nat) (xs ys:Array Value) (fs:List Field) (b:Bool):Prop:=∀ w,(Op.eqFields d xs ys fs).run P w=.ok b w
theorem K3 {k:IntKind} {a b:Int} (h:P.underlying t=some (.int k)):u5 P (d+1) t (.int k a) (.int k b) (a == b):=fun w=>run_equalIn_int w d t k k a b h
theorem eqS {xs ys:Array Value} {b:Bool} (hS:P.underlying t=some (.struct (P.fieldsOf t))) (hp:P.stoodInHeld t=false) (h:Ov P d xs ys (P.fieldsOf t).toList b):u5 P (d+1) t (.agg xs) (.agg ys) b:=fun w=>(run_equalIn_agg w d t xs ys hS hp).trans (h w)
theorem eqN {xs ys:Array Value}:Ov P d xs ys [] true:=fun w=>by simp [Op.eqFields]
theorem K2 {xs ys : Array Value} {f : Field} {fs : List Field} {v u : Value} {b c : Bool} (hn : (f.name != "_") = true) (hv : ∀ w, (part f.type xs f.offset).run P w = .ok v w) (hu : ∀ w, (part f.type ys f.offset).run P w = .ok u w) (he : u5 P d f.type v u b) (hr : Ov P d xs ys fs c) : Ov P d xs ys (f :: fs) (b && c) := fun w => by
 have hn' : f.name ≠ "_" := by simpa using hn
 simp only [Op.eqFields,hn',ne_eq,not_false_eq_true,if_true,Sem.run_bind,hv,hu,Result.andThen_ok,he w,Sem.run_ite]
 cases b with
 | false=>simp
 | true=>simp [hr w]
theorem eqT {xs ys:List LV} {vs us:List Value} {b c:Bool} (hg:P.eqGuardType P.depth t=false) (hx:eV xs=some vs) (hy:eV ys=some us) (h:u5 P Op.maxDepth t (.agg vs.toArray) (.agg us.toArray) b) (hc:b=c):rk P t xs ys c:=⟨hg,vs,us,hx,hy,fun w=>hc ▸ h w⟩
end Go.L
namespace Go.L
section
variable {P:Program} {pr:Nat→Prop} {m m':Mem} {lv:LV} {o:Oper} {e:Env} {ev:Operand→LV}
def Env.only (e:Env) (sl:List Nat):Env:=fun i=>if sl.contains i then e i else .fp
theorem cj.Zy (sl:List Nat) (hs:∀ i ∈ sl,Operand.tmp i ∈ o.op.operands) (h:cj P pr o (dZ (e.only sl)) m lv m'):bI P pr o (dZ e) m lv m':=by
 intro c a Q bG hm
 refine h c a Q (fun x=>?_) hm
 cases x with
 | tmp t =>
  simp only [dZ,Env.only]
  by_cases ht:sl.contains t=true
  ·simp only [ht,if_true]; exact bG (.tmp t) (hs t (by simpa using ht))
  ·simp only [ht,if_false,ao]; simp [ao]
 | const v=>exact pz c v
 | global g=>simp [dZ,ao]
 | func f=>simp only [dZ,Act.eval,ao]; exact ⟨[],rfl,by simp [aD]⟩
end
section
variable {P:Program} {pr:Nat→Prop} {m:Mem} {ev:Operand→LV} {α β:Type} {f:α→LV} {g:β→LV} {d:Option Nat} {x y:Operand} {t ty:TypeId} {pos:String} {af:Array Edge} {gd:Option (Nat × Bool)}
theorem HM {id kt vt:Nat} {xs:List (α × β)} (ht:uI P t=some (kt,vt)) (hx:ev x=.mp id) (hm:m id=some (.map kt vt (mv f g xs))):bI P pr ⟨d,.call ⟨.builtin .len,#[x],#[t]⟩,ty,pos,af,gd⟩ ev m (.int .i64 xs.length) m:=by
 refine bI.value fun c a bG hM=>?_
 have e1:=bG x (by simp [Op.operands,Call.operands])
 rw [hx] at e1
 simp only [ao] at e1
 obtain ⟨b,hB,hv⟩:=e1
 have he:=hM.gY id
 rw [hm] at he
 simp only [bo] at he
 obtain ⟨b',es,ck,g1,g2,g3,_⟩:=he
 rw [hB] at g1; cases g1
 have hl:=g3.length
 simp only [mv,List.map_map,List.length_map] at hl
 refine ⟨.int .i64 xs.length,c,?_,by simp [ao],hM,Step.refl pr c⟩
 simp [execOp,resolve,invoke,builtin,hv,Builtin.len_,run_underlying (lu ht),MapKept.run_getObj_map g2,goInt,hl,Result.andThen]
end
end Go.L
namespace Go.L
theorem G0 {α:Type} {cf:α→α→Int} {ys zs:List α} (hp:zs.Perm ys) (hy:ys.Pairwise fun a b=>cf a b<0) (hz:zs.Pairwise fun a b=>¬ cf b a<0):zs=ys:=by
 induction ys generalizing zs with
 | nil=>exact hp.eq_nil
 | cons y ys ih =>
  obtain ⟨yh,hy2⟩:=List.pairwise_cons.1 hy
  cases zs with
  | nil=>exact absurd hp.symm.eq_nil (by simp)
  | cons z zs =>
   obtain ⟨Bn,Jf⟩:=List.pairwise_cons.1 hz
   have hzy:z=y:=by
    rcases List.mem_cons.1 (hp.mem_iff.1 (List.mem_cons_self)) with h | h
    ·exact h
    ·have h1:=yh z h
     rcases List.mem_cons.1 (hp.mem_iff.2 (List.mem_cons_self:y ∈ y :: ys)) with h2 | h2
     ·exact h2.symm
     ·exact absurd h1 (Bn y h2)
   subst hzy
   rw [ih (List.Perm.cons_inv hp) hy2 Jf]
def qy {α:Type} (c:α→α→Option Int) (xs ys:List α):Prop :=
 ys.Perm xs∧xs.length<1000000∧∃ cf:α→α→Int,(∀ x ∈ xs,∀ y ∈ xs,c x y=some (cf x y))∧(∀ x ∈ xs,¬ cf x x<0)∧(∀ x ∈ xs,∀ y ∈ xs,∀ z ∈ xs,cf x y<0→cf y z<0→cf x z<0) ∧
  (∀ x ∈ xs,∀ y ∈ xs,∀ z ∈ xs,¬ cf x y<0→¬ cf y z<0→¬ cf x z<0)∧ys.Pairwise fun a b=>cf a b<0
theorem qy.unique {α:Type} {c:α→α→Option Int} {xs ys zs:List α} (h:qy c xs ys) (h':qy c xs zs):ys=zs:=by
 obtain ⟨hp,_,cf,hc,_,ht,_,hs⟩:=h
 obtain ⟨FK,_,cf',Bd,fQ,_,_,FT⟩:=h'
 refine G0 (cf:=cf') (hp.trans FK.symm) FT ?_
 refine List.Pairwise.imp_of_mem ?_ hs
 intro a b ha hb qo hba
 have ma:=hp.mem_iff.1 ha
 have mb:=hp.mem_iff.1 hb
 have h1:cf' b a=cf b a:=by have:=hc b mb a ma; rw [Bd b mb a ma] at this; exact Option.some.inj this
 have h2:cf' a a=cf a a:=by have:=hc a ma a ma; rw [Bd a ma a ma] at this; exact Option.some.inj this
 rw [h1] at hba
 exact fQ a ma (by rw [h2]; exact ht a ma b mb a ma qo hba)
open Classical in
noncomputable def sf {α:Type} (c:α→α→Option Int) (xs:List α):Option (List α):=if h:∃ ys,qy c xs ys then some h.choose else .none
theorem NG {α:Type} {c:α→α→Option Int} {xs ys:List α} (h:qy c xs ys):sf c xs=some ys:=by
 have hx:∃ ys,qy c xs ys:=⟨ys,h⟩
 unfold sf
 rw [dif_pos hx]
 exact congrArg some (hx.choose_spec.unique h)
theorem EB {α:Type} {c:α→α→Option Int} {xs ys:List α} (h:sf c xs=some ys):qy c xs ys:=by
 unfold sf at h
 split at h
 ·rename_i hx; cases h; exact hx.choose_spec
 ·cases h
theorem zN {α:Type} {c:α→α→Option Int} {xs ys:List α} (h:sf c xs=some ys):xs.length=ys.length:=(EB h).1.length_eq.symm
end Go.L
namespace Go.L
open Go.Sort Go.Proofs Go.Shelf Go.Lib
theorem JR {α:Type} {cf:α→α→Int} {ys zs:List α} (hp:zs.Perm ys) (hy:ys.Pairwise fun a b=>cf a b<0) (hz:zs.Pairwise fun a b=>¬ cf b a<0):zs=ys:=by
 induction ys generalizing zs with
 | nil=>exact hp.eq_nil
 | cons y ys ih =>
  obtain ⟨yh,hy2⟩:=List.pairwise_cons.1 hy
  cases zs with
  | nil=>exact absurd hp.symm.eq_nil (by simp)
  | cons z zs =>
   obtain ⟨Bn,Jf⟩:=List.pairwise_cons.1 hz
   have hzy:z=y:=by
    rcases List.mem_cons.1 (hp.mem_iff.1 (List.mem_cons_self)) with h | h
    ·exact h
    ·have h1:=yh z h
     rcases List.mem_cons.1 (hp.mem_iff.2 (List.mem_cons_self:y ∈ y :: ys)) with h2 | h2
     ·exact h2.symm
     ·exact absurd h1 (Bn y h2)
   subst hzy
   rw [ih (List.Perm.cons_inv hp) hy2 Jf]
theorem OM {w w':World} (Ka:w'.os=w.os) (ht:w'.tape=w.tape) (ho:w'.output=w.output) (hd:w.drawn≤w'.drawn) (hs:w.heap.size≤w'.heap.size) (hk:∀ b,b<w.heap.size→w'.heap[b]?=w.heap[b]?) :
  w'=grow (w.drewN (w'.drawn - w.drawn)) (w'.heap.extract w.heap.size w'.heap.size):=by
 obtain ⟨h',t',d',o',p'⟩:=w'
 obtain ⟨h,t,d,o,p⟩:=w
 simp only at Ka ht ho hd hs hk
 subst Ka; subst ht; subst ho
 simp only [grow,World.drewN,World.mk.injEq,true_and,and_true]
 refine ⟨?_,by omega⟩
 apply Array.ext_getElem?
 intro i
 rw [Array.getElem?_append]
 split
 ·rename_i hi; exact hk i hi
 ·rename_i hi
  rw [Array.getElem?_extract]
  by_cases fQ:i<h'.size
  ·rw [if_pos (by omega)]; congr 1; omega
  ·rw [if_neg (by omega),Array.getElem?_eq_none (by omega)]
theorem nN {c:Cx} {α:Type} (en:α→Int):∀ {xs:List α} {us:List Value},aD c (xs.map fun x=>LV.int .i64 (en x)) us→us=xs.map fun x=>Value.int .i64 (en x)
 | [],us,h=>by simpa [aD] using h
 | x :: xs,us,h=>by
  simp only [List.map_cons,aD] at h
  obtain ⟨v,vs,rfl,h1,h2⟩:=h
  simp only [ao] at h1
  rw [h1,nN en h2]; rfl
theorem pw {c:Cx} {α:Type} (en:α→Int):∀ (xs:List α),aD c (xs.map fun x=>LV.int .i64 (en x)) (xs.map fun x=>Value.int .i64 (en x))
 | []=>by simp [aD]
 | x :: xs=>by simp only [List.map_cons,aD]; exact ⟨_,_,rfl,by simp [ao],pw en xs⟩
theorem iL {α:Type} (en:α→Int):∀ (xs:List α),flat (xs.map fun x=>Value.int .i64 (en x))=xs.map fun x=>Value.int .i64 (en x)
 | []=>rfl
 | x :: xs=>by rw [List.map_cons,gO,iL en xs]; rfl
theorem nm {α:Type} (en:α→Int):∀ (xs:List α),LV.bf (xs.map fun x=>LV.int .i64 (en x))=true
 | []=>rfl
 | x :: xs=>by simp only [List.map_cons,LV.bf,LV.pure,nm en xs,Bool.and_self]
theorem NN {α:Type} [Inhabited α] (enc:α→Value) (w:World) (jK m:Nat) (d:Array α) (os:Array Obj):(sortWorld enc w jK 0 m d os).os=w.os∧(sortWorld enc w jK 0 m d os).tape=w.tape∧(sortWorld enc w jK 0 m d os).output=w.output∧w.drawn≤(sortWorld enc w jK 0 m d os).drawn∧w.heap.size≤(sortWorld enc w jK 0 m d os).heap.size:=by
 refine ⟨rfl,rfl,rfl,Nat.le_add_right _ _,?_⟩
 simp [sortWorld,grow,putRow,mapBlock,ahead]
theorem A7 {α:Type} [Inhabited α] (enc:α→Value) (w:World) (jK m:Nat) (d:Array α) (os:Array Obj) (b:Nat) (hb:b<w.heap.size) (eO:b ≠ jK):(sortWorld enc w jK 0 m d os).heap[b]?=w.heap[b]?:=by
 simp only [sortWorld,grow,putRow,mapBlock,ahead]
 rw [Array.getElem?_append_left (by simpa using hb),Array.getElem?_modify]
 simp [Ne.symm eO]
theorem RB {α:Type} [Inhabited α] (enc:α→Value) (w:World) (jK m:Nat) (d:Array α) (os:Array Obj) {cur:Array Value} {e:TypeId} {z:Nat × Nat} (hg:w.heap[jK]?=some (.cells cur e z)):(sortWorld enc w jK 0 m d os).heap[jK]?=some (.cells (putCells enc 0 d cur) e z):=by
 have hb:jK<w.heap.size:=(Array.getElem?_eq_some_iff.1 hg).1
 simp only [sortWorld,grow,putRow,mapBlock,ahead]
 rw [Array.getElem?_append_left (by simpa using hb),Array.getElem?_modify]
 simp [hg,onCells]
theorem NH {P:Program} {ρ:Ren} (L:SlLaysF.n6 P ρ) {α:Type} (en:α→Int) (cf:α→α→Int) (hO:SWO (ltOf cf)) (g:Nat) (cap:List LV) (hcap:LV.bf cap=true)
  (eg:∀ args w,(callFunc g args).run P w=.ok (.enter g args) w) (Su:∀ x y,ve P g ([.int .i64 (en x),.int .i64 (en y)]++cap) (.int .i64 (cf x y)))
  (xs ys:List α) (LD:ys.Perm xs) (WK:ys.Pairwise fun a b=>cf a b<0) (hlen:xs.length<1000000) (id e:Nat) :
  aF P (ρ.f 6) [.arr id xs.length,.fn g cap] (Mem.of [(id,.arr e 1 (xs.map fun x=>.int .i64 (en x)))]) (.tup []) (Mem.of [(id,.arr e 1 (ys.map fun x=>.int .i64 (en x)))]):=by
 intro c vs hm ha
 simp only [aD] at ha
 obtain ⟨v0,vs1,rfl,QH,v1,vs2,rfl,jj,rfl⟩:=ha
 obtain ⟨us,hB,hk,bt,hl,hc,hp⟩:=gi (e:=e) (k:=1) (xs:=xs.map fun x=>LV.int .i64 (en x)) hm QH (by simp [Mem.of]) (by simp)
 simp only [ao] at jj
 obtain ⟨cb,rfl,V8⟩:=jj
 have E0:=nN en hl
 subst E0
 rw [iL] at bt
 have Cb:(xs.map fun x=>LV.int .i64 (en x)).length=xs.length:=by simp
 rw [Cb] at bt hB
 by_cases Oe:xs=[]
 ·subst Oe
  have Xf:ys=[]:=LD.eq_nil
  subst Xf
  obtain ⟨ad,cp,rfl⟩:=ea bt
  refine (AnyF.slices_SortFunc_none { L with } ad cp (.func (.func g) #[] cb.toArray) c.w).mono ?_
  rintro Qn w' ⟨rfl,rfl⟩
  exact ⟨_,c,rfl,rfl,hm,by simp only [ao,aD]; exact ⟨[],rfl,rfl⟩,Grow.refl _ c⟩
 ·haveI:Inhabited α:=⟨xs.head Oe⟩
  have vZ:0<xs.length:=List.length_pos_iff.2 Oe
  rcases bt.2 with ⟨rfl,h0⟩ | ⟨jK,cp,cur,rfl,_,hg,mG,hcm,hcs,uP⟩
  ·omega
  ·have hblk : jK < c.w.heap.size := (Array.getElem?_eq_some_iff.1 hg).1
   have FA:∀ j,j<xs.length→cur[j]?=some (.int .i64 (en xs[j]!)):=by
    intro j hj
    have h1:=congrArg (fun l=>l[j]?) uP
    simp only [List.getElem?_take,Nat.mul_one,List.getElem?_map] at h1
    rw [if_pos hj] at h1
    rw [← Array.getElem?_toList,h1]
    simp [hj]
   have hH:Holds (fun x=>Value.int .i64 (en x)) c.w jK 0 xs.toArray:=by
    intro j hj
    have Bh:j<xs.length:=by simpa using hj
    constructor
    ·simp [World.cell?,hg,FA j Bh]
    ·simp [World.frozen?,hg]
   have Wb:CmpLays1 P g cb.toArray (fun x=>Value.int .i64 (en x)) cf jK 0 xs.toArray.size c.w:=by
    intro q os dk hdk x y
    obtain ⟨s1,s2,s3,s4,s5⟩:=NN (fun x=>Value.int .i64 (en x)) c.w jK q dk os
    have Wq:=A7 (fun x=>Value.int .i64 (en x)) c.w jK q dk os
    have hX:c.X jK:=.inr ⟨id,_,hB,by simp [BE.has,Value.ownBlock]⟩
    have hle:c.Le ⟨sortWorld (fun x=>Value.int .i64 (en x)) c.w jK 0 q dk os,fun _=>.none,c.X⟩:=by
     refine ⟨s5,fun b hb hx=>⟨Wq b hb (fun h=>hx (h ▸ hX)),?_⟩⟩
     rintro (h | ⟨_,_,h,_⟩)
     ·exact hx h
     ·cases h
    have qG:cA ⟨sortWorld (fun x=>Value.int .i64 (en x)) c.w jK 0 q dk os,fun _=>.none,c.X⟩ Mem.none:=by
     refine ⟨fun _=>by simp [bo,Mem.none],(fun _ _ _ _ _ h=>by cases h),(fun b ⟨_,_,h,_⟩=>by cases h),fun b hb=>?_⟩
     rcases hb with hb | hb
     ·exact Nat.lt_of_lt_of_le (hm.xR b hb) s5
     ·exact Nat.lt_of_lt_of_le (hm.AQ hb) s5
    have hargs:aD ⟨sortWorld (fun x=>Value.int .i64 (en x)) c.w jK 0 q dk os,fun _=>.none,c.X⟩ ([.int .i64 (en x),.int .i64 (en y)]++cap) ([.int .i64 (en x),.int .i64 (en y)]++cb):=by
     simp only [List.cons_append,List.nil_append,aD]
     refine ⟨_,_,rfl,by simp [ao],_,_,rfl,by simp [ao],aD.mono hle cap cb (fun j hj=>?_) V8⟩
     rw [az cap hcap] at hj; cases hj
    have lI:=Su x y _ _ qG hargs
    have Sg:(([.int .i64 (en x),.int .i64 (en y)]++cb:List Value)).toArray=#[Value.int .i64 (en x),Value.int .i64 (en y)]++cb.toArray:=by simp
    rw [Sg] at lI
    refine lI.mono ?_
    rintro Qn w' ⟨v,c',rfl,rfl,_,hv,Qy⟩
    simp only [ao] at hv
    refine ⟨by rw [hv],_,_,OM Qy.os Qy.tape Qy.output Qy.drawn Qy.size fun b hb=>Qy.keep b hb ?_⟩
    rintro ⟨_,_,h,_⟩
    cases h
   have hS:=Any.slices_SortFunc L (fun x=>Value.int .i64 (en x)) (fun _=>rfl) cf hO g cb.toArray jK 0 cp xs.toArray c.w eg Wb hH hblk (by simp; omega)
   simp only [List.size_toArray] at hS
   refine hS.mono ?_
   rintro Qn w' ⟨rfl,d',q,os,hP,hSt,rfl⟩
   have abl:d'.size=xs.length:=by simpa using hP.1
   have hd':d'.toList=ys:=by
    have hp1:d'.toList.Perm xs:=by
     have:=hP.2.2
     simp only [List.size_toArray,Array.toList_extract,List.extract_eq_take_drop,Nat.sub_zero,List.drop_zero,List.take_length] at this
     rwa [List.take_of_length_le (by simp [abl])] at this
    refine JR (cf:=cf) (hp1.trans LD.symm) WK ?_
    rw [List.pairwise_iff_getElem]
    intro i j hi hj ra
    simp only [Array.length_toList] at hi hj
    have:=hSt i j (Nat.zero_le _) ra (by omega)
    simp only [ltOf,decide_eq_false_iff_not] at this
    rw [getElem!_pos d' j hj,getElem!_pos d' i hi] at this
    simpa using this
   obtain ⟨s1,s2,s3,s4,s5⟩:=NN (fun x=>Value.int .i64 (en x)) c.w jK q d' os
   have Wq:=A7 (fun x=>Value.int .i64 (en x)) c.w jK q d' os
   have Si:=RB (fun x=>Value.int .i64 (en x)) c.w jK q d' os hg
   have E1:ys.length=xs.length:=LD.length_eq
   obtain ⟨c',Kc,kY,kh,oH⟩:=hm.Bw (pr:=fun i=>Mem.of [(id,LE.arr e 1 (xs.map fun x=>LV.int .i64 (en x)))] i ≠ .none) id (.arr e 1 (ys.map fun x=>LV.int .i64 (en x))) _ (sortWorld (fun x=>Value.int .i64 (en x)) c.w jK 0 q d' os) s1 s2 s3 s4 s5 
    (fun b hb hn=>Wq b hb fun h=>hn _ hB (by rw [h]; simp [BE.has,Value.ownBlock]))
    (fun b hb=>.inl ⟨_,hB,hb⟩) (by rw [hB]; exact jy.refl _) (fun _ dA h=>by rw [hB] at h; cases h; exact .refl _) (by
     intro c1 hc1 FG hBl
     simp only [bo]
     refine ⟨_,ys.map fun x=>Value.int .i64 (en x),by simp only [List.length_map,E1]; rfl,by decide,?_,pw en ys,?_,?_⟩
     ·rw [iL,List.length_map,E1,hc1]
      refine ⟨by simp [E1],.inr ⟨jK,cp,_,rfl,Nat.zero_le _,Si,mG,hcm,?_,?_⟩⟩
      ·simpa [putCells] using hcs
      ·apply List.ext_getElem?
       intro j
       have We:cur.size=cp:=by simpa using hcs
       by_cases hj:j<xs.length
       ·have Lt:j<d'.size:=by omega
        have hj3:j<ys.length:=by omega
        have hyj:d'[j]=ys[j]:=by
         simp only [← hd',Array.getElem_toList]
        rw [List.getElem?_take,if_pos (by omega),Array.getElem?_toList]
        simp only [putCells,Array.getElem?_mapIdx,Nat.zero_le,Nat.zero_add,Nat.sub_zero,true_and]
        rw [Array.getElem?_eq_getElem (by omega)]
        simp [Lt,hyj,hj3]
       ·rw [List.getElem?_take,if_neg (by omega),List.getElem?_eq_none (by simp; omega)]
     ·intro v hv
      obtain ⟨y,_,rfl⟩:=List.mem_map.1 hv
      exact ⟨rfl,fun z hz=>by simp [Value.cells] at hz; subst hz; rfl⟩
     ·exact nm en ys)
   refine ⟨_,c',rfl,Kc,?_,by simp only [ao,aD]; exact ⟨[],rfl,rfl⟩,oH.grow⟩
   have Jd:Mem.put (Mem.of [(id,LE.arr e 1 (xs.map fun x=>LV.int .i64 (en x)))]) id (.arr e 1 (ys.map fun x=>LV.int .i64 (en x)))=Mem.of [(id,LE.arr e 1 (ys.map fun x=>LV.int .i64 (en x)))]:=by
    funext i
    by_cases hi:i=id
    ·subst hi; simp [Mem.put,Mem.of]
    ·simp [Mem.put,Mem.of,hi]
   rwa [Jd] at kh 
end Go.L
namespace Go.L
open Go.Sort Go.Proofs Go.Shelf
theorem enters_of {P : Program} {g : Nat} (h : ∃ fn, P.funcs[g]? = some fn ∧ (fn.name == "runtime.NumGoroutine") = false ∧ fn.body.isNone = false) (args : Array Value) (w : World) : (callFunc g args).run P w = .ok (.enter g args) w := by
 obtain ⟨fn,h1,h2,h3⟩:=h
 have VX : ¬ fn.name = "runtime.NumGoroutine" := by simpa using h2
 have h3':¬ fn.body=Option.none:=fun hn=>by rw [hn] at h3; cases h3
 simp [callFunc,h1,VX,h3']
theorem UK {xs:List Int} {cf:Int→Int→Int} (h1:∀ x ∈ xs,¬ cf x x<0) (h2:∀ x ∈ xs,∀ y ∈ xs,∀ z ∈ xs,cf x y<0→cf y z<0→cf x z<0) (h3:∀ x ∈ xs,∀ y ∈ xs,∀ z ∈ xs,¬ cf x y<0→¬ cf y z<0→¬ cf x z<0):SWO (ltOf fun a b:{x // x ∈ xs}=>cf a.1 b.1):=by
 constructor
 ·intro x; simp only [ltOf,decide_eq_false_iff_not]; exact h1 x.1 x.2
 ·intro x y z; simp only [ltOf,decide_eq_true_eq]; exact h2 x.1 x.2 y.1 y.2 z.1 z.2
 ·intro x y z; simp only [ltOf,decide_eq_false_iff_not]; exact h3 x.1 x.2 y.1 y.2 z.1 z.2
theorem EC {P : Program} {ρ : Ren} (L : SlLaysF.n6 P ρ) {f : Nat} (hf : ρ.f 6 = f) {c : Int → Int → Option Int} {xs r : List Int} {g : Nat} {cap : List LV} (hg : ∃ fn, P.funcs[g]? = some fn ∧ (fn.name == "runtime.NumGoroutine") = false ∧ fn.body.isNone = false) (hcap : LV.bf cap = true)
  (Su:∀ x y q,c x y=some q→aF P g ([.int .i64 x,.int .i64 y]++cap) (Mem.of []) (.int .i64 q) (Mem.of [])) (id e:Nat) (h:sf c xs=some r) :
  aF P f [.arr id xs.length,.fn g cap] (Mem.of [(id,.arr e 1 (xs.map (LV.int .i64)))]) (.tup []) (Mem.of [(id,.arr e 1 (r.map (LV.int .i64)))]):=by
 subst hf
 obtain ⟨hp,hn,cf,hc,h1,h2,h3,hs⟩:=EB h
 have hr:∀ x ∈ r,x ∈ xs:=fun x hx=>hp.mem_iff.1 hx
 have key:=NH L (fun x:{x // x ∈ xs}=>x.1) (fun a b=>cf a.1 b.1) (UK h1 h2 h3) g cap hcap (enters_of hg)
  (fun x y=>Su _ _ _ (hc x.1 x.2 y.1 y.2)) (xs.pmap Subtype.mk fun _ h=>h) (r.pmap Subtype.mk hr) (hp.pmap _) ?_ (by simpa using hn) id e
 ·simp only [List.map_pmap,List.pmap_eq_map,List.length_pmap] at key
  exact key
 ·refine (List.pairwise_pmap _).2 ?_
  exact hs.imp fun {a b} h _ _=>h
end Go.L
namespace Go.L
open Go.Sort Go.Proofs Go.Shelf Go.Lib
end Go.L
namespace Go.L
def JY (P:Program) (t:TypeId):Bool:=match P.underlying t with | some .string=>true | _=>false
theorem G6 {P:Program} {t:TypeId} (h:JY P t=true):P.underlying t=some .string:=by
 unfold JY at h; split at h
 ·assumption
 ·cases h
def A5 (a b:ByteArray):Option ByteArray:=if a.size+b.size≤1000000000 then some (a++b) else .none
def JM (s:ByteArray) (i:Int):Option Int:=if 0≤i then (s.data.toList[i.toNat]?).map fun b=>(b.toNat:Int) else .none
def GZ (ns:List Int):ByteArray:=ns.foldl (fun r n=>r.push (UInt8.ofNat n.toNat)) ByteArray.empty
theorem Zj (a b:ByteArray):(a.toList == b.toList)=decide (a=b):=by
 rw [Bool.eq_iff_iff]
 simp only [beq_iff_eq,decide_eq_true_eq]
 constructor
 ·intro h
  rw [ByteArray.toList_eq,ByteArray.toList_eq] at h
  exact ByteArray.ext (Array.toList_inj.1 h)
 ·intro h; rw [h]
theorem okS:pG 1 LV.str:=fun _=>⟨rfl,rfl,rfl⟩
section
variable {P:Program} {pr:Nat→Prop} {ev:Operand→LV} {m:Mem} {d:Option Nat} {x y:Operand} {t t' ty:TypeId} {pos:String} {af:Array Edge} {gd:Option (Nat × Bool)} {a b:ByteArray}
theorem NA {op:BinOp} (w:World):(eqGuard op t x y (.string a) (.string b)).run P w=.ok () w:=by unfold eqGuard; cases op <;> simp
theorem MX (hx:ev x=.str a) (hy:ev y=.str b):bI P pr ⟨d,.binOp .eql t x y t',ty,pos,af,gd⟩ ev m (.bool (decide (a=b))) m:=by
 refine bI.value fun c act bG hM=>?_
 have hv:=bG x (by simp [Op.operands])
 have hw:=bG y (by simp [Op.operands])
 rw [hx] at hv
 rw [hy] at hw
 simp only [ao] at hv hw
 exact ⟨.bool (decide (a=b)),c,by simp [execOp,hv,hw,NA,binOp_string_eql,Zj],by simp [ao],hM,Step.refl pr c⟩
theorem HO {r:ByteArray} (hx:ev x=.str a) (hy:ev y=.str b) (h:A5 a b=some r):bI P pr ⟨d,.binOp .add t x y t',ty,pos,af,gd⟩ ev m (.str r) m:=by
 unfold A5 at h
 split at h
 ·rename_i hs
  cases h
  refine bI.value fun c act bG hM=>?_
  have hv:=bG x (by simp [Op.operands])
  have hw:=bG y (by simp [Op.operands])
  rw [hx] at hv
  rw [hy] at hw
  simp only [ao] at hv hw
  exact ⟨.string (a++b),c,by simp [execOp,hv,hw,NA,binOp_string_add,run_string_add_sum c.w a b (by omega)],by simp [ao],hM,Step.refl pr c⟩
 ·cases h
theorem HP (ht:JY P t=true) (hx:ev x=.str a):bI P pr ⟨d,.call ⟨.builtin .len,#[x],#[t]⟩,ty,pos,af,gd⟩ ev m (.int .i64 a.size) m:=by
 have hu:=G6 ht
 refine bI.value fun c act bG hM=>?_
 have hv:=bG x (by simp [Op.operands,Call.operands])
 rw [hx] at hv
 simp only [ao] at hv
 exact ⟨.int .i64 a.size,c,by simp [execOp,resolve,invoke,builtin,Builtin.len_,hv,run_underlying hu,goInt],by simp [ao],hM,Step.refl pr c⟩
theorem MY {k:IntKind} {u z:Int} (ht:JY P t=true) (hx:ev x=.str a) (hy:ev y=.int k u) (h:JM a u=some z):bI P pr ⟨d,.index t x y,ty,pos,af,gd⟩ ev m (.int .u8 z) m:=by
 have hu:=G6 ht
 unfold JM at h
 split at h
 ·rename_i h0
  obtain ⟨q,hq,hz⟩:=Option.map_eq_some_iff.1 h
  have rb:a[u.toNat]?=some q:=by
   obtain ⟨hl,he⟩:=List.getElem?_eq_some_iff.1 hq
   have pP:u.toNat<a.size:=by rw [Array.length_toList] at hl; exact hl
   rw [getElem?_pos a u.toNat pP]
   simp only [Option.some.injEq]
   rw [← he]; simp [ByteArray.getElem_eq_getElem_data]
  refine bI.value fun c act bG hM=>?_
  have hv:=bG x (by simp [Op.operands])
  have hw:=bG y (by simp [Op.operands])
  rw [hx] at hv
  rw [hy] at hw
  simp only [ao] at hv hw
  refine ⟨.int .u8 z,c,?_,by simp [ao],hM,Step.refl pr c⟩
  simp [execOp,hv,hw,Instr.index,asIntOf,run_underlying hu,h0,rb,hz]
 ·cases h
theorem tB {c:Cx}:∀ {ns:List Int} {us:List Value},aD c (ns.map (LV.int .u8)) us→us=ns.map (Value.int .u8)
 | [],us,h=>by simpa [aD] using h
 | n :: ns,us,h=>by
  simp only [List.map_cons,aD] at h
  obtain ⟨v,vs,rfl,hv,hl⟩:=h
  simp only [ao] at hv
  rw [hv,tB hl]; rfl
theorem vD:∀ (ns:List Int),flat (ns.map (Value.int .u8))=ns.map (Value.int .u8)
 | []=>rfl
 | n :: ns=>by simp only [flat,List.map_cons,List.flatMap_cons]; rw [show (Value.int .u8 n).cells.toList=[Value.int .u8 n] from rfl]; exact congrArg _ (vD ns)
theorem Ug {e:Nat} {ns:List Int} (hs:telem P t=some e) (he:tint P e=some .u8) (hd:JY P t'=true) (hx:ev x=.lst 1 (ns.map (LV.int .u8))):bI P pr ⟨d,.convert t t' x,ty,pos,af,gd⟩ ev m (.str (GZ ns)) m:=by
 have E0:=gN hs
 have hud:=G6 hd
 have hue:P.underlying e=some (.int .u8):=by
  unfold tint at he; split at he
  ·rename_i k hk; cases he; exact hk
  ·cases he
 refine bI.value fun c act bG hM=>?_
 have hv:=bG x (by simp [Op.operands])
 rw [hx] at hv
 simp only [ao] at hv
 obtain ⟨ad,cap,hval,hcap,rF,_,V7⟩:=hv
 refine ⟨.string (GZ ns),c,?_,by simp [ao],hM,Step.refl pr c⟩
 have dD:(Conv.bytesToString (.slice ad (ns.map (LV.int .u8)).length cap)).run P c.w=.ok (.string (GZ ns)) c.w:=by
  cases ad with
  | none =>
   have h0:=rF rfl
   have:ns=[]:=by
    rw [h0] at hcap; simp at hcap; exact hcap
   subst this
   rfl
  | some a0 =>
   rw [List.length_map]
   refine run_bytesToString c.w a0 ns.length cap ns ?_
   have:=run_loadCells_list (P:=P) (w:=c.w) a0 (ns.map (Value.int .u8)) (fun j v hj=>by
    rcases V7 with h | ⟨b0,off,vs,h1,_,_,h2,_,h3⟩
    ·have:ns=[]:=by simpa using h
     subst this; simp at hj
    ·cases h1
     have Kb:=tB h2
     subst Kb
     rw [vD] at h3
     have:=h3 j v hj
     simpa [Addr.add_mid] using this)
   simpa using this
 rw [List.length_map] at hval dD
 simp [execOp,hval,run_convert_bytes_string c.w t t' e ad _ cap E0 hue hud,dD]
end
end Go.L
namespace Go.L
theorem MK {c:Cx} {e k i o id2 n2 g len:Nat} {os:List (Nat × Nat × Nat)} {xs:List LV} {u v:Value} {bs:List Nat} (h:bo c (some (.nest e k os xs)) (some (.arr u k len bs))) (hg:u.ownBlock=some g) (hc:c.w.cell? ⟨g,i * k+o,Option.none⟩=some v) (hv:ao c (.arr id2 n2) v):bo c (some (.dm e k os xs i o id2 n2)) (some (.arr u k len bs)):=by
 simp only [bo] at h ⊢
 obtain ⟨u',vs,Hi,h1,h2,h3,h4,h5⟩:=h
 cases h1
 exact ⟨u,vs,bs,rfl,h2,h3,h4,⟨g,v,hg,hc,hv⟩,h5⟩
theorem ML {c:Cx} {e k i o id2 n2:Nat} {os:List (Nat × Nat × Nat)} {xs:List LV} {y:Option BE} (h:bo c (some (.dm e k os xs i o id2 n2)) y):bo c (some (.nest e k os xs)) y∧∃ u bs g v,y=some (.arr u k xs.length bs)∧u.ownBlock=some g∧c.w.cell? ⟨g,i * k+o,Option.none⟩=some v∧ao c (.arr id2 n2) v:=by
 simp only [bo] at h ⊢
 obtain ⟨u,vs,bs,h1,h2,h3,h4,⟨g,v,q1,q2,q3⟩,h5⟩:=h
 exact ⟨⟨u,vs,bs,h1,h2,h3,h4,h5⟩,u,bs,g,v,h1,q1,q2,q3⟩
section
variable {P:Program} {N:Nat} {pr:Nat→Prop} {ev:Operand→LV} {m:Mem} {d:Option Nat} {x y:Operand} {t ty:TypeId} {pos:String} {af:Array Edge} {gd:Option (Nat × Bool)} {e0 k id n i o0 id2 e' k':Nat} {os:List (Nat × Nat × Nat)} {xs cs ys:List LV}
theorem MZ (hx:ev x=.eptr id n i o0) (hm:m id=some (.nest e0 k os xs)) (hn:n=xs.length) (hz:xs[i]?=some (.agg cs)) (hc:cs[o0]?=some (.lst k' ys)) (hl:os.lookup o0=some (e',k')) (bX:m id2=.none) (ht:tok P t=true) (ha:tagg P t=false) :
  bI P pr ⟨d,.load t x,ty,pos,af,gd⟩ ev m (.arr id2 ys.length) ((m.put id (.dm e0 k os (xs.set i (.agg (cs.set o0 .fp))) i o0 id2 ys.length)).put id2 (.arr e' k' ys)):=by
 have eO:id ≠ id2:=fun h=>by rw [h,bX] at hm; cases hm
 refine bI.value fun c a bG hM=>?_
 have hv:=bG x (by simp [Op.operands])
 rw [hx] at hv
 have iQ:=hM.gY id
 rw [hm] at iQ
 obtain ⟨g,cap,cur,v,bp,bs,bq,hB,hg,hcs,mG,hk,HC,jj,Av,uu,hnd,tJ,uw⟩:=rS iQ hz
 have he:=jN hv hB hn
 obtain ⟨eA,ws,h1,rfl,hC⟩:=uu
 cases h1
 have vJ:(cur.toList.drop (i * k)).take k=ws:=by simpa [Value.cells] using Av
 obtain ⟨w,cp,cb,cq,g1,rfl,g3,g4⟩:=hC.at hc
 have hcell:=pX hg vJ g1
 rw [Nat.zero_add] at g3 g4
 unfold fS at g3
 rw [hl] at g3
 obtain ⟨us,J8,bt,Cg,SY,LK,rfl⟩:∃ us,0<k'∧c.w.ownsRow 0 e' k' w ys.length (flat us)∧aD c ys us∧(∀ u ∈ us,u.cells.size=k'∧∀ y ∈ u.cells,y.oneCell'=true)∧LV.bf ys=true∧cb=w.ownBlock.toList:=by
  rcases g3 with ⟨h,_⟩ | ⟨ys',us,h,q0,q1,q2,q3,q4,q5⟩
  ·cases h
  ·cases h; exact ⟨us,q0,q1,q2,q3,q4,q5⟩
 have dD:(Instr.loadAt t (a.eval x)).run P c.w=.ok w c.w:=by
  rw [he]
  exact (gE (cs:=[.fp]) (vs:=[w]) (c:=c) ht (by simp [aD,ao]) (fun j v hj=>by
   cases j with
   | zero=>simp at hj; subst hj; simpa using hcell
   | succ j=>simp at hj)).2 ha w [] rfl
 have B0:=hM.fresh bX
 have pe:∀ b,b ∈ bp++((cp++([]++cq))++bq)→b ∈ bp++((cp++(w.ownBlock.toList++cq))++bq):=fun b hb=>by
  simp only [List.mem_append,List.nil_append] at hb ⊢
  rcases hb with h | (h | h) | h <;> simp [h]
 have qI:(bp++((cp++([]++cq))++bq)).Nodup:=by
  refine List.Nodup.sublist ?_ hnd
  refine List.Sublist.append (List.Sublist.refl _) (List.Sublist.append (List.Sublist.append (List.Sublist.refl _) ?_) (List.Sublist.refl _))
  exact List.Sublist.append (List.nil_sublist _) (List.Sublist.refl _)
 have rH:ws.set o0 w=ws:=by
  obtain ⟨hlt,hw⟩:=List.getElem?_eq_some_iff.1 g1
  rw [← hw]; exact List.set_getElem_self hlt
 obtain ⟨c',hw,eb1,VS,h2,h3⟩:=hM.P6 (pr:=pr) id id2 eO (.dm e0 k os (xs.set i (.agg (cs.set o0 .fp))) i o0 id2 ys.length) (.arr e' k' ys) (.arr (.slice (some ⟨g,0,.none⟩) xs.length cap) k xs.length (bp++((cp++([]++cq))++bq))) (.arr w k' ys.length []) c.w rfl rfl rfl (Nat.le_refl _) (Nat.le_refl _)
  (fun b _ _ _=>rfl)
  (fun b hb=>by
   rcases hb with hb | hb
   ·rcases hb with hb | hb
    ·exact .inl ⟨_,hB,.inl hb⟩
    ·exact .inl ⟨_,hB,.inr (pe b hb)⟩
   ·rcases hb with hb | hb
    ·exact .inl ⟨_,hB,.inr (by simp [hb])⟩
    ·cases hb)
  (fun b hb hb2=>by
   have hbw:w.ownBlock=some b:=by
    rcases hb2 with h | h
    ·exact h
    ·cases h
   rcases hb with hb | hb
   ·have:g=b:=by simpa [Value.ownBlock] using hb
    subst this
    exact tJ (by simp [hbw])
   ·have n1:=List.nodup_append.1 hnd
    have n2:=List.nodup_append.1 n1.2.1
    have n3:=List.nodup_append.1 n2.1
    have n4:=List.nodup_append.1 n3.2.1
    have hin:b ∈ w.ownBlock.toList:=by simp [hbw]
    simp only [List.mem_append,List.nil_append] at hb
    rcases hb with h | (h | h) | h
    ·exact n1.2.2 b h b (by simp [hbw]) rfl
    ·exact n3.2.2 b h b (by simp [hbw]) rfl
    ·exact n4.2.2 b hin b h rfl
    ·exact n2.2.2 b (by simp [hbw]) b h rfl)
  (by rw [hB]; exact ⟨_,_,_,rfl,Nat.le_refl _,fun _=>rfl⟩) (by rw [B0]; trivial) (fun _ dA h0=>by rw [hB] at h0; cases h0; exact ⟨_,_,_,rfl,Nat.le_refl _,fun _=>rfl⟩) (fun _ dA h0=>by rw [B0] at h0; cases h0)
  (fun c' hw hle hble hb2=>by
   refine MK (g:=g) (v:=w) ?_ rfl (by rw [hw]; exact hcell) (by
    simp only [ao]
    refine ⟨?_,_,_,_,_,hb2,Nat.le_refl _,fun _=>rfl⟩
    obtain ⟨ad,VQ,L5⟩:=ea bt
    rw [L5]; rfl)
   refine uw c' _ (.agg ws.toArray) _ hle ?_ (fun q _=>by rw [hw]) HC jj ⟨_,ws,rfl,rfl,?_⟩ qI (fun h=>tJ (by
    simp only [List.mem_append,List.nil_append] at h ⊢
    rcases h with h | h <;> simp [h]))
   ·rw [hw,hg]
    congr 2
    apply Array.toList_inj.1
    simp only [List.toList_toArray]
    rw [← Av,← List.drop_drop,List.append_assoc,List.take_append_drop,List.take_append_drop]
   ·have:=g4 (c':=c') (x':=.fp) (w':=w) (b':=[]) hle (fun r _=>by rw [hw]) (by unfold fS; rw [hl]; exact .inl ⟨rfl,rfl⟩)
    rw [rH] at this
    exact this)
  (fun c' hw hle hble=>by
   simp only [bo]
   exact ⟨w,us,rfl,J8,by rw [hw]; exact bt,aD.mono hle ys us (fun j hj=>by rw [az ys LK] at hj; cases hj) Cg,SY,LK⟩)
 refine ⟨w,c',by rw [hw]; simp [execOp,dD],?_,h2,h3⟩
 simp only [ao]
 refine ⟨?_,_,_,_,_,VS,Nat.le_refl _,fun _=>rfl⟩
 obtain ⟨ad,VQ,L5⟩:=ea bt
 rw [L5]; rfl
theorem cA.unlink {c:Cx} (hM:cA c m) {n2:Nat} (hm:m id=some (.dm e0 k os xs i o0 id2 n2)) (hz:xs[i]?=some (.agg cs)) (hc:cs[o0]?=some .fp) (hl:os.lookup o0=some (e',k')) (mE:m id2=some (.arr e' k' ys)) (OX:n2=ys.length) (vQ:¬ pr id2) :
  ∃ c':Cx,c'.w=c.w∧cA c' ((m.put id (.nest e0 k os (xs.set i (.agg (cs.set o0 (.lst k' ys)))))).put id2 .dead)∧Step pr c c':=by
 have eO:id ≠ id2:=fun h=>by rw [h,mE] at hm; cases hm
 have Qt:=hM.gY id
 rw [hm] at Qt
 obtain ⟨iQ,uL,bsL,gL,y0,hyL,hgL,hcL,qL⟩:=ML Qt
 obtain ⟨us,B0,J8,bt,Cg,SY,LK⟩:=gi hM qL mE OX
 obtain ⟨g,cap,cur,v,bp,bs,bq,hB,hg,hcs,mG,hk,HC,jj,Av,uu,hnd,tJ,uw⟩:=rS iQ hz
 obtain ⟨eA,ws,h1,rfl,hC⟩:=uu
 cases h1
 have HD:ws.length=k:=by simpa [Value.cells] using HC
 have vJ:(cur.toList.drop (i * k)).take k=ws:=by simpa [Value.cells] using Av
 obtain ⟨w0,cp,cb,cq,g1,rfl,g3,g4⟩:=hC.at hc
 rw [Nat.zero_add] at g3 g4
 have V8:cb=[]:=by
  unfold fS at g3
  rw [hl] at g3
  rcases g3 with ⟨_,h⟩ | ⟨_,_,h,_⟩
  ·exact h
  ·cases h
 subst V8
 have hw0:w0=y0:=by
  have hcell:=pX hg vJ g1
  rw [hB] at hyL
  cases hyL
  have:g=gL:=by simpa [Value.ownBlock] using hgL
  subst this
  rw [hcell] at hcL
  exact Option.some.inj hcL
 subst hw0
 have iD:o0<k:=by rw [← HD]; exact (List.getElem?_eq_some_iff.1 g1).1
 have hi:i<xs.length:=(List.getElem?_eq_some_iff.1 hz).1
 have Ls:i * k+k≤cur.size:=by
  have h1:=Nat.mul_le_mul_right k (show i+1≤cap by omega)
  rw [Nat.add_mul,Nat.one_mul] at h1; omega
 have yh:(w0).oneCell'=true:=by
  obtain ⟨ad,VQ,L5⟩:=ea bt
  rw [L5]; rfl
 have rH:ws.set o0 w0=ws:=by
  obtain ⟨hlt,hw⟩:=List.getElem?_eq_some_iff.1 g1
  rw [← hw]; exact List.set_getElem_self hlt
 -- the block of the slice is not one of the Zh
 have qF:∀ b,(w0).ownBlock=some b→b ≠ g∧b ∉ bp++((cp++([]++cq))++bq):=fun b hb=>by
  constructor
  ·intro J5
   exact eO (hM.inj id id2 _ _ b hB B0 (.inl (by rw [J5]; rfl)) (.inl hb))
  ·intro hin
   exact eO (hM.inj id id2 _ _ b hB B0 (.inr hin) (.inl hb))
 have qI:(bp++((cp++((w0).ownBlock.toList++cq))++bq)).Nodup:=by
  cases hb:(w0).ownBlock with
  | none=>simpa [hb] using hnd
  | some b =>
   have hf:=(qF b hb).2
   have hp:(bp++((cp++((some b).toList++cq))++bq)).Perm (b :: (bp++((cp++([]++cq))++bq))):=by
    simp only [Option.toList_some,List.singleton_append,List.nil_append]
    refine (List.Perm.append_left bp ?_).trans (List.perm_middle)
    rw [List.append_assoc,List.append_assoc,List.cons_append]
    exact List.perm_middle
   exact hp.nodup_iff.2 (List.nodup_cons.2 ⟨hf,hnd⟩)
 obtain ⟨c',hw,eb1,VS,h2,h3⟩:=hM.P6 (pr:=pr) id id2 eO (.nest e0 k os (xs.set i (.agg (cs.set o0 (.lst k' ys))))) .dead (.arr (.slice (some ⟨g,0,.none⟩) xs.length cap) k xs.length (bp++((cp++((w0).ownBlock.toList++cq))++bq))) (.arr (.slice .none 0 0) k' (ys.length+1) []) c.w rfl rfl rfl (Nat.le_refl _) (Nat.le_refl _)
  (fun b _ _ _=>rfl)
  (fun b hb=>by
   rcases hb with hb | hb
   ·rcases hb with hb | hb
    ·exact .inl ⟨_,hB,.inl hb⟩
    ·simp only [List.mem_append,Option.mem_toList] at hb
     rcases hb with h | (h | h | h) | h
     ·exact .inl ⟨_,hB,.inr (by simp [h])⟩
     ·exact .inl ⟨_,hB,.inr (by simp [h])⟩
     ·exact .inr (.inl ⟨_,B0,.inl h⟩)
     ·exact .inl ⟨_,hB,.inr (by simp [h])⟩
     ·exact .inl ⟨_,hB,.inr (by simp [h])⟩
   ·rcases hb with hb | hb
    ·simp [Value.ownBlock] at hb
    ·cases hb)
  (fun b _ hb2=>by
   rcases hb2 with hb | hb
   ·simp [Value.ownBlock] at hb
   ·cases hb)
  (by rw [hB]; exact ⟨_,_,_,rfl,Nat.le_refl _,fun _=>rfl⟩) (by rw [B0]; exact ⟨_,_,_,rfl,by omega,fun h=>by omega⟩) (fun _ dA h0=>by rw [hB] at h0; cases h0; exact ⟨_,_,_,rfl,Nat.le_refl _,fun _=>rfl⟩) (fun h=>absurd h vQ)
  (fun c' hw hle hble _=>by
   have FJ:∀ b,b ≠ g→c'.w.heap[b]?=c.w.heap[b]?:=fun b _=>by rw [hw]
   refine uw c' _ (.agg (ws.set o0 (w0)).toArray) _ hle (by
    rw [hw,hg,rH]
    congr 2
    apply Array.toList_inj.1
    simp only [List.toList_toArray]
    rw [← Av,← List.drop_drop,List.append_assoc,List.take_append_drop,List.take_append_drop]) (fun q hq=>FJ q (fun WB=>tJ (by rw [← WB]; simp at hq ⊢; rcases hq with h | h <;> simp [h]))) (by simp [Value.cells,HD]) (fun q hq=>by
    simp only [Value.cells] at hq jj
    have rb:q ∈ ws.set o0 (w0):=by simpa using hq
    rcases List.mem_or_eq_of_mem_set rb with h | h
    ·exact jj q (by simpa using h)
    ·rw [h]; exact yh) ⟨_,_,rfl,rfl,?_⟩ qI (fun h=>?_)
   ·refine g4 (c':=c') (x':=.lst k' ys) (w':=w0) (b':=(w0).ownBlock.toList) hle (fun r hr=>FJ r (fun WG=>tJ (by rw [← WG]; simp at hr ⊢; rcases hr with h | h <;> simp [h]))) ?_
    unfold fS
    rw [hl]
    exact .inr ⟨ys,us,rfl,J8,c9 bt (fun b hb=>FJ b (qF b hb).1),aD.mono hle ys us (fun j hj=>by rw [az ys LK] at hj; cases hj) Cg,SY,LK,rfl⟩
   ·simp only [List.mem_append,Option.mem_toList] at h
    rcases h with h | h | h
    ·exact tJ (by simp [h])
    ·exact (qF g h).1 rfl
    ·exact tJ (by simp [h]))
  (fun c' hw hle hble=>by simp only [bo]; exact ⟨_,_,_,rfl,rfl⟩)
 exact ⟨c',hw,h2,h3⟩
theorem Wk.unlink {e:Env} {n2:Nat} (hm:m id=some (.dm e0 k os xs i o0 id2 n2)) (hz:xs[i]?=some (.agg cs)) (hc:cs[o0]?=some .fp) (hl:os.lookup o0=some (e',k')) (mE:m id2=some (.arr e' k' ys)) (OX:n2=ys.length) (vQ:¬ pr id2) :
  Wk pr e m e ((m.put id (.nest e0 k os (xs.set i (.agg (cs.set o0 (.lst k' ys)))))).put id2 .dead):=by
 intro N c a cn
 obtain ⟨c',hw,h2,h3⟩:=cn.mem.unlink (pr:=pr) hm hz hc hl mE OX vQ
 exact ⟨c',hw,⟨fun i=>h3.A4 (cn.env i),h2,cn.size,cn.defers⟩,h3.grow⟩
end
end Go.L
namespace Go.L
theorem aF.XN {P:Program} {f:Nat} {args ew:List LV} {ml eD:List (Nat × LE)} {r:LV} (id e k:Nat) (os:List (Nat × Nat × Nat)) {xs:List LV} (hp:LV.bf xs=true) (h:aF P f ew (Mem.of ml) r (Mem.of eD)) (ha:rm id k xs args ew)
  (h1:Mem.of ml id=.none) (h2:Mem.of eD id=.none) (na:tH id ml=true) (hr:r.nj=true) (hrn:r.bg id=true) (yN:vf id eD) :
  aF P f args (Mem.of ((id,.nest e k os xs) :: ml)) r (Mem.of ((id,.nest e k os xs) :: eD)):=by
 intro c vs hm hargs
 have bX:Mem.of ((id,LE.nest e k os xs) :: ml) id=some (.nest e k os xs):=by simp [Mem.of]
 have iQ:=hm.gY id
 rw [bX] at iQ
 simp only [bo] at iQ
 obtain ⟨u,us,bs,hB,hk,bt,hn,hc,hnd,hnb⟩:=iQ
 have j3:∀ i le,i ≠ id→Mem.of ((id,LE.nest e k os xs) :: ml) i=some le→le.jh id=true:=fun i cs hi Bi=>by
  simp only [Mem.of,hi,if_false] at Bi
  exact o6 na i cs hi Bi
 obtain ⟨c1,hw,hO,mr,hV,pc,hX,ON⟩:=hm.del id j3
 have Sw:(Mem.of ((id,LE.nest e k os xs) :: ml)).del id=Mem.of ml:=by
  funext i
  unfold Mem.del
  by_cases hi:i=id
  ·subst hi; simp [h1]
  ·simp [hi,Mem.of]
 rw [Sw] at mr
 have Lv:c.Le c1:=⟨by rw [hw]; exact Nat.le_refl _,fun b _ hx=>⟨by rw [hw],fun pR=>hx (pR.imp (fun h=>by rw [hO] at h; exact h) (pc b))⟩⟩
 have hR:∀ v,ao c (.arr id xs.length) v→ao c1 (.lst k xs) v:=by
  intro v hv
  have hvu:v=u:=by
   simp only [ao] at hv
   obtain ⟨_,u',k',nh,nf,kY,_,hv⟩:=hv
   rw [hB] at kY; cases kY
   exact hv rfl
  subst hvu
  simp only [ao]
  have SA:aD c1 xs us:=hn.BV Lv hw (fun b hb=>hX b _ hB (.inr hb))
  rcases bt.2 with ⟨rfl,h0⟩ | ⟨g,cap,cur,rfl,_,hg,mG,_⟩
  ·exact ⟨.none,0,by rw [h0],by omega,fun _=>rfl,hp,.inl (List.eq_nil_of_length_eq_zero h0)⟩
  ·refine ⟨some ⟨g,0,.none⟩,cap,rfl,mG,by simp,hp,.inr ⟨g,0,us,rfl,by rw [hw]; exact (Array.getElem?_eq_some_iff.1 hg).1,hX g _ hB (.inl rfl),SA,hc,?_⟩⟩
   rw [hw]; exact gC bt rfl
 have lI:=h c1 vs mr (ha.rep hV hR hargs)
 rw [hw] at lI
 refine lI.mono ?_
 rintro en w' ⟨v,c2,rfl,rfl,mE,hv2,hg⟩
 have B0:c2.B id=.none:=mE.fresh h2
 -- the block of the row
 have hblk:∀ b,(u.ownBlock=some b ∨ b ∈ bs)→b<c.w.heap.size∧c2.w.heap[b]?=c.w.heap[b]?∧¬ c2.own b∧¬ c2.O b:=by
  intro b hb
  have hlt:=(hm.gY id).lt hB (show (BE.arr u k xs.length bs).has b from hb)
  have Wy:¬ c1.X b:=hX b _ hB hb
  have uO:¬ c1.own b:=fun ho=>Wy (.inr ho)
  refine ⟨hlt,?_,?_,?_⟩
  ·have:=hg.keep b (by rw [hw]; exact hlt) uO; rw [hw] at this; exact this
  ·intro ho
   rcases hg.own b ho with h' | h'
   ·exact uO h'
   ·rw [hw] at h'; omega
  ·rw [hg.O]; exact fun ho=>Wy (.inl ho)
 let c3:Cx:=⟨c2.w,fun i=>if i=id then c.B id else c2.B i,c2.O⟩
 have An:∀ i,i ≠ id→c3.B i=c2.B i:=fun i hi=>by simp [c3,hi]
 have vF:c3.B id=c.B id:=by simp [c3]
 have vP:∀ b,c3.own b→c2.own b ∨ (u.ownBlock=some b ∨ b ∈ bs):=by
  rintro b ⟨i,be,g1,g2⟩
  by_cases hi:i=id
  ·subst hi; rw [vF,hB] at g1; cases g1; exact .inr g2
  ·rw [An i hi] at g1; exact .inl ⟨i,be,g1,g2⟩
 have J3:c3.O=c.O:=by show c2.O=c.O; rw [hg.O,hO]
 have Lw:c.Le c3:=by
  refine ⟨by have:=hg.size; rw [hw] at this; exact this,fun b hb hx=>⟨?_,?_⟩⟩
  ·have:=hg.keep b (by rw [hw]; exact hb) (fun ho=>hx (.inr (pc b ho))); rw [hw] at this; exact this
  ·rintro (ho | ho)
   ·rw [J3] at ho; exact hx (.inl ho)
   ·rcases vP b ho with h' | h'
    ·rcases hg.own b h' with BZ | BZ
     ·exact hx (.inr (pc b BZ))
     ·rw [hw] at BZ; omega
    ·exact hx (.inr ⟨id,_,hB,h'⟩)
 refine ⟨v,c3,rfl,rfl,⟨fun i=>?_,?_,?_,?_⟩,?_,?_⟩
 ·by_cases hi:i=id
  ·subst hi
   rw [vF,hB]
   simp only [Mem.of,if_true,bo]
   exact ⟨u,us,bs,rfl,hk,c9 bt (fun b hb=>(hblk b (.inl hb)).2.1),hn.mono Lw (fun b hb=>(hblk b (.inr hb)).2.1),hc,hnd,hnb⟩
  ·rw [An i hi]
   simp only [Mem.of,hi,if_false]
   have he:=mE.gY i
   cases Bi:Mem.of eD i with
   | none=>rw [Bi] at he; simpa only [bo] using he
   | some le=>rw [Bi] at he; exact bo.kl (c:=c2) (c':=c3) rfl An (yN i le Bi) he
 ·intro i j be ef b g1 g2 g3 g4
  by_cases hi:i=id
  ·by_cases hj:j=id
   ·rw [hi,hj]
   ·subst hi
    rw [vF,hB] at g1; cases g1
    rw [An j hj] at g2
    exact absurd ⟨j,ef,g2,g4⟩ (hblk b g3).2.2.1
  ·by_cases hj:j=id
   ·subst hj
    rw [vF,hB] at g2; cases g2
    rw [An i hi] at g1
    exact absurd ⟨i,be,g1,g3⟩ (hblk b g4).2.2.1
   ·rw [An i hi] at g1; rw [An j hj] at g2
    exact mE.inj i j be ef b g1 g2 g3 g4
 ·intro b ho
  rcases vP b ho with h' | h'
  ·exact mE.kB b h'
  ·exact (hblk b h').2.2.2
 ·intro b ho; exact mE.xR b ho
 ·exact ao.kl r v hr (fun i hi=>An i (fun he=>by subst he; rw [hrn] at hi; cases hi)) hv2
 ·refine ⟨J3,?_,?_,?_,?_,?_,?_,?_,?_⟩
  ·have:=hg.os; rw [hw] at this; exact this
  ·have:=hg.tape; rw [hw] at this; exact this
  ·have:=hg.output; rw [hw] at this; exact this
  ·have:=hg.drawn; rw [hw] at this; exact this
  ·have:=hg.size; rw [hw] at this; exact this
  ·intro b hb ho
   have:=hg.keep b (by rw [hw]; exact hb) (fun Bj=>ho (pc b Bj)); rw [hw] at this; exact this
  ·intro b ho
   rcases vP b ho with h' | h'
   ·rcases hg.own b h' with BZ | BZ
    ·exact .inl (pc b BZ)
    ·rw [hw] at BZ; exact .inr BZ
   ·exact .inl ⟨id,_,hB,h'⟩
  ·intro i be LF V3
   by_cases hi:i=id
   ·subst hi; exact ⟨be,by rw [vF]; exact V3,.refl be⟩
   ·rw [An i hi]
    have OQ:c1.B i=some be:=by rw [ON i hi]; exact V3
    exact hg.Gg i be (by simpa [Mem.of,hi] using LF) OQ
end Go.L
namespace Go.L
theorem Wk.Ur {pr:Nat→Prop} {el:List (Nat × LV)} {ml:List (Nat × LE)} (id e k:Nat) (os:List (Nat × Nat × Nat)) (pI j:Nat) {cs eA:List LV} (bX:Mem.of ml id=.none) (hk:Nat.ble 1 k=true) (hb:Mem.of ml pI=some (.box cs)) (hj:cs[j]?=some .nil) (hcs:cs.set j (.arr id 0)=eA) (kA:¬ pr id) :
  Wk pr (Env.of el) (Mem.of ml) (Env.of el) (((Mem.of ml).put id (.nest e k os [])).put pI (.box eA)):=by
 intro N c a cn
 have eO:pI ≠ id:=fun h=>by rw [h,bX] at hb; cases hb
 have hB:=cn.mem.fresh bX
 obtain ⟨c',hw,jP,h2,h3⟩:=cn.mem.Bw (pr:=pr) id (.nest e k os []) (.arr (.slice .none 0 0) k 0 []) c.w rfl rfl rfl (Nat.le_refl _) (Nat.le_refl _)
  (fun b _ _=>rfl) (fun b hb=>by simp [BE.has,Value.ownBlock] at hb) (by rw [hB]; trivial) (fun h=>absurd h kA)
  (fun c' hw hle hble=>by
   simp only [bo]
   exact ⟨.slice .none 0 0,[],[],rfl,Nat.le_of_ble_eq_true hk,by rw [hw]; exact World.ownsRow_nil c.w 0 e k,by simp [ed],by simp,by simp,by simp [Value.ownBlock]⟩)
 have hb2:((Mem.of ml).put id (.nest e k os [])) pI=some (.box cs):=by simp only [Mem.put,eO,if_false]; exact hb
 obtain ⟨b,vs,e1,I0,hh,hl,h1⟩:=kV h2 hb2
 have ju:∀ (cs:List LV) (vs:List Value) (j:Nat),aD c' cs vs→cs[j]?=some .nil→aD c' (cs.set j (.arr id 0)) vs:=by
  intro cs
  induction cs with
  | nil=>intro vs j _ h; simp at h
  | cons x xs ih =>
   intro vs j hl hj
   simp only [aD] at hl
   obtain ⟨v,fD,rfl,hv,pP⟩:=hl
   cases j with
   | zero =>
    simp at hj; subst hj
    simp only [ao] at hv
    simp only [List.set_cons_zero,aD]
    refine ⟨v,fD,rfl,?_,pP⟩
    simp only [ao]
    exact ⟨by rw [hv]; rfl,_,_,_,_,jP,Nat.le_refl _,fun _=>hv⟩
   | succ j =>
    simp only [List.set_cons_succ,aD]
    exact ⟨v,fD,rfl,hv,ih fD j pP (by simpa using hj)⟩
 have mE:=h2.re (eA:=eA) hb2 I0 hh (by rw [← hcs]; exact ju cs vs j hl hj) h1 (by rw [← hcs]; simp)
 exact ⟨c',hw,⟨fun i=>h3.A4 (cn.env i),mE,cn.size,cn.defers⟩,h3.grow⟩
theorem ed.split {c:Cx} {os:List (Nat × Nat × Nat)}:∀ {i:Nat} {xs:List LV} {vs:List Value} {bs:List Nat},ed c os xs vs bs→∃ b1 b2,bs=b1++b2∧ed c os (xs.take i) (vs.take i) b1∧ed c os (xs.drop i) (vs.drop i) b2
 | 0,xs,vs,bs,h=>⟨[],bs,rfl,by simp [ed],by simpa using h⟩
 | i+1,[],vs,bs,h=>by
  simp only [ed] at h
  obtain ⟨rfl,rfl⟩:=h
  exact ⟨[],[],rfl,by simp [ed],by simp [ed]⟩
 | i+1,x :: xs,vs,bs,h=>by
  simp only [ed] at h
  obtain ⟨v,fD,b1,b2,rfl,rfl,h1,h2⟩:=h
  obtain ⟨c1,c2,rfl,h3,h4⟩:=ed.split (i:=i) h2
  refine ⟨b1++c1,c2,by simp,?_,by simpa using h4⟩
  simp only [List.take_succ_cons,ed]
  exact ⟨v,_,b1,c1,rfl,rfl,h1,h3⟩
theorem ed.app {c:Cx} {os:List (Nat × Nat × Nat)}:∀ {xs ys:List LV} {vs us:List Value} {b1 b2:List Nat},ed c os xs vs b1→ed c os ys us b2→ed c os (xs++ys) (vs++us) (b1++b2)
 | [],ys,vs,us,b1,b2,h,h'=>by
  simp only [ed] at h
  obtain ⟨rfl,rfl⟩:=h
  simpa using h'
 | x :: xs,ys,vs,us,b1,b2,h,h'=>by
  simp only [ed] at h
  obtain ⟨v,fD,c1,c2,rfl,rfl,h1,h2⟩:=h
  simp only [List.cons_append,ed]
  exact ⟨v,fD++us,c1,c2++b2,rfl,by simp,h1,ed.app h2 h'⟩
section
variable {P:Program} {N:Nat} {pr:Nat→Prop} {ev:Operand→LV} {m m':Mem} {d:Option Nat} {x y z:Operand} {t ty:TypeId} {pos:String} {af:Array Edge} {gd:Option (Nat × Bool)} {lv:LV} {α β:Type} {f:α→LV} {g:β→LV} {e0 k id n:Nat} {os:List (Nat × Nat × Nat)}
theorem Ui {d0 kk:Nat} {el:TypeId} {cs eA:List LV} {S:List Nat} (he:telem P t=some el) (nI:fP P el=true) (hk:tsize P el=kk) (SX:Nat.ble kk 16777216=true) (hx:ev x=.agg cs) (QB:cs.length=kk) (Bk:cs.all LV.scalar=true) (bX:m id=.none) (qo:oy m os 0 cs eA S) (hS:S.Nodup) (hSp:∀ j ∈ S,¬ pr j) :
  bI P pr ⟨some d0,.buildSlice t 1 #[(0,x)],ty,pos,af,gd⟩ ev m (.arr id 1) (m.gone id (.nest el kk os [.agg eA]) S):=by
 subst hk
 have Oc:=Nat.le_of_ble_eq_true SX
 have hu:=gN he
 obtain ⟨i,zv,hi,FX,Bo,Bn,fE,Qr,uQ⟩:=tm nI
 refine bI.value fun c a bG hM=>?_
 have rK:=bG x (by simp [Op.operands])
 rw [hx] at rK
 obtain ⟨E1,yh⟩:=rK.cellsOf (by simpa [LV.cells] using Bk)
 simp only [ao] at rK
 obtain ⟨ws,hye,Cg⟩:=rK
 have HD:ws.length=i.size:=by rw [← Cg.length,QB,uQ]
 have Je:(a.eval x).cells.size=i.size:=by rw [hye]; simp [Value.cells,HD]
 have Bf:flat [a.eval x]=ws:=by rw [hye]; simp [flat,Value.cells]
 obtain ⟨cells,B7,B8⟩:∃ cells,Instr.fill (fun i'=>some (i' * i.size,i.size)) ((Array.range (1 * i.size)).map (zv.cells[· % zv.cells.size]!)) [(0,a.eval x)]=some cells∧cells.toList=flat [a.eval x]:=by
  obtain ⟨r,hr,hrs,WH⟩:=Great.fill_dense fE [a.eval x] 0 ((Array.range (1 * i.size)).map (zv.cells[· % zv.cells.size]!)) (fun v hv=>by simp at hv; rw [hv]; exact Je) (by simp)
  refine ⟨r,by simpa using hr,?_⟩
  apply List.ext_getElem?
  intro j
  rw [flat_get fE (fun v hv=>by simp at hv; rw [hv]; exact Je),Array.getElem?_toList,WH j]
  simp only [Nat.zero_mul,Nat.zero_le,true_and,Nat.zero_add,Nat.sub_zero,List.length_singleton]
  by_cases hj:j<1 * i.size
  ·rw [if_pos hj]
  ·rw [if_neg hj]
   have h1:¬ j / i.size<1:=fun hh=>hj ((Nat.div_lt_iff_lt_mul fE).1 hh)
   rw [List.getElem?_eq_none (by simp; omega:[a.eval x].length≤j / i.size)]
   simp; omega
 have nH:cells=ws.toArray:=by rw [← Bf,← B8]
 subst nH
 have dD:(execOp a.eval ⟨some d0,.buildSlice t 1 #[(0,x)],ty,pos,af,gd⟩).run P c.w=.ok (.value (.slice (some ⟨c.w.heap.size,0,.none⟩) 1 1)) (c.w.alloc (.cells ws.toArray el)):=by
  have hb:=run_buildSlice (P:=P) c.w t el 1 #[(0,a.eval x)] ws.toArray i zv hu hi FX (by rw [uQ] at Oc; omega) (by omega) (by simpa using B7)
  simp [execOp,hb]
 have abB:id ∉ S:=fun h=>by
  obtain ⟨e,k',ys,h'⟩:=qo.ids id h
  rw [bX] at h'; cases h'
 have hSB:∀ j ∈ S,∃ u k len ins,c.B j=some (.arr u k len ins):=fun j hj=>by
  obtain ⟨e,k',ys,h'⟩:=qo.ids j hj
  have:=hM.gY j
  rw [h'] at this
  simp only [bo] at this
  obtain ⟨u,vs,hb,_⟩:=this
  exact ⟨u,k',_,_,hb⟩
 have hold:∀ b ∈ jY c S,b<c.w.heap.size:=fun b hb=>by
  obtain ⟨j,hj,be,q1,q2⟩:=rn hb
  exact (hM.gY j).lt q1 q2
 have hB:=hM.fresh bX
 have bt:(c.w.alloc (.cells ws.toArray el)).ownsRow 0 el i.size (.slice (some ⟨c.w.heap.size,0,.none⟩) 1 1) 1 (flat [a.eval x]):=by
  rw [Bf]
  exact ⟨by omega,.inr ⟨c.w.heap.size,1,ws.toArray,rfl,Nat.zero_le _,heap_alloc_new c.w _,Nat.le_refl _,by
   simp only [maxLen]; omega,by simp [HD],by rw [Nat.one_mul,← HD]; simp⟩⟩
 obtain ⟨c',hw,hb,h2,h3⟩:=hM.UR (pr:=pr) id S abB hSB hSp (.nest el (tsize P el) os [.agg eA]) (.arr (.slice (some ⟨c.w.heap.size,0,.none⟩) 1 1) (tsize P el) 1 (jY c S)) (c.w.alloc (.cells ws.toArray el)) rfl rfl rfl (Nat.le_refl _) (by simp)
  (fun b hb _=>rG c.w _ b hb)
  (fun b hb=>by
   rcases hb with hb | hb
   ·simp [Value.ownBlock] at hb; exact .inr (.inr (by omega))
   ·exact .inr (.inl (rn hb)))
  (by rw [hB]; trivial) (fun _ dA h0=>by rw [hB] at h0; cases h0)
  (fun c' hw hle hble hO Cd=>by
   simp only [bo]
   refine ⟨_,[a.eval x],jY c S,rfl,by rw [uQ]; exact fE,by rw [hw,uQ]; exact bt,?_,fun v hv=>by simp at hv; subst hv; exact ⟨by rw [Je,uQ],yh⟩,vj hM hS,fun b hb hb2=>?_⟩
   ·simp only [ed]
    exact ⟨_,[],jY c S,[],rfl,by simp,⟨eA,ws,rfl,hye,qo.rep hM hle Cg (fun b hb=>by rw [hw]; exact rG c.w _ b (hold b hb))⟩,rfl,rfl⟩
   ·simp [Value.ownBlock] at hb
    have:=hold b hb2
    omega)
 refine ⟨_,c',by rw [hw]; exact dD,?_,h2,h3⟩
 simp only [ao]
 exact ⟨rfl,_,_,_,_,hb,Nat.le_refl _,fun _=>rfl⟩
theorem Ps {ff id2:Nat} {ts:Array TypeId} {xs r:List α} {z0:α} {i:Int}
  (hf : ∃ fn, P.funcs[ff]? = some fn ∧ (fn.name == "runtime.NumGoroutine") = false ∧ fn.body.isNone = false) (W : VF P ff e0 k) (hx : ev x = .arr id xs.length) (bX : m id = some (.nest e0 k os (xs.map f))) (hy : ev y = .int .i64 i) (hz : ev z = .arr id2 1) (abz : m id2 = some (.nest e0 k os ([z0].map f))) (eO : id2 ≠ id) (kA : ¬ pr id2) (hi : Pd xs i z0 = some r) :
  bI P pr ⟨d,.call ⟨.value (.func ff),#[x,y,z],ts⟩,ty,pos,af,gd⟩ ev m (.arr id r.length) (m.gone id (.nest e0 k os (r.map f)) [id2]):=by
 unfold Pd at hi
 split at hi
 ·rename_i hb
  obtain rfl:=Option.some.inj hi
  intro c a Q bG hM
  have h1:=bG x (by simp [Op.operands,Call.operands])
  have h2:=bG y (by simp [Op.operands,Call.operands])
  have h3:=bG z (by simp [Op.operands,Call.operands])
  rw [hx] at h1; rw [hy] at h2; rw [hz] at h3
  have iQ:=hM.gY id
  rw [bX] at iQ
  simp only [bo] at iQ
  obtain ⟨u,vs,bs,hB,hk,bt,hn,hc,hnd,uO⟩:=iQ
  have B6:=hM.gY id2
  rw [abz] at B6
  simp only [bo] at B6
  obtain ⟨u2,zs,bz,U5,_,WA,hnz,hcz,abL,agl⟩:=B6
  simp only [ao] at h1 h2 h3
  obtain ⟨_,u',k',nh,nf,kY,Ca,jj⟩:=h1
  rw [hB] at kY; cases kY
  have jj:=jj (by simp)
  obtain ⟨_,u',k',nh,nf,kY,aey,S6⟩:=h3
  rw [U5] at kY; cases kY
  have S6:=S6 (by simp)
  unfold Oper.wp
  rw [K1 hf a c.w]
  simp only [Oper.upon]
  have fQ:a.eval y=.int .i64 ((i.toNat:Nat):Int):=by rw [h2,Int.toNat_of_nonneg hb.1]
  have e1:(#[x,y,z]:Array Operand).map a.eval=#[u,.int .i64 ((i.toNat:Nat):Int),u2]:=by simp [fQ,jj,S6]
  rw [e1]
  have Xg:∀ b,b ∈ bz ∨ u2.ownBlock=some b→b ∉ bs∧u.ownBlock ≠ some b:=fun b hb=>⟨fun h=>eO (hM.inj id2 id _ _ b U5 hB (hb.elim .inr .inl) (.inr h)),fun h=>eO (hM.inj id2 id _ _ b U5 hB (hb.elim .inr .inl) (.inl h))⟩
  have pg:vs.length=xs.length:=by have:=hn.length; simpa using this.symm
  have:=W u xs.length i.toNat (flat vs) u2 (flat zs) c.w (by simpa using bt) (vE fun v hv=>(hc v hv).2) (by omega) hb.2.2 (by simpa using WA) (vE fun v hv=>(hcz v hv).2) (fun b OQ=>(Xg b (.inr OQ)).2)
  refine this.mono ?_
  rintro en w' ⟨u',rfl,hr⟩
  have e2:((xs.take i.toNat++[z0]++xs.drop i.toNat).map f).length=xs.length+1:=by simp; omega
  have e3:(xs.take i.toNat++[z0]++xs.drop i.toNat).length=xs.length+1:=by simp; omega
  obtain ⟨b1,b2,rfl,n1,n2⟩:=hn.split (i:=i.toNat)
  have Wu:∀ b,b ∈ b1++b2 ∨ b ∈ bz→b<c.w.heap.size:=fun b hb=>hb.elim (fun h=>(hM.gY id).lt hB (.inr h)) (fun h=>(hM.gY id2).lt U5 (.inr h))
  have rH:∀ b,b ∈ b1++b2 ∨ b ∈ bz→w'.heap[b]?=c.w.heap[b]?:=fun b hb=>hr.grown.block b (Wu b hb) (fun h=>by
   rcases hb with hb | hb
   ·exact uO b h.symm hb
   ·exact (Xg b (.inl hb)).2 h.symm)
  obtain ⟨c',hw,eb,mE,oH⟩:=hM.UR (pr:=pr) id [id2] (by simp; exact fun h=>eO h.symm) (fun j hj=>by simp at hj; subst hj; exact ⟨_,_,_,_,U5⟩) (fun j hj=>by simp at hj; subst hj; exact kA) (.nest e0 k os ((xs.take i.toNat++[z0]++xs.drop i.toNat).map f)) (.arr u' k (xs.length+1) (b1++bz++b2)) w' hr.grown.os hr.grown.tape hr.grown.output hr.drawn hr.grown.size
   (fun b hb eO=>hr.grown.block b hb (fun hh=>eO _ hB (.inl hh.symm)))
   (fun b hb=>by
    rcases hb with hb | hb
    ·exact (hr.jK b hb).imp (fun h=>⟨_,hB,.inl h⟩) (fun h=>.inr h)
    ·simp only [List.mem_append] at hb
     rcases hb with (h | h) | h
     ·exact .inl ⟨_,hB,.inr (by simp [h])⟩
     ·exact .inr (.inl ⟨id2,by simp,_,U5,.inr h⟩)
     ·exact .inl ⟨_,hB,.inr (by simp [h])⟩)
   (by rw [hB]; exact ⟨_,_,_,rfl,by simp,fun h=>by simp at h⟩)
   (fun _ dA h0=>by rw [hB] at h0; cases h0; exact ⟨_,_,_,rfl,by simp,fun h=>by simp at h⟩)
   (fun c' hw hle hble hO Cd=>by
    simp only [bo]
    refine ⟨u',vs.take i.toNat++zs++vs.drop i.toNat,b1++bz++b2,by rw [e2],hk,?_,?_,?_,?_,?_⟩
    ·have h4:=hr.own
     rw [sS (fun v hv=>(hc v hv).1),yK (fun v hv=>(hc v hv).1),← fI,← fI] at h4
     rw [e2,hw]; exact h4
    ·rw [List.map_append,List.map_append,List.map_take,List.map_drop]
     exact ((n1.mono hle (fun b hb=>by rw [hw]; exact rH b (.inl (by simp [hb])))).app (hnz.mono hle (fun b hb=>by rw [hw]; exact rH b (.inr hb)))).app (n2.mono hle (fun b hb=>by rw [hw]; exact rH b (.inl (by simp [hb]))))
    ·intro v hv
     rcases List.mem_append.1 hv with hv | hv
     ·rcases List.mem_append.1 hv with hv | hv
      ·exact hc v (List.mem_of_mem_take hv)
      ·exact hcz v hv
     ·exact hc v (List.mem_of_mem_drop hv)
    ·have q:=List.nodup_append.1 hnd
     rw [List.append_assoc,List.nodup_append]
     refine ⟨q.1,?_,?_⟩
     ·rw [List.nodup_append]
      exact ⟨abL,q.2.1,fun p hp p' FK Z1=>(Xg p (.inl hp)).1 (by rw [Z1]; simp [FK])⟩
     ·intro p hp p' FK Z1
      rcases List.mem_append.1 FK with h | h
      ·exact (Xg p' (.inl h)).1 (by rw [← Z1]; simp [hp])
      ·exact q.2.2 p hp p' h Z1
    ·intro b hb vH
     have OR:b ∈ b1++b2 ∨ b ∈ bz:=by
      simp only [List.mem_append] at vH ⊢
      rcases vH with (h | h) | h
      ·exact .inl (.inl h)
      ·exact .inr h
      ·exact .inl (.inr h)
     rcases hr.jK b hb with h | h
     ·rcases OR with q | q
      ·exact uO b h q
      ·exact (Xg b (.inl q)).2 h
     ·have:=Wu b OR
      omega)
  refine ⟨u',c',rfl,hw,?_,mE,oH⟩
  rw [e3]
  simp only [ao]
  refine ⟨?_,_,_,_,_,eb,Nat.le_refl _,fun _=>rfl⟩
  rcases hr.own.2 with ⟨rfl,_⟩ | ⟨g,cap,cur,rfl,_⟩ <;> rfl
 ·cases hi
theorem oW.fresh {o:Oper} {ids:List Nat} {i:Nat} {le:LE} (FE:ids=[i]) (hm:m i=.none) (h:∀ m0:Mem,m0 i=.none→bI P pr o ev m0 lv (m0.put i le)):oW P pr o ev ids m lv (m.put i le):=by
 subst FE
 refine ⟨fun j hj=>by simp at hj; simp [Mem.put,hj],fun m0 qG=>?_⟩
 have:=h m0 (by rw [qG i (by simp)]; exact hm)
 refine Eq.mp (congrArg _ ?_) this
 funext j
 by_cases hj:j=i <;> simp [Mem.put,hj]
theorem oW.gone {o:Oper} {ids:List Nat} {i:Nat} {le:LE} {S:List Nat} (Qz:ids=i :: S) (h:∀ m0:Mem,(∀ j,j ∈ i :: S→m0 j=m j)→bI P pr o ev m0 lv (m0.gone i le S)):oW P pr o ev ids m lv (m.gone i le S):=by
 have FE:∀ j,j ∈ ids ↔ (j=i ∨ j ∈ S):=fun j=>by rw [Qz]; simp
 refine ⟨fun j hj=>?_,fun m0 qG=>?_⟩
 ·rw [FE] at hj
  simp only [not_or] at hj
  simp [Mem.gone,hj.1,hj.2]
 ·refine Eq.mp (congrArg _ ?_) (h m0 (fun j hj=>qG j (by rw [Qz]; exact hj)))
  funext j
  by_cases hj:j ∈ ids
  ·simp only [hj,if_true]
   rw [FE] at hj
   simp only [Mem.gone]
   rcases hj with hj | hj
   ·simp [hj]
   ·by_cases h1:j=i <;> simp [h1,hj]
  ·simp only [hj,if_false]
   rw [FE] at hj
   simp only [not_or] at hj
   simp [Mem.gone,hj.1,hj.2]
end
end Go.L
