import Derived.Test.YtiinmaihgmfniaaGreatZLa
import Derived.WideKeyElems
import Derived.Lib.AppendZeros
import Derived.Lib.SliceRun
import Derived.Lib.Overlaps
import Derived.Laws.IdiomCopy
import Derived.Laws.StructEq
import Derived.Shelf.SlSortCmp.NoneTotal
import Derived.Laws.Strings
import Derived.Laws.Concat
import Derived.Laws.BytesString
import Derived.Shelf.Sort.Plain
import Derived.Shelf.Slices.In.SortNone
import Derived.Maps.RangeRun
import Derived.Below
set_option linter.unusedVariables false
set_option linter.unusedSimpArgs false
namespace Go.L

abbrev LV.I:Int→LV:=LV.int .i64
abbrev LV.L (xs:List Int):LV:=.lst 1 (xs.map (LV.int .i64))
abbrev IsF (P : Program) (f : Nat) : Prop := ∃ fn, P.funcs[f]? = some fn ∧ (fn.name == "runtime.NumGoroutine") = false ∧ fn.body.isNone = false
def Sub (x y:LV):Prop:=∀ c v,RepV c x v→RepV c y v
def SubL:List LV→List LV→Prop
 | [],[]=>True
 | x :: xs,y :: ys=>Sub x y∧SubL xs ys
 | _,_=>False
theorem Sub.rfl {x:LV}:Sub x x:=fun _ _ h=>h
theorem Sub.trans {x y z:LV} (h:Sub x y) (k:Sub y z):Sub x z:=fun c v hv=>k c v (h c v hv)
theorem Sub.und {x:LV}:Sub x .und:=fun _ _ _=>by simp [RepV]
theorem Sub.nil {k:Nat}:Sub .nil (.lst k []):=fun c v h=>by
 simp only [RepV] at h ⊢
 subst h
 exact ⟨.none,0,by rfl,Nat.le_refl _,fun _=>by rfl,by rfl,.inl trivial⟩
theorem SubL.rep:∀ {xs ys:List LV},SubL xs ys→∀ {c:Cx} {vs:List Value},RepL c xs vs→RepL c ys vs
 | [],[],_,c,vs,h=>h
 | x :: xs,y :: ys,hs,c,vs,h=>by
  simp only [RepL] at h ⊢
  obtain ⟨v,vs',h0,h1,h2⟩:=h
  exact ⟨v,vs',h0,hs.1 c v h1,SubL.rep hs.2 h2⟩
theorem SubL.rfl:∀ {xs:List LV},SubL xs xs
 | []=>trivial
 | x :: xs=>⟨Sub.rfl,SubL.rfl⟩
theorem Sub.agg {xs ys:List LV} (h:SubL xs ys):Sub (.agg xs) (.agg ys):=fun c v hv=>by
 simp only [RepV] at hv ⊢
 obtain ⟨vs,h0,h1⟩:=hv
 exact ⟨vs,h0,h.rep h1⟩
theorem Sub.tup {xs ys:List LV} (h:SubL xs ys):Sub (.tup xs) (.tup ys):=fun c v hv=>by
 simp only [RepV] at hv ⊢
 obtain ⟨vs,h0,h1⟩:=hv
 exact ⟨vs,h0,h.rep h1⟩
theorem Sub.fn {f:Nat} {xs ys:List LV} (h:SubL xs ys):Sub (.fn f xs) (.fn f ys):=fun c v hv=>by
 simp only [RepV] at hv ⊢
 obtain ⟨vs,h0,h1⟩:=hv
 exact ⟨vs,h0,h.rep h1⟩
theorem LCall.sub {P:Program} {f:Nat} {args args':List LV} {m m':Mem} {lv:LV} (h:LCall P f args' m lv m') (hs:SubL args args'):LCall P f args m lv m':=fun c vs hm ha=>h c vs hm (hs.rep ha)
theorem LCall.res {P:Program} {f:Nat} {args:List LV} {m m':Mem} {lv lv':LV} (h:LCall P f args m lv m') (hs:Sub lv lv'):LCall P f args m lv' m':=fun c vs hm ha=>(h c vs hm ha).mono fun en w' ⟨v,c',h1,h2,h3,h4,h5⟩=>⟨v,c',h1,h2,h3,hs c' v h4,h5⟩

def OkF {α:Type} (k:Nat) (f:α→LV):Prop:=∀ x,(f x).pure=true∧(f x).cells.length=k∧(f x).cells.all LV.scalar=true
theorem OkF.els {α:Type} {k:Nat} {f:α→LV} (h:OkF k f) (xs:List α):okEls k (xs.map f):=by
 intro x hx
 obtain ⟨y,_,rfl⟩:=List.mem_map.1 hx
 exact h y
theorem OkF.pureL {α:Type} {k:Nat} {f:α→LV} (h:OkF k f) (xs:List α):LV.pureL (xs.map f)=true:=pureL_iff.2 fun x hx=>by
 obtain ⟨y,_,rfl⟩:=List.mem_map.1 hx
 exact (h y).1
theorem okI {k:IntKind}:OkF 1 (LV.int k):=fun _=>⟨by rfl,by rfl,by rfl⟩
theorem okB:OkF 1 LV.bool:=fun _=>⟨by rfl,by rfl,by rfl⟩
theorem okL {α:Type} {k:Nat} {f:α→LV}:OkF 1 (fun xs:List α=>LV.lst k (xs.map f)):=fun _=>⟨by rfl,by rfl,by rfl⟩

def idx {α:Type} (xs:List α) (i:Int):Option α:=if 0≤i then xs[i.toNat]? else .none
def slc {α:Type} (xs:List α) (a b:Int):Option (List α):=if 0≤a∧a≤b∧b≤xs.length then some ((xs.take b.toNat).drop a.toNat) else .none
def app {α:Type} (xs ys:List α):Option (List α):=if xs.length+ys.length≤549755813888 then some (xs++ys) else .none
def quo (k:IntKind) (a b:Int):Option Int:=if b=0 then .none else some (k.wrap (a.tdiv b))
def rmd (a b:Int):Option Int:=if b=0 then .none else some (a.tmod b)
def mkl {α:Type} (z:α) (n:Int):Option (List α):=if 0≤n∧n≤549755813888 then some (List.replicate n.toNat z) else .none
def put {α:Type} (xs:List α) (i:Int) (f:α→α):Option (List α):=(idx xs i).bind fun x=>some (xs.set i.toNat (f x))
abbrev i64 (n:Int):Int:=IntKind.i64.wrap n

theorem bindS {α β:Type} {o:Option α} {f:α→Option β} {r:β} (h:o.bind f=some r):∃ a,o=some a∧f a=some r:=by
 cases o with
 | none=>cases h
 | some a=>exact ⟨a,rfl,h⟩
theorem iteT {α:Type} {b:Bool} {x y:Option α} {r:α} (h:(if b=true then x else y)=some r) (hb:b=true):x=some r:=by rw [if_pos hb] at h; exact h
theorem iteF {α:Type} {b:Bool} {x y:Option α} {r:α} (h:(if b=true then x else y)=some r) (hb:b=false):y=some r:=by rw [if_neg (by simp [hb])] at h; exact h
theorem bF {b:Bool} (h:¬ b=true):b=false:=by cases b <;> simp_all

section
variable {P:Program} {N:Nat} {pr:Nat→Prop} {ro:List Nat} {ops:Array Oper} {e:Env} {m:Mem} {ev:Operand→LV} {d:Option Nat} {i j q:Nat} {want:Bool} {op:Op} {ty:TypeId} {pos:String} {af:Array Edge} {g:Option (Nat × Bool)} {l:List Oper} {mds:List Nat} {KE:Env→Mem→Prop} {K:LV→Mem→Prop}

def SOps (P:Program) (N:Nat) (pr:Nat→Prop) (ops:Array Oper) (l:List Oper) (K:Env→Mem→Prop) (e:Env) (m:Mem):Prop :=
 (∀ q ∈ ops,∀ i,q.dst=some i→i<N)→(∀ o ∈ l,o ∈ ops)→∃ e' m',K e' m'∧∀ (c:Cx) (a:Act),Rep N c e m a→wpList P ops (fun x a' w'=>x=.normal∧∃ c':Cx,c'.w=w'∧Rep N c' e' m' a'∧Grow pr c c') l a c.w
theorem wpList_mono:∀ (l:List Oper) (a:Act) (w:World) (Q Q':Exit→Act→World→Prop),(∀ x a w,Q x a w→Q' x a w)→wpList P ops Q l a w→wpList P ops Q' l a w:=by
 intro l
 induction l with
 | nil=>intro a w Q Q' hq hh; exact hq _ _ _ hh
 | cons o l ih =>
  intro a w Q Q' hq hh
  simp only [wpList] at hh ⊢
  split
  ·rename_i hwt
   rw [if_pos hwt] at hh
   rcases hh with hh | ⟨h1,a0,w0,h2⟩
   ·left
    unfold Oper.wp at hh ⊢
    generalize (execOp a.eval o).run P w=r at hh ⊢
    cases r with
    | ok nx w' =>
     cases nx <;> simp only [Oper.upon] at hh ⊢ <;> first
      | exact ih _ _ _ _ hq hh
      | exact Calls.mono hh (fun en w'' he=>by cases en <;> first | exact ih _ _ _ _ hq he | exact hq _ _ _ he | exact he.imp fun _=>Exists.imp fun _=>hq _ _ _)
      | exact Rows.mono hh (fun _ _ he=>ih _ _ _ _ hq he)
    | halt x w'=>cases x <;> simp only [Oper.upon] at hh ⊢ <;> first | exact hq _ _ _ hh | exact hh
   ·exact .inr ⟨h1,a0,w0,hq _ _ _ h2⟩
  ·rename_i hwt
   rw [if_neg hwt] at hh
   exact ih _ _ _ _ hq hh
theorem SOps.step {o:Oper} (h:LStep P pr ro ops o (SOps P N pr ops l KE) e m):SOps P N pr ops (o :: l) KE e m:=by
 intro hd hl
 obtain ⟨lv,m1,h1,hstep⟩:=LStep_sound hd (hd o (hl o (by simp))) h
 obtain ⟨e',m',hK,hrest⟩:=h1 hd (fun q hq=>hl q (by simp [hq]))
 refine ⟨e',m',hK,fun c a hr=>?_⟩
 simp only [wpList]
 refine hstep c a _ _ hr ?_
 intro a' c' hr' hs
 refine wpList_mono _ _ _ _ _ ?_ (hrest c' a' hr')
 rintro x a'' w'' ⟨hx,c2,hw2,hr2,hg2⟩
 exact ⟨hx,c2,hw2,hr2,hs.grow.trans hg2⟩
theorem SOps.wk {e':Env} {m':Mem} (hw:Wk pr e m e' m') (h:SOps P N pr ops l KE e' m'):SOps P N pr ops l KE e m:=by
 intro hd hl
 obtain ⟨e2,m2,hK,hrun⟩:=h hd hl
 refine ⟨e2,m2,hK,fun c a hr=>?_⟩
 obtain ⟨c1,hw1,hr1,hg1⟩:=hw N c a hr
 rw [← hw1]
 refine wpList_mono _ _ _ _ _ ?_ (hrun c1 a hr1)
 rintro x a' w' ⟨hx,c2,hw2,hr2,hg2⟩
 exact ⟨hx,c2,hw2,hr2,hg1.trans hg2⟩
theorem s0 (h:KE e m):SOps P N pr ops [] KE e m:=fun _ _=>⟨e,m,h,fun c a hr=>⟨rfl,c,rfl,hr,.refl pr c⟩⟩
theorem sN (h:LOp P pr [] ⟨some i,op,ty,pos,af,.none⟩ (lev e) m fun lv m'=>SOps P N pr ops l KE (e.put i lv) m'):SOps P N pr ops (⟨some i,op,ty,pos,af,.none⟩ :: l) KE e m:=SOps.step (ro:=[]) h
theorem sB (h:LOp P pr [i] ⟨some i,op,ty,pos,af,.none⟩ (lev e) m fun lv m'=>SOps P N pr ops l KE (e.put i lv) m'):SOps P N pr ops (⟨some i,op,ty,pos,af,.none⟩ :: l) KE e m:=SOps.step (ro:=[i]) h
theorem s_ (h:LOp P pr [] ⟨.none,op,ty,pos,af,.none⟩ (lev e) m fun lv m'=>SOps P N pr ops l KE e m'):SOps P N pr ops (⟨.none,op,ty,pos,af,.none⟩ :: l) KE e m:=SOps.step (ro:=[]) h
theorem sT (hj:(ops[j]?).bind (·.dst)=some q) (hg:e q=.bool want) (h:LOp P pr [] ⟨some i,op,ty,pos,af,some (j,want)⟩ (lev e) m fun lv m'=>SOps P N pr ops l KE (e.put i lv) m'):SOps P N pr ops (⟨some i,op,ty,pos,af,some (j,want)⟩ :: l) KE e m:=SOps.step (ro:=[]) (by
 rw [LStep_some,hj]; simp only [hg,if_true]; exact h)
theorem sF {t:Bool} (hj:(ops[j]?).bind (·.dst)=some q) (hg:e q=.bool t) (hn:t=!want) (h:SOps P N pr ops l KE (e.put i (.tup [])) m):SOps P N pr ops (⟨some i,op,ty,pos,af,some (j,want)⟩ :: l) KE e m:=SOps.step (ro:=[]) (by
 subst hn
 rw [LStep_some,hj]; simp only [hg]; cases want <;> exact h)
theorem sU (hj:(ops[j]?).bind (·.dst)=some q) (hg:e q=.tup []) (h:SOps P N pr ops l KE (e.put i (.tup [])) m):SOps P N pr ops (⟨some i,op,ty,pos,af,some (j,want)⟩ :: l) KE e m:=SOps.step (ro:=[]) (by
 rw [LStep_some,hj]; simp only [hg]; exact h)

theorem m0 (h:KE e m):LOpsM P pr ro ops (List.zip [] []) KE e m:=h
theorem mN0 (h:LOp P pr ro ⟨some i,op,ty,pos,af,.none⟩ (lev e) Mem.none fun lv m'=>m'=Mem.none∧LOpsM P pr ro ops (List.zip l mds) KE (e.put i lv) m):LOpsM P pr ro ops (List.zip (⟨some i,op,ty,pos,af,.none⟩ :: l) (0 :: mds)) KE e m:=h
theorem mN1 (h:LOp P pr ro ⟨some i,op,ty,pos,af,.none⟩ (lev e) m fun lv m'=>m'=m∧LOpsM P pr ro ops (List.zip l mds) KE (e.put i lv) m):LOpsM P pr ro ops (List.zip (⟨some i,op,ty,pos,af,.none⟩ :: l) (1 :: mds)) KE e m:=h
theorem mN2 (h:LOp P pr ro ⟨some i,op,ty,pos,af,.none⟩ (lev e) m fun lv m'=>LOpsM P pr ro ops (List.zip l mds) KE (e.put i lv) m'):LOpsM P pr ro ops (List.zip (⟨some i,op,ty,pos,af,.none⟩ :: l) (2 :: mds)) KE e m:=h
theorem mT {md:Nat} (hj:(ops[j]?).bind (·.dst)=some q) (hg:e q=.bool want) (h:LOpsM P pr ro ops (List.zip (⟨d,op,ty,pos,af,.none⟩ :: l) (md :: mds)) KE e m):LOpsM P pr ro ops (List.zip (⟨d,op,ty,pos,af,some (j,want)⟩ :: l) (md :: mds)) KE e m:=by
 show LStepM P pr ro ops md _ _ e m
 rw [LStepM_g,hj]; simp only [hg,if_true]; exact h
theorem mF {md:Nat} {t:Bool} (hj:(ops[j]?).bind (·.dst)=some q) (hg:e q=.bool t) (hn:t=!want) (h:LOpsM P pr ro ops (List.zip l mds) KE (e.put i (.tup [])) m):LOpsM P pr ro ops (List.zip (⟨some i,op,ty,pos,af,some (j,want)⟩ :: l) (md :: mds)) KE e m:=by
 subst hn
 show LStepM P pr ro ops md _ _ e m
 rw [LStepM_g,hj]; simp only [hg]; cases want <;> exact h
theorem mU {md:Nat} (hj:(ops[j]?).bind (·.dst)=some q) (hg:e q=.tup []) (h:LOpsM P pr ro ops (List.zip l mds) KE (e.put i (.tup [])) m):LOpsM P pr ro ops (List.zip (⟨some i,op,ty,pos,af,some (j,want)⟩ :: l) (md :: mds)) KE e m:=by
 show LStepM P pr ro ops md _ _ e m
 rw [LStepM_g,hj]; simp only [hg]; exact h

variable {x y a:Operand} {t t':TypeId} {k k':IntKind} {v:LV} {u w:Int} {b c:Bool} {cs cs':List LV} {n id o off el ft kk:Nat}
theorem oM (hx:ev x=v) (h:K v m):LOp P pr ro ⟨d,.move x,ty,pos,af,g⟩ ev m K:=by rw [LOp_move,hx]; exact h
theorem oA (hx:ev x=v) (h:K v m):LOp P pr ro ⟨d,.assign x,ty,pos,af,g⟩ ev m K:=by rw [LOp_assign,hx]; exact h
theorem oPkT {z:Operand} (hc:ev x=.bool true) (ha:ev y=v) (h:K v m):LOp P pr ro ⟨d,.pick x y z,ty,pos,af,g⟩ ev m K:=by rw [LOp_pick,hc]; simp only [if_true]; rw [ha]; exact h
theorem oPkF {z:Operand} (hc:ev x=.bool false) (ha:ev z=v) (h:K v m):LOp P pr ro ⟨d,.pick x y z,ty,pos,af,g⟩ ev m K:=by rw [LOp_pick,hc]; simp only [Bool.false_eq_true,if_false]; rw [ha]; exact h
theorem oAl {z:LV} (hi:100+i=id) (hz:tzero P t=some z) (hc:z.cells=cs) (hf:m id=.none) (h:K (.ptr id 0) (m.put id (.box cs))):LOp P pr ro ⟨some i,.alloc t,ty,pos,af,g⟩ ev m K:=by
 subst hi; subst hc; rw [LOp_alloc,hz]; exact ⟨hf,h⟩
theorem oBxR (hr:ro.contains i=true) (hx:ev x=v) (hc:v.cells=cs) (hs:cs.all LV.scalar=true) (h:K (.sptr cs) m):LOp P pr ro ⟨some i,.box t x,ty,pos,af,g⟩ ev m K:=by
 subst hc; rw [LOp_box,hx,if_pos hr]; exact ⟨hs,h⟩
theorem oBx (hr:ro.contains i=false) (hi:100+i=id) (hx:ev x=v) (hc:v.cells=cs) (hs:cs.all LV.scalar=true) (hf:m id=.none) (h:K (.ptr id 0) (m.put id (.box cs))):LOp P pr ro ⟨some i,.box t x,ty,pos,af,g⟩ ev m K:=by
 subst hi; subst hc; rw [LOp_box,hx,if_neg (by rw [hr]; simp)]; exact ⟨hs,hf,h⟩
theorem lf0:lfill P t cs []=some cs:=rfl
theorem lf {res:List LV} {r:List (Nat × LV)} (hf:tfield P t i=some (off,ft)) (hs:tsize P ft=v.cells.length) (hk:tok P ft=true) (hl:Nat.ble (off+v.cells.length) cs.length=true) (hsc:v.cells.all LV.scalar=true) (hr:rep cs off v.cells=cs') (h:lfill P t cs' r=some res):lfill P t cs ((i,v) :: r)=some res:=by
 subst hr
 simp only [lfill,hf]
 rw [if_pos ⟨hs.symm,Nat.le_of_ble_eq_true hl,hk,hsc⟩]; exact h
theorem oBd {z:List LV} {ps:List (Nat × Operand)} {vs:List (Nat × LV)} (hb:tbuild P t=true) (hz:tzero P t=some (.agg z)) (hv:(ps.map fun p=>(p.1,ev p.2))=vs) (hf:lfill P t z vs=some cs) (h:K (.agg cs) m):LOp P pr ro ⟨d,.build t ps.toArray,ty,pos,af,g⟩ ev m K:=by
 rw [LOp_build,hz]; refine ⟨hb,?_⟩; simp only [hv,hf]; exact h
theorem oBS {α:Type} {f:α→LV} {ys:List α} {ps:List (Nat × Operand)} (he:telem P t=some el) (hr:trow P el=true) (hk:tsize P el=kk) (hb:Nat.ble (n * kk) 16777216=true) (hi:ps.map (·.1)=List.range n) (hv:(ps.map fun p=>ev p.2)=ys.map f) (hok:OkF kk f) (h:K (.lst kk (ys.map f)) m):LOp P pr ro ⟨d,.buildSlice t n ps.toArray,ty,pos,af,g⟩ ev m K:=by
 subst hk
 rw [LOp_buildSlice,he]; exact ⟨hr,Nat.le_of_ble_eq_true hb,hi,by rw [hv]; exact hok.els ys,by rw [hv]; exact h⟩
theorem oLd (hx:ev a=.sptr (v :: cs)) (ht:tok P t=true) (ha:tagg P t=false) (h:K v m):LOp P pr ro ⟨d,.load t a,ty,pos,af,g⟩ ev m K:=by
 rw [LOp_load,hx]; simp only [loadC_def,ha,Bool.false_eq_true,if_false]; exact ⟨ht,h⟩
theorem oLdA (hx:ev a=.sptr cs) (ht:tok P t=true) (ha:tagg P t=true) (hs:tsize P t=n) (hl:Nat.ble n cs.length=true) (hc:cs.take n=cs') (h:K (.agg cs') m):LOp P pr ro ⟨d,.load t a,ty,pos,af,g⟩ ev m K:=by
 subst hc; subst hs
 rw [LOp_load,hx]; simp only [loadC_def,ha,if_true]; exact ⟨ht,Nat.le_of_ble_eq_true hl,h⟩
theorem oLdP {r:List LV} (hx:ev a=.ptr id o) (hm:m id=some (.box cs)) (hl:Nat.ble o cs.length=true) (hc:cs.drop o=v :: r) (ht:tok P t=true) (ha:tagg P t=false) (h:K v m):LOp P pr ro ⟨d,.load t a,ty,pos,af,g⟩ ev m K:=by
 rw [LOp_load,hx]; simp only [hm,loadC_def,hc,ha,Bool.false_eq_true,if_false]; exact ⟨Nat.le_of_ble_eq_true hl,ht,h⟩
theorem oLdPA (hx:ev a=.ptr id o) (hm:m id=some (.box cs)) (hl:Nat.ble o cs.length=true) (ht:tok P t=true) (ha:tagg P t=true) (hs:tsize P t=n) (hl2:Nat.ble n (cs.drop o).length=true) (hc:(cs.drop o).take n=cs') (h:K (.agg cs') m):LOp P pr ro ⟨d,.load t a,ty,pos,af,g⟩ ev m K:=by
 subst hc; subst hs
 rw [LOp_load,hx]; simp only [hm,loadC_def,ha,if_true]; exact ⟨Nat.le_of_ble_eq_true hl,ht,Nat.le_of_ble_eq_true hl2,h⟩
theorem oLdE {α:Type} {f:α→LV} {xs:List α} {z:α} {r:List LV} (hx:ev a=.eptr id xs.length j o) (hm:m id=some (.arr el kk (xs.map f))) (hz:xs[j]?=some z) (hsc:(f z).cells.all LV.scalar=true) (hl:Nat.ble o (f z).cells.length=true) (hc:(f z).cells.drop o=v :: r) (ht:tok P t=true) (ha:tagg P t=false) (h:K v m):LOp P pr ro ⟨d,.load t a,ty,pos,af,g⟩ ev m K:=by
 rw [LOp_load,hx]; simp only [hm,List.length_map,List.getElem?_map,hz,Option.map_some,loadC_def]
 exact ⟨trivial,f z,rfl,hsc,Nat.le_of_ble_eq_true hl,ht,by rw [ha,hc]; exact h⟩
theorem oLdEA {α:Type} {f:α→LV} {xs:List α} {z:α} (hx:ev a=.eptr id xs.length j o) (hm:m id=some (.arr el kk (xs.map f))) (hz:xs[j]?=some z) (hsc:(f z).cells.all LV.scalar=true) (hl:Nat.ble o (f z).cells.length=true) (ht:tok P t=true) (ha:tagg P t=true) (hs:tsize P t=n) (hl2:Nat.ble n ((f z).cells.drop o).length=true) (hc:((f z).cells.drop o).take n=cs') (h:K (.agg cs') m):LOp P pr ro ⟨d,.load t a,ty,pos,af,g⟩ ev m K:=by
 subst hc; subst hs
 rw [LOp_load,hx]; simp only [hm,List.length_map,List.getElem?_map,hz,Option.map_some,loadC_def]
 exact ⟨trivial,f z,rfl,hsc,Nat.le_of_ble_eq_true hl,ht,by rw [if_pos ha]; exact ⟨Nat.le_of_ble_eq_true hl2,h⟩⟩
theorem oSt (hx:ev a=.ptr id o) (hv:ev x=v) (hsc:v.cells.all LV.scalar=true) (ht:tok P t=true) (hs:tsize P t=v.cells.length) (hm:m id=some (.box cs)) (hl:Nat.ble (o+v.cells.length) cs.length=true) (hc:rep cs o v.cells=cs') (h:K .und (m.put id (.box cs'))):LOp P pr ro ⟨d,.store t a x,ty,pos,af,g⟩ ev m K:=by
 subst hc
 rw [LOp_store,hv,hx]; simp only [hm]; exact ⟨hsc,ht,hs,Nat.le_of_ble_eq_true hl,h⟩
theorem map_set' {α β:Type} (f:α→β) (xs:List α) (j:Nat) (z:α):(xs.map f).set j (f z)=(xs.set j z).map f:=by
 simp [List.map_set]
theorem oStE {α:Type} {f:α→LV} {xs:List α} {z z':α} (hx:ev a=.eptr id xs.length j o) (hv:ev x=v) (hsc:v.cells.all LV.scalar=true) (hp:LV.pureL v.cells=true) (ht:tok P t=true) (hs:tsize P t=v.cells.length) (hm:m id=some (.arr el kk (xs.map f))) (hz:xs[j]?=some z) (hw:setEl (f z) o v=some (f z')) (h:K .und (m.put id (.arr el kk ((xs.set j z').map f)))):LOp P pr ro ⟨d,.store t a x,ty,pos,af,g⟩ ev m K:=by
 rw [LOp_store,hv,hx]; simp only [hm]
 exact ⟨hsc,ht,hs,by simp,hp,f z,f z',by simp [hz],hw,by rw [map_set']; exact h⟩
theorem oNC (hx:ev x=.ptr id o) (h:K (.ptr id o) m):LOp P pr ro ⟨d,.nilCheck x,ty,pos,af,g⟩ ev m K:=by rw [LOp_nilCheck,hx]; exact h
theorem oAdd (hx:ev x=.int k u) (hy:ev y=.int k w) (h:K (.int k (k.wrap (u+w))) m):LOp P pr ro ⟨d,.binOp .add t x y t',ty,pos,af,g⟩ ev m K:=by rw [LOp_binOp,hx,hy]; exact ⟨rfl,h⟩
theorem oSub (hx:ev x=.int k u) (hy:ev y=.int k w) (h:K (.int k (k.wrap (u - w))) m):LOp P pr ro ⟨d,.binOp .sub t x y t',ty,pos,af,g⟩ ev m K:=by rw [LOp_binOp,hx,hy]; exact ⟨rfl,h⟩
theorem oMul (hx:ev x=.int k u) (hy:ev y=.int k w) (h:K (.int k (k.wrap (u * w))) m):LOp P pr ro ⟨d,.binOp .mul t x y t',ty,pos,af,g⟩ ev m K:=by rw [LOp_binOp,hx,hy]; exact ⟨rfl,h⟩
theorem oQuo {r:Int} (hx:ev x=.int k u) (hy:ev y=.int k w) (hr:quo k u w=some r) (h:K (.int k r) m):LOp P pr ro ⟨d,.binOp .quo t x y t',ty,pos,af,g⟩ ev m K:=by
 rw [LOp_binOp,hx,hy]; unfold quo at hr; split at hr
 ·cases hr
 ·rename_i h0; cases hr; exact ⟨rfl,h0,h⟩
theorem oRem {r:Int} (hx:ev x=.int k u) (hy:ev y=.int k w) (hr:rmd u w=some r) (h:K (.int k r) m):LOp P pr ro ⟨d,.binOp .rem t x y t',ty,pos,af,g⟩ ev m K:=by
 rw [LOp_binOp,hx,hy]; unfold rmd at hr; split at hr
 ·cases hr
 ·rename_i h0; cases hr; exact ⟨rfl,h0,h⟩
theorem oEq (hx:ev x=.int k u) (hy:ev y=.int k w) (h:K (.bool (u == w)) m):LOp P pr ro ⟨d,.binOp .eql t x y t',ty,pos,af,g⟩ ev m K:=by rw [LOp_binOp,hx,hy]; exact ⟨rfl,h⟩
theorem oNe (hx:ev x=.int k u) (hy:ev y=.int k w) (h:K (.bool (u != w)) m):LOp P pr ro ⟨d,.binOp .neq t x y t',ty,pos,af,g⟩ ev m K:=by rw [LOp_binOp,hx,hy]; exact ⟨rfl,h⟩
theorem oLt (hx:ev x=.int k u) (hy:ev y=.int k w) (h:K (.bool (decide (u<w))) m):LOp P pr ro ⟨d,.binOp .lss t x y t',ty,pos,af,g⟩ ev m K:=by rw [LOp_binOp,hx,hy]; exact ⟨rfl,h⟩
theorem oLe (hx:ev x=.int k u) (hy:ev y=.int k w) (h:K (.bool (decide (u≤w))) m):LOp P pr ro ⟨d,.binOp .leq t x y t',ty,pos,af,g⟩ ev m K:=by rw [LOp_binOp,hx,hy]; exact ⟨rfl,h⟩
theorem oGt (hx:ev x=.int k u) (hy:ev y=.int k w) (h:K (.bool (decide (u > w))) m):LOp P pr ro ⟨d,.binOp .gtr t x y t',ty,pos,af,g⟩ ev m K:=by rw [LOp_binOp,hx,hy]; exact ⟨rfl,h⟩
theorem oGe (hx:ev x=.int k u) (hy:ev y=.int k w) (h:K (.bool (decide (u ≥ w))) m):LOp P pr ro ⟨d,.binOp .geq t x y t',ty,pos,af,g⟩ ev m K:=by rw [LOp_binOp,hx,hy]; exact ⟨rfl,h⟩
theorem oEqA (hx:ev x=.agg cs) (hy:ev y=.agg cs') (ht:AggEq P t cs cs' b) (h:K (.bool b) m):LOp P pr ro ⟨d,.binOp .eql t x y t',ty,pos,af,g⟩ ev m K:=by rw [LOp_binOp,hx,hy]; exact ⟨b,ht,h⟩
theorem oNeA (hx:ev x=.agg cs) (hy:ev y=.agg cs') (ht:AggEq P t cs cs' b) (h:K (.bool (!b)) m):LOp P pr ro ⟨d,.binOp .neq t x y t',ty,pos,af,g⟩ ev m K:=by rw [LOp_binOp,hx,hy]; exact ⟨b,ht,h⟩
theorem oNot (hx:ev x=.bool b) (h:K (.bool (!b)) m):LOp P pr ro ⟨d,.unOp .not t x,ty,pos,af,g⟩ ev m K:=by rw [LOp_not,hx]; exact h
theorem oCv (hk:tok P t=true) (ht:tint P t'=some k') (hx:ev x=.int k u) (h:K (.int k' (k'.wrap u)) m):LOp P pr ro ⟨d,.convert t t' x,ty,pos,af,g⟩ ev m K:=by rw [LOp_convert,ht,hx]; exact ⟨hk,h⟩
theorem slcOk {α:Type} {xs r:List α} (h:slc xs u w=some r):0≤u∧u≤w∧w≤xs.length∧r=(xs.take w.toNat).drop u.toNat:=by
 unfold slc at h; split at h
 ·rename_i h0; cases h; exact ⟨h0.1,h0.2.1,h0.2.2,rfl⟩
 ·cases h
theorem oSl {α:Type} {f:α→LV} {xs r:List α} {lo hi:Option Operand} (he:telem P t=some el) (hk:tok P el=true) (hs:tsize P el=kk) (hx:ev x=.lst kk (xs.map f)) (hlo:(match lo with | .none=>u=0 | some z=>ev z=.int .i64 u)) (hhi:(match hi with | .none=>w=(xs.length:Int) | some z=>ev z=.int .i64 w)) (hr:slc xs u w=some r) (h:K (.lst kk (r.map f)) m):LOp P pr ro ⟨d,.slice t x lo hi .none,ty,pos,af,g⟩ ev m K:=by
 obtain ⟨h0,h1,h2,rfl⟩:=slcOk hr
 rw [LOp_slice,he,hx]
 refine ⟨rfl,hk,by trivial,by simp [hs],u.toNat,w.toNat,?_,?_,by omega,by simp; omega,?_⟩
 ·cases lo with
  | none=>simp only at hlo; subst hlo; rfl
  | some z=>simp only at hlo ⊢; rw [hlo,Int.toNat_of_nonneg h0]
 ·cases hi with
  | none=>simp only at hhi; subst hhi; simp
  | some z=>simp only at hhi ⊢; rw [hhi,Int.toNat_of_nonneg (by omega)]
 ·rw [← List.map_take,← List.map_drop]; exact h
theorem oFa (hf:tfield P t n=some (off,ft)) (hk:tok P ft=true) (hs:tsize P ft=kk+1) (hx:ev x=.ptr id o) (hi:o+off=i) (h:K (.ptr id i) m):LOp P pr ro ⟨d,.fieldAddr t x n,ty,pos,af,g⟩ ev m K:=by
 subst hi; rw [LOp_fieldAddr,hf,hx]; exact ⟨hk,by rw [hs]; simp,h⟩
theorem oFaS (hf:tfield P t n=some (off,ft)) (hk:tok P ft=true) (hs:tsize P ft=kk+1) (hx:ev x=.sptr cs) (hl:Nat.ble off cs.length=true) (hi:cs.drop off=cs') (h:K (.sptr cs') m):LOp P pr ro ⟨d,.fieldAddr t x n,ty,pos,af,g⟩ ev m K:=by
 subst hi; rw [LOp_fieldAddr,hf,hx]; exact ⟨hk,by rw [hs]; simp,Nat.le_of_ble_eq_true hl,h⟩
theorem oFaE {α:Type} {f:α→LV} {xs:List α} {el' kk':Nat} (hf:tfield P t n=some (off,ft)) (hk:tok P ft=true) (hs:tsize P ft=kk+1) (hx:ev x=.eptr id xs.length j o) (hm:m id=some (.arr el' kk' (xs.map f))) (hi:o+off=i) (h:K (.eptr id xs.length j i) m):LOp P pr ro ⟨d,.fieldAddr t x n,ty,pos,af,g⟩ ev m K:=by
 subst hi; rw [LOp_fieldAddr,hf,hx]; simp only [hm]; exact ⟨hk,by rw [hs]; simp,by simp,h⟩
theorem idxOk {α:Type} {xs:List α} {z:α} (h:idx xs u=some z):0≤u∧xs[u.toNat]?=some z:=by
 unfold idx at h; split at h
 ·exact ⟨by assumption,h⟩
 ·cases h
theorem oIx {α:Type} {f:α→LV} {xs:List α} {z:α} (he:telem P t=some el) (hk:tok P el=true) (hs:tsize P el=kk) (hx:ev x=.lst kk (xs.map f)) (hy:ev y=.int k u) (hok:OkF kk f) (hz:idx xs u=some z) (hc:(f z).cells=cs) (h:K (.sptr cs) m):LOp P pr ro ⟨d,.indexAddr t x y,ty,pos,af,g⟩ ev m K:=by
 obtain ⟨h0,h1⟩:=idxOk hz
 subst hc; subst hs
 rw [LOp_indexAddr,he,hx,hy]
 exact ⟨hk,rfl,h0,f z,by simp [h1],(hok z).2.2,h⟩
theorem oIxA {α:Type} {f:α→LV} {xs:List α} {z:α} (he:telem P t=some el) (hk:tok P el=true) (hs:tsize P el=kk) (hx:ev x=.arr id xs.length) (hm:m id=some (.arr el kk (xs.map f))) (hy:ev y=.int k u) (hz:idx xs u=some z) (h:K (.eptr id xs.length u.toNat 0) m):LOp P pr ro ⟨d,.indexAddr t x y,ty,pos,af,g⟩ ev m K:=by
 obtain ⟨h0,h1⟩:=idxOk hz
 subst hs
 have:=(List.getElem?_eq_some_iff.1 h1).1
 rw [LOp_indexAddr,he,hx,hy]; simp only [hm]
 exact ⟨hk,by simp,trivial,h0,by omega,h⟩
theorem oEx {vs:List LV} (hx:ev x=.tup vs) (hv:vs[n]?=some v) (h:K v m):LOp P pr ro ⟨d,.extract x n,ty,pos,af,g⟩ ev m K:=by rw [LOp_extract,hx]; exact ⟨v,hv,h⟩
theorem oMF {f:Nat} {cap:List Operand} {vs:List LV} (hv:cap.map ev=vs) (h:K (.fn f vs) m):LOp P pr ro ⟨d,.makeFunc (.func f) #[] cap.toArray,ty,pos,af,g⟩ ev m K:=by rw [LOp_makeFunc,hv]; exact h
theorem oMk {α:Type} {f:α→LV} {z:α} {r:List α} (hi:100+i=id) (he:telem P t=some el) (hz:tzero P el=some (f z)) (hr:trow P el=true) (hk:tsize P el=kk) (hx:ev x=.int .i64 u) (hy:ev y=.int .i64 u) (hp:(f z).pure=true) (hl:mkl z u=some r) (hf:m id=.none) (h:K (.arr id r.length) (m.put id (.arr el kk (r.map f)))):LOp P pr ro ⟨some i,.makeSlice t x y,ty,pos,af,g⟩ ev m K:=by
 subst hi; subst hk
 unfold mkl at hl; split at hl
 ·rename_i h0; cases hl
  rw [LOp_makeSlice,he]
  simp only [Option.getD_some,hz,hx,hy]
  exact ⟨trivial,h0.1,h0.2,hr,hp,hf,by simpa using h⟩
 ·cases hl
theorem oLnL {α:Type} {f:α→LV} {xs:List α} (he:telem P t=some el) (hx:ev x=.lst kk (xs.map f)) (h:K (.int .i64 xs.length) m):LOp P pr ro ⟨d,.call ⟨.builtin .len,#[x],#[t]⟩,ty,pos,af,g⟩ ev m K:=by rw [LOp_len,hx]; exact ⟨by rw [he]; rfl,by simpa using h⟩
theorem oLnA {α:Type} {f:α→LV} {xs:List α} {el':Nat} (he:telem P t=some el) (hx:ev x=.arr id xs.length) (hm:m id=some (.arr el' kk (xs.map f))) (h:K (.int .i64 xs.length) m):LOp P pr ro ⟨d,.call ⟨.builtin .len,#[x],#[t]⟩,ty,pos,af,g⟩ ev m K:=by
 rw [LOp_len,hx]; simp only [hm]; exact ⟨by rw [he]; rfl,by simp,h⟩
theorem appOk {α:Type} {xs ys r:List α} (h:app xs ys=some r):xs.length+ys.length≤549755813888∧r=xs++ys:=by
 unfold app at h; split at h
 ·cases h; exact ⟨by assumption,rfl⟩
 ·cases h
theorem oAp {α:Type} {f:α→LV} {xs ys r:List α} (he:telem P t=some el) (hr:trow P el=true) (hs:tsize P el=kk) (hx:ev x=.arr id xs.length) (hm:m id=some (.arr el kk (xs.map f))) (hp:¬ pr id) (hy:ev y=.lst kk (ys.map f)) (hl:app xs ys=some r) (h:K (.arr id r.length) (m.put id (.arr el kk (r.map f)))):LOp P pr ro ⟨some i,.call ⟨.builtin .append,#[x,y],#[t,t]⟩,ty,pos,af,g⟩ ev m K:=by
 obtain ⟨h0,rfl⟩:=appOk hl
 subst hs
 rw [LOp_append,he,hy,hx]
 refine ⟨rfl,hr,rfl,?_⟩
 simp only [appTo,hm]
 exact ⟨hp,by trivial,by trivial,by simp,by simpa using h0,by simpa using h⟩
theorem oApN {α:Type} {f:α→LV} {ys r:List α} (hi:100+i=id) (he:telem P t=some el) (hr:trow P el=true) (hs:tsize P el=kk) (hx:ev x=.nil) (hy:ev y=.lst kk (ys.map f)) (hl:app [] ys=some r) (hf:m id=.none) (h:K (.arr id r.length) (m.put id (.arr el kk (r.map f)))):LOp P pr ro ⟨some i,.call ⟨.builtin .append,#[x,y],#[t,t]⟩,ty,pos,af,g⟩ ev m K:=by
 obtain ⟨h0,rfl⟩:=appOk hl
 subst hs; subst hi
 rw [LOp_append,he,hy,hx]
 refine ⟨rfl,hr,rfl,?_⟩
 simp only [appTo]
 exact ⟨hf,by simpa using h0,by simpa using h⟩
theorem oCP {f : Nat} {cap args args' : List LV} {xs : List Operand} {ts : Array TypeId} (hx : ev x = .fn f cap) (hf : ∃ fn, P.funcs[f]? = some fn ∧ (fn.name == "runtime.NumGoroutine") = false ∧ fn.body.isNone = false) (ha : xs.map ev ++ cap = args) (hs : SubL args args') (hc : LCall P f args' (Mem.of []) v (Mem.of [])) (hp : LV.pureL args = true) (h : K v m) : LOp P pr ro ⟨d, .call ⟨.value x, xs.toArray, ts⟩, ty, pos, af, g⟩ ev m K := by
 subst ha
 rw [LOp_call,hx]
 exact ⟨hf,PCall.callS (hc.sub hs) hp m h⟩
theorem oCM {f : Nat} {cap args args' : List LV} {xs : List Operand} {ts : Array TypeId} {ml ml' : List (Nat × LE)} (hx : ev x = .fn f cap) (hf : ∃ fn, P.funcs[f]? = some fn ∧ (fn.name == "runtime.NumGoroutine") = false ∧ fn.body.isNone = false) (ha : xs.map ev ++ cap = args) (hs : SubL args args') (hc : LCall P f args' (Mem.of ml) v (Mem.of ml')) (hm : MemIs m ml) (hnew : ∀ p ∈ ml', (ml.any fun q => q.1 == p.1) = true ∨ m p.1 = .none) (hr : keptRefs (args.map fun x => (0, x)) ml = true) (h : K v (m.over (Mem.of ml'))) : LOp P pr ro ⟨d, .call ⟨.value x, xs.toArray, ts⟩, ty, pos, af, g⟩ ev m K := by
 subst ha
 rw [LOp_call,hx]
 exact ⟨hf,LCall.callL (hc.sub hs) hm hnew hr h⟩

def EnvSub (e:Env):List (Nat × LV)→Prop
 | []=>True
 | (i,v) :: r=>Sub (e i) v∧EnvSub e r
theorem EnvSub.at:∀ {l:List (Nat × LV)},EnvSub e l→∀ i,Sub (e i) (Env.of l i)
 | [],_,i=>Sub.und
 | (j,v) :: r,h,i=>by
  simp only [Env.of]
  split
  ·rename_i hi; subst hi; exact h.1
  ·exact EnvSub.at h.2 i
theorem eN:EnvSub e []:=trivial
def EnvEq (e:Env):List (Nat × LV)→Prop
 | []=>True
 | (i,v) :: r=>e i=v∧EnvEq e r
theorem eQ:∀ {l:List (Nat × LV)},EnvEq e l→EnvSub e l
 | [],_=>trivial
 | (i,v) :: r,h=>⟨h.1 ▸ Sub.rfl,eQ h.2⟩
theorem eC {r:List (Nat × LV)} (h:e i=v) (hr:EnvSub e r):EnvSub e ((i,v) :: r):=⟨h ▸ Sub.rfl,hr⟩
theorem eL {r:List (Nat × LV)} (h:e i=.nil) (hr:EnvSub e r):EnvSub e ((i,.lst n []) :: r):=⟨h ▸ Sub.nil,hr⟩
theorem Wk.sub {el:List (Nat × LV)} (h:EnvSub e el):Wk pr e m (Env.of el) m:=fun N c a hr=>⟨c,rfl,⟨fun i=>h.at i c _ (hr.env i),hr.mem,hr.size,hr.defers⟩,.refl pr c⟩
theorem of_keys (el:List (Nat × LV)) (i:Nat):Env.of (el.map fun p=>(p.1,e p.1)) i=if (el.any fun p=>p.1 == i)=true then e i else .und:=by
 induction el with
 | nil=>rfl
 | cons p r ih =>
  simp only [List.map_cons,Env.of,List.any_cons]
  by_cases h:i=p.1
  ·simp [h]
  ·rw [if_neg h,ih]
   have:(p.1 == i)=false:=by simpa using fun h'=>h h'.symm
   simp only [this,Bool.false_or]
theorem of_nokey (el:List (Nat × LV)) (i:Nat) (h:¬ (el.any fun p=>p.1 == i)=true):Env.of el i=.und:=by
 induction el with
 | nil=>rfl
 | cons p r ih =>
  simp only [List.any_cons,Bool.or_eq_true,not_or] at h
  simp only [Env.of]
  rw [if_neg (fun h'=>h.1 (by simp [h'])),ih h.2]
theorem Wk.to {ml:List (Nat × LE)} {el:List (Nat × LV)} (he:EnvSub e el) (hm:MemIs m ml) (hr:keptRefs (el.map fun p=>(p.1,e p.1)) ml=true) (hpr:∀ id,pr id→m id=.none ∨ Mem.of ml id ≠ .none):Wk pr e m (Env.of el) (Mem.of ml):=by
 refine (Wk.cut (el.map fun p=>(p.1,e p.1)) ml (fun p hp=>?_) hm.all hr hpr).trans fun N c a hrep=>⟨c,rfl,⟨fun i=>?_,hrep.mem,hrep.size,hrep.defers⟩,.refl pr c⟩
 ·obtain ⟨q,_,rfl⟩:=List.mem_map.1 hp
  rfl
 ·have h1:=hrep.env i
  rw [of_keys] at h1
  by_cases hk:(el.any fun p=>p.1 == i)=true
  ·rw [if_pos hk] at h1; exact he.at i c _ h1
  ·rw [of_nokey el i hk]; simp [RepV]
theorem prK {ml0 ml:List (Nat × LE)} (h:(ml0.all fun p=>ml.any fun q=>q.1 == p.1)=true):∀ id,Mem.of ml0 id ≠ .none→m id=.none ∨ Mem.of ml id ≠ .none:=by
 intro id hid
 cases hx:Mem.of ml0 id with
 | none=>exact absurd hx hid
 | some le=>exact .inr (memOf_ne (List.all_eq_true.1 h _ (memOf_some hx)))
theorem prN {ml0:List (Nat × LE)} (h:Mem.of ml0 id=.none):¬ (fun id=>Mem.of ml0 id ≠ .none) id:=fun h'=>h' h
def OwnL (id:Nat):List (Nat × LV)→List (Nat × LV)→Prop
 | [],[]=>True
 | p :: r,q :: s=>(q.1=p.1∧(q.2=p.2 ∨ (p.2=.nil∧q.2=.arr id 0)))∧OwnL id r s
 | _,_=>False
theorem wN:OwnL id [] []:=trivial
theorem wK {p:Nat × LV} {r s:List (Nat × LV)} (h:OwnL id r s):OwnL id (p :: r) (p :: s):=⟨⟨rfl,.inl rfl⟩,h⟩
theorem wO {r s:List (Nat × LV)} (h:OwnL id r s):OwnL id ((i,.nil) :: r) ((i,.arr id 0) :: s):=⟨⟨rfl,.inr ⟨rfl,rfl⟩⟩,h⟩
theorem OwnL.len:∀ {el el':List (Nat × LV)},OwnL id el el'→el'.length=el.length
 | [],[],_=>rfl
 | _ :: _,_ :: _,h=>by simp [h.2.len]
theorem OwnL.get:∀ {el el':List (Nat × LV)},OwnL id el el'→∀ i:Nat,∀ p q,el[i]?=some p→el'[i]?=some q→q.1=p.1∧(q.2=p.2 ∨ (p.2=.nil∧q.2=.arr id 0))
 | [],[],_,i,p,q,hp,hq=>by simp at hp
 | a :: r,b :: s,h,0,p,q,hp,hq=>by simp at hp hq; subst hp; subst hq; exact h.1
 | a :: r,b :: s,h,i+1,p,q,hp,hq=>by simp at hp hq; exact h.2.get i p q hp hq
theorem Wk.ownL {el el':List (Nat × LV)} {ml:List (Nat × LE)} (id e0 k0:Nat) (hid:Mem.of ml id=.none) (hk:Nat.ble 1 k0=true) (h:OwnL id el el'):Wk pr (Env.of el) (Mem.of ml) (Env.of el') (Mem.of ((id,.arr e0 k0 []) :: ml)) :=
 Wk.own id e0 k0 hid (Nat.le_of_ble_eq_true hk) h.len h.get
theorem LH.loneT {rid:Nat} {Q:Exit→Env→Mem→Prop} (el:List (Nat × LV)) (ml:List (Nat × LE)) (hd:dstsOk N l=true) (h:SOps P N pr l.toArray l (fun e m=>Wk pr e m (Env.of el) (Mem.of ml)) e m) (hr:Q .normal (Env.of el) (Mem.of ml)):LH P N pr (.region rid l.toArray false) Q e m:=by
 obtain ⟨e',m',hK,hrun⟩:=h (dsts_of hd) (by simp)
 refine ⟨.normal,_,_,LExec.post (e':=e') (m':=m') (fun c a hr=>?_) hK,hr⟩
 refine wp_region ?_
 rw [List.size_toArray,List.range_eq_range',wpOps_eq_wpList l 0 (by simp)]
 exact hrun c a hr
theorem LH.seqT {rid:Nat} {yc:Code} {Q:Exit→Env→Mem→Prop} (el:List (Nat × LV)) (ml:List (Nat × LE)) (hd:dstsOk N l=true) (h:SOps P N pr l.toArray l (fun e m=>Wk pr e m (Env.of el) (Mem.of ml)) e m) (hr:LH P N pr yc Q (Env.of el) (Mem.of ml)):LH P N pr (.seq (.region rid l.toArray false) yc) Q e m :=
 LH.seq (LH.loneT el ml hd h hr)
theorem LH.loneTM {rid:Nat} {Q:Exit→Env→Mem→Prop} (hmix:P.follows .mixedOrders=true) (ro:List Nat) (mds:List Nat) (el:List (Nat × LV)) (ml:List (Nat × LE)) (hlen:mds.length=l.length) (hd:dstsOk N l=true) (hok:drawOk l.toArray mds=true)
  (h:LOpsM P pr ro l.toArray (l.zip mds) (fun e m=>Wk pr e m (Env.of el) (Mem.of ml)) e m) (hr:Q .normal (Env.of el) (Mem.of ml)):LH P N pr (.region rid l.toArray true) Q e m:=by
 obtain ⟨e',m',hK,hc⟩:=LOpsM_chain _ h
 rw [← zip_modes l mds hlen] at hc
 obtain ⟨ex,e2,m2,h1,h2⟩:=LH.regionC (Q:=fun ex e m=>ex=.normal∧e=e'∧m=m') hmix ro mds hd hok hc ⟨rfl,rfl,rfl⟩
 obtain ⟨rfl,rfl,rfl⟩:=h2
 exact ⟨.normal,_,_,h1.post hK,hr⟩

section
variable {Q:Exit→Env→Mem→Prop} {M:Env→Mem→Prop} {I:Nat→Env→Mem→Prop}
theorem thenN (h:M e m):thenQ M Q .normal e m:=h
theorem thenX (h:Q (.exit i) e m):thenQ M Q (.exit i) e m:=h
theorem thenR (h:Q .ret e m):thenQ M Q .ret e m:=h
theorem blockN (h:Q .normal e m):blockQ j Q .normal e m:=h
theorem blockR (h:Q .ret e m):blockQ j Q .ret e m:=h
theorem blockH (h:Q .normal e m):blockQ j Q (.exit j) e m:=by simp only [blockQ,if_true]; exact h
theorem blockX (hn:Nat.beq i j=false) (h:Q (.exit i) e m):blockQ j Q (.exit i) e m:=by simp only [blockQ]; rw [if_neg (fun h'=>by subst h'; simp at hn)]; exact h
theorem roundX (h:Q (.exit i) e m):roundQ pr I n Q (.exit i) e m:=h
theorem roundR (h:Q .ret e m):roundQ pr I n Q .ret e m:=h
theorem roundN {e':Env} {m':Mem} (hw:Wk pr e m e' m') (h:I n e' m'):roundQ pr I (n+1) Q .normal e m:=⟨e',m',hw,n,Nat.lt_succ_self n,h⟩
end
def Ends (LV0:LV) (ml1:List (Nat × LE)) (lv:LV) (m':Mem):Prop:=Sub lv LV0∧m'=Mem.of ml1
theorem lr0 {KL:List LV→Prop} (h:KL []):lres P e m [] KL:=h
theorem lrT {KL:List LV→Prop} {r:List ResultVar} (hv:e i=v) (h:lres P e m r fun l=>KL (v :: l)):lres P e m (.tmp i :: r) KL:=by simp only [lres]; rw [hv]; exact h
theorem lrSA {KL:List LV→Prop} {r:List ResultVar} (hv:e i=.sptr cs) (ht:tok P t=true) (ha:tagg P t=true) (hs:tsize P t=n) (hl2:Nat.ble n cs.length=true) (hc:cs.take n=cs') (h:lres P e m r fun l=>KL (.agg cs' :: l)):lres P e m (.cell i t :: r) KL:=by
 subst hc; subst hs
 simp only [lres,hv,loadC_def,ha,if_true]; exact ⟨ht,Nat.le_of_ble_eq_true hl2,h⟩
theorem retE {fn:Func} {rs:List ResultVar} {LV0:LV} {ml1:List (Nat × LE)} (hr:fn.results.toList=rs) (h:lres P e m rs fun l=>(∀ p ∈ ml1,m p.1=some p.2)∧keptRefs [(0,oneOf l)] ml1=true∧(∀ id,pr id→m id=.none ∨ Mem.of ml1 id ≠ .none)∧Sub (oneOf l) LV0):retQ P fn pr (Ends LV0 ml1) .ret e m:=by
 have key : ∀ (rs : List ResultVar) (K K' : List LV → Prop), (∀ l, K l → K' l) → lres P e m rs K → lres P e m rs K' := by
  intro rs
  induction rs with
  | nil=>intro K K' hk h; exact hk _ h
  | cons r rs ih =>
   intro K K' hk h
   have hl:∀ (t:TypeId) (cs:List LV) (A B:LV→Prop),(∀ x,A x→B x)→loadC P t cs A→loadC P t cs B:=by
    intro t cs A B hab hA
    obtain ⟨ht,hA⟩:=hA
    refine ⟨ht,?_⟩
    split at hA
    ·rename_i hg; rw [if_pos hg]; exact ⟨hA.1,hab _ hA.2⟩
    ·rename_i hg
     rw [if_neg hg]
     match cs,hA with
     | x :: cs,hA=>exact hab _ hA
   cases r with
   | tmp t=>exact ih _ _ (fun l hl=>hk _ hl) h
   | cell a t =>
    simp only [lres] at h ⊢
    cases hx:e a <;> simp only [hx] at h ⊢
    case sptr cs=>exact hl _ _ _ _ (fun lv hlv=>ih _ _ (fun l hl=>hk _ hl) hlv) h
    case ptr id o =>
     cases hm:m id with
     | none=>simp [hm] at h
     | some le =>
      cases le with
      | map _ _ _=>simp [hm] at h
      | nest _ _ _ _=>simp [hm] at h
      | nesth _ _ _ _ _ _ _ _=>simp [hm] at h
      | dead=>simp [hm] at h
      | arr _ _ _=>simp [hm] at h
      | box cs =>
       simp only [hm] at h ⊢
       exact ⟨h.1,hl _ _ _ _ (fun lv hlv=>ih _ _ (fun l hl=>hk _ hl) hlv) h.2⟩
 show lres P e m fn.results.toList _
 rw [hr]
 exact key _ _ _ (fun l ⟨h1,h2,h3,h4⟩=>⟨ml1,h1,h2,h3,h4,rfl⟩) h
theorem bodyT {f:Nat} {fn:Func} {code:Code} {args:List LV} {ml0 ml1:List (Nat × LE)} {LV0:LV} (hf:P.funcs[f]?=some fn) (hb:fn.body=some code) (hn:args.length≤fn.ntmps)
  (h:LH P fn.ntmps (fun id=>Mem.of ml0 id ≠ .none) code (retQ P fn (fun id=>Mem.of ml0 id ≠ .none) (Ends LV0 ml1)) (Env.args args) (Mem.of ml0)):LCall P f args (Mem.of ml0) LV0 (Mem.of ml1):=by
 obtain ⟨lv,m',h1,h2,rfl⟩:=LCall.of_body (R:=Ends LV0 ml1) hf hb hn h
 exact h1.res h2
theorem memN {ml:List (Nat × LE)} (h:MemIs m ml):∀ p ∈ ml,m p.1=some p.2:=h.all
theorem newN {ml:List (Nat × LE)}:∀ p ∈ ([]:List (Nat × LE)),(ml.any fun q=>q.1 == p.1)=true ∨ m p.1=.none:=by simp
theorem newI {ml ml':List (Nat × LE)} {le:LE} (h:(ml.any fun q=>q.1 == i)=true) (h2:∀ p ∈ ml',(ml.any fun q=>q.1 == p.1)=true ∨ m p.1=.none):∀ p ∈ (i,le) :: ml',(ml.any fun q=>q.1 == p.1)=true ∨ m p.1=.none:=by
 intro p hp; rcases List.mem_cons.1 hp with rfl | hp
 ·exact .inl h
 ·exact h2 p hp
theorem newF {ml ml':List (Nat × LE)} {le:LE} (h:m i=.none) (h2:∀ p ∈ ml',(ml.any fun q=>q.1 == p.1)=true ∨ m p.1=.none):∀ p ∈ (i,le) :: ml',(ml.any fun q=>q.1 == p.1)=true ∨ m p.1=.none:=by
 intro p hp; rcases List.mem_cons.1 hp with rfl | hp
 ·exact .inr h
 ·exact h2 p hp
end
mutual
theorem frzA_noref {id k:Nat} {ys:List LV}:∀ (x:LV),x.noref id=true→x.frzA id k ys=x
 | .und,_ | .int _ _,_ | .bool _,_ | .nil,_ | .slen _,_ | .full _ _,_ | .str _,_ | .it _,_ | .nilf,_ | .nilp,_ | .lst _ _,_=>by simp [LV.frzA]
 | .sptr cs,h=>by simp only [LV.noref] at h; simp [LV.frzA,h]
 | .arr i n,h=>by simp [LV.noref] at h; simp [LV.frzA,h]
 | .ptr i n,h=>by simp [LV.noref] at h; simp [LV.frzA,h]
 | .eptr i n j o,h=>by simp [LV.noref] at h; simp [LV.frzA,h]
 | .mp i,h=>by simp [LV.noref] at h; simp [LV.frzA,h]
 | .agg cs,h=>by simp only [LV.noref] at h; simp only [LV.frzA]; rw [frzAL_noref cs h]
 | .tup cs,h=>by simp only [LV.noref] at h; simp only [LV.frzA]; rw [frzAL_noref cs h]
 | .fn _ cs,h=>by simp only [LV.noref] at h; simp only [LV.frzA]; rw [frzAL_noref cs h]
 | .bfn _ cs,h=>by simp only [LV.noref] at h; simp only [LV.frzA]; rw [frzAL_noref cs h]
theorem frzAL_noref {id k:Nat} {ys:List LV}:∀ (xs:List LV),LV.norefL id xs=true→LV.frzAL id k ys xs=xs
 | [],_=>by simp [LV.frzAL]
 | x :: xs,h=>by
  simp only [LV.norefL,Bool.and_eq_true] at h
  simp only [LV.frzAL]; rw [frzA_noref x h.1,frzAL_noref xs h.2]
end
def FrzL (id n:Nat) (lv:LV):List (Nat × LV)→List (Nat × LV)→Prop
 | [],[]=>True
 | p :: r,q :: s=>(q.1=p.1∧((q.2=p.2∧p.2.noref id=true) ∨ (p.2=.arr id n∧q.2=lv)))∧FrzL id n lv r s
 | _,_=>False
theorem fN {id n:Nat} {lv:LV}:FrzL id n lv [] []:=trivial
theorem fK {id n:Nat} {lv:LV} {p:Nat × LV} {r s:List (Nat × LV)} (h0:p.2.noref id=true) (h:FrzL id n lv r s):FrzL id n lv (p :: r) (p :: s):=⟨⟨rfl,.inl ⟨rfl,h0⟩⟩,h⟩
theorem fZ {id n i:Nat} {lv:LV} {r s:List (Nat × LV)} (h:FrzL id n lv r s):FrzL id n lv ((i,.arr id n) :: r) ((i,lv) :: s):=⟨⟨rfl,.inr ⟨rfl,rfl⟩⟩,h⟩
theorem FrzL.sub {id k n:Nat} {ys:List LV} (hn:n=ys.length):∀ {el el':List (Nat × LV)},FrzL id n (.lst k ys) el el'→∀ i,Sub (Env.of (el.map fun p=>(p.1,p.2.frzA id k ys)) i) (Env.of el' i)
 | [],[],_,i=>Sub.rfl
 | p :: r,q :: s,h,i=>by
  obtain ⟨⟨h1,h2⟩,h3⟩:=h
  obtain ⟨pi,pv⟩:=p
  obtain ⟨qi,qv⟩:=q
  simp only at h1 h2
  subst h1
  simp only [List.map_cons,Env.of]
  by_cases hi:i=qi
  ·simp only [hi,if_true]
   rcases h2 with ⟨rfl,h2⟩ | ⟨rfl,rfl⟩
   ·rw [frzA_noref _ h2]; exact Sub.rfl
   ·simp only [LV.frzA,if_true,hn]; exact Sub.rfl
  ·simp only [hi,if_false]
   exact FrzL.sub hn h3 i
theorem Wk.frzL {pr:Nat→Prop} {α:Type} {f:α→LV} {el el':List (Nat × LV)} {ml:List (Nat × LE)} (id e0 k0:Nat) (xs:List α) (hid:Mem.of ml id=some (.arr e0 k0 (xs.map f))) (hfree:freeB id ml=true) (hpr:¬ pr id) (h:FrzL id xs.length (.lst k0 (xs.map f)) el el') :
  Wk pr (Env.of el) (Mem.of ml) (Env.of el') (Mem.of (ml.filter fun q=>q.1 != id)) :=
 (Wk.frzA id e0 k0 (xs.map f) hid hfree hpr).trans fun N c a hr=>⟨c,rfl,⟨fun i=>FrzL.sub (by simp) h i c _ (hr.env i),hr.mem,hr.size,hr.defers⟩,.refl pr c⟩
theorem mN {m:Mem}:MemIs m []:=trivial
theorem mC {m:Mem} {i:Nat} {v:LE} {r:List (Nat × LE)} (h:m i=some v) (hr:MemIs m r):MemIs m ((i,v) :: r):=⟨h,hr⟩
theorem sbN:SubL [] []:=trivial
theorem sbR {x:LV} {xs ys:List LV} (h:SubL xs ys):SubL (x :: xs) (x :: ys):=⟨Sub.rfl,h⟩
theorem sbL {k:Nat} {xs ys:List LV} (h:SubL xs ys):SubL (.nil :: xs) (.lst k [] :: ys):=⟨Sub.nil,h⟩
abbrev lvl {α:Type} (k:Nat) (f:α→LV):List α→LV:=fun xs=>.lst k (xs.map f)
theorem andT {b x:Bool} (h:b=true):x=(b && x):=by subst h; simp
theorem andF {b x:Bool} (h:b=false):false=(b && x):=by subst h; simp
theorem orT {b x:Bool} (h:b=true):true=(b || x):=by subst h; simp
theorem orF {b x:Bool} (h:b=false):x=(b || x):=by subst h; simp
theorem SubL.head {x y:LV} {xs ys:List LV} (h:SubL (x :: xs) (y :: ys)):Sub x y:=h.1
end Go.L
set_option linter.unusedVariables false
set_option linter.unusedSimpArgs false
namespace Go.L
section
variable {P:Program} {N:Nat} {pr:Nat→Prop} {ro:List Nat} {ops:Array Oper} {e:Env} {m m':Mem} {ev ev':Operand→LV} {o:Oper} {lv:LV} {l:List Oper} {mds:List Nat} {KE:Env→Mem→Prop}
theorem OpOkR.ok (h:OpOkR P pr o ev m lv m'):OpOk P pr o ev m lv m':=fun c a Q hev hm=>h c a Q (fun x _=>hev x) hm
theorem OpOkR.value (h:∀ (c:Cx) (a:Act),(∀ x ∈ o.op.operands,RepV c (ev x) (a.eval x))→RepM c m→∃ v c',(execOp a.eval o).run P c.w=.ok (.value v) c'.w∧RepV c' lv v∧RepM c' m'∧Step pr c c'):OpOkR P pr o ev m lv m':=by
 intro c a Q hev hm
 obtain ⟨v,c',hr,h1,h2,h3⟩:=h c a hev hm
 unfold Oper.wp
 rw [hr]
 exact ⟨v,c',rfl,rfl,h1,h2,h3⟩
theorem OpOkR.skip (hd:o.dst=.none) (h:∀ (c:Cx) (a:Act),(∀ x ∈ o.op.operands,RepV c (ev x) (a.eval x))→RepM c m→∃ c',(execOp a.eval o).run P c.w=.ok .skip c'.w∧RepM c' m'∧Step pr c c'):OpOkR P pr o ev m .und m':=by
 intro c a Q hev hm
 obtain ⟨c',hr,h2,h3⟩:=h c a hev hm
 unfold Oper.wp
 rw [hr]
 exact ⟨undef,c',by simp [Act.put,hd],rfl,by simp [RepV],h2,h3⟩
theorem sX {i:Nat} {op:Op} {ty:TypeId} {pos:String} {af:Array Edge} (h:OpOk P pr ⟨some i,op,ty,pos,af,.none⟩ (lev e) m lv m') (hr:SOps P N pr ops l KE (e.put i lv) m'):SOps P N pr ops (⟨some i,op,ty,pos,af,.none⟩ :: l) KE e m:=by
 intro hd hl
 obtain ⟨e2,m2,hK,hrest⟩:=hr hd (fun q hq=>hl q (by simp [hq]))
 refine ⟨e2,m2,hK,fun c a hrep=>?_⟩
 simp only [wpList]
 rw [if_pos (by simp [Region.wanted])]
 left
 refine Oper.wp_mono ?_ (h c a _ hrep.ev hrep.mem)
 rintro a' w' ⟨v,c',rfl,rfl,hv,hm',hs⟩
 have hrep':Rep N c' (e.put i lv) m' (a.put (some i) v):=hrep.put (d:=some i) hs hm' (hd ⟨some i,op,ty,pos,af,.none⟩ (hl _ (by simp))) hv
 refine wpList_mono _ _ _ _ _ ?_ (hrest c' _ hrep')
 rintro x a'' w'' ⟨hx,c2,hw2,hr2,hg2⟩
 exact ⟨hx,c2,hw2,hr2,hs.grow.trans hg2⟩
theorem sX_ {op:Op} {ty:TypeId} {pos:String} {af:Array Edge} (h:OpOk P pr ⟨.none,op,ty,pos,af,.none⟩ (lev e) m lv m') (hr:SOps P N pr ops l KE e m'):SOps P N pr ops (⟨.none,op,ty,pos,af,.none⟩ :: l) KE e m:=by
 intro hd hl
 obtain ⟨e2,m2,hK,hrest⟩:=hr hd (fun q hq=>hl q (by simp [hq]))
 refine ⟨e2,m2,hK,fun c a hrep=>?_⟩
 simp only [wpList]
 rw [if_pos (by simp [Region.wanted])]
 left
 refine Oper.wp_mono ?_ (h c a _ hrep.ev hrep.mem)
 rintro a' w' ⟨v,c',ha,rfl,hv,hm',hs⟩
 have hrep':Rep N c' e m' a':=by rw [ha]; exact hrep.put (d:=.none) hs hm' (by simp) hv
 refine wpList_mono _ _ _ _ _ ?_ (hrest c' _ hrep')
 rintro x a'' w'' ⟨hx,c2,hw2,hr2,hg2⟩
 exact ⟨hx,c2,hw2,hr2,hs.grow.trans hg2⟩
def exactV:LV→Option Value
 | .agg cs=>(exactL cs).map fun vs=>.agg vs.toArray
 | x=>exact1 x
theorem exact1_rep {c:Cx} {x:LV} {u v:Value} (h:exact1 x=some u) (hr:RepV c x v):v=u:=by
 cases x <;> simp [exact1] at h <;> subst h <;> simpa [RepV] using hr
theorem exactL_rep' {c:Cx}:∀ {xs:List LV} {us vs:List Value},exactL xs=some us→RepL c xs vs→vs=us
 | [],us,vs,h,hr=>by simp [exactL] at h; subst h; simpa [RepL] using hr
 | x :: xs,us,vs,h,hr=>by
  simp only [exactL] at h
  split at h
  ·rename_i v0 vs0 h1 h2
   cases h
   simp only [RepL] at hr
   obtain ⟨v,vs',rfl,h3,h4⟩:=hr
   rw [exact1_rep h1 h3,exactL_rep' h2 h4]
  ·cases h
theorem exactV_rep {c:Cx} {x:LV} {u v:Value} (h:exactV x=some u) (hr:RepV c x v):v=u:=by
 cases x
 case agg cs =>
  simp only [exactV,Option.map_eq_some_iff] at h
  obtain ⟨vs,h1,rfl⟩:=h
  simp only [RepV] at hr
  obtain ⟨us,rfl,h2⟩:=hr
  rw [exactL_rep' h1 h2]
 all_goals (simp only [exactV] at h; exact exact1_rep h hr)
theorem exact1_inj {x y:LV} {u:Value} (h:exact1 x=some u) (h':exact1 y=some u):x=y:=by
 cases x <;> simp [exact1] at h <;> subst h <;> cases y <;> simp [exact1] at h' <;> simp [h']
theorem exactL_inj:∀ {xs ys:List LV} {us:List Value},exactL xs=some us→exactL ys=some us→xs=ys
 | [],ys,us,h,h'=>by
  simp [exactL] at h; subst h
  cases ys with
  | nil=>rfl
  | cons y ys=>simp only [exactL] at h'; split at h' <;> cases h'
 | x :: xs,ys,us,h,h'=>by
  simp only [exactL] at h
  split at h
  ·rename_i v0 vs0 h1 h2
   cases h
   cases ys with
   | nil=>simp [exactL] at h'
   | cons y ys =>
    simp only [exactL] at h'
    split at h'
    ·rename_i v1 vs1 h3 h4
     cases h'
     rw [exact1_inj h1 h3,exactL_inj h2 h4]
    ·cases h'
  ·cases h
theorem exactV_inj {x y:LV} {u:Value} (h:exactV x=some u) (h':exactV y=some u):x=y:=by
 have a1:∀ cs v,(exactL cs).map (fun vs:List Value=>Value.agg vs.toArray)=some v→∃ us,exactL cs=some us∧v=.agg us.toArray:=fun cs v hv=>by
  simp only [Option.map_eq_some_iff] at hv
  obtain ⟨us,h1,h2⟩:=hv; exact ⟨us,h1,h2.symm⟩
 cases x
 case agg cs =>
  obtain ⟨us,h1,rfl⟩:=a1 cs u h
  cases y
  case agg ds =>
   obtain ⟨us',h2,h3⟩:=a1 ds _ h'
   have:us=us':=by simpa using h3
   subst this
   rw [exactL_inj h1 h2]
  all_goals simp [exactV,exact1] at h'
 all_goals
  cases y
  case agg ds =>
   obtain ⟨us',h2,h3⟩:=a1 ds _ h'
   subst h3
   simp [exactV,exact1] at h
  all_goals (simp only [exactV] at h h'; exact exact1_inj h h')

structure KOk (P:Program) (k:TypeId) (S:Value→Prop):Prop where
 check:∀ (w:World) (em:Bool) (v:Value),S v→(Instr.checkKey em 10000 k v).run P w=.ok () w
 find:∀ (w:World) (x:Value),S x→∀ es:List MapEntry,(∀ e ∈ es,S e.key)→((Instr.findKey k x es).run P w=.ok .none w∧∀ e ∈ es,e.key ≠ x) ∨ ∃ j e,(Instr.findKey k x es).run P w=.ok (some (j,e.val)) w∧es[j]?=some e∧e.key=x
 stays:∀ (w:World) (v:Value),S v→(Instr.keyThatStays v v).run P w=.ok v w
def tmap (P:Program) (t:TypeId):Option (Nat × Nat):=match P.underlying t with | some (.map k v)=>some (k,v) | _=>.none
theorem tmap_under {t k v:Nat} (h:tmap P t=some (k,v)):P.underlying t=some (.map k v):=by
 unfold tmap at h; split at h <;> simp_all

def mget {α β:Type} [DecidableEq α]:List (α × β)→α→Option β
 | [],_=>.none
 | (a,b) :: r,k=>if a=k then some b else mget r k
def mput {α β:Type} [DecidableEq α]:List (α × β)→α→β→List (α × β)
 | [],k,v=>[(k,v)]
 | (a,b) :: r,k,v=>if a=k then (k,v) :: r else (a,b) :: mput r k v
variable {α β:Type} [DecidableEq α] {f:α→LV} {g:β→LV}
abbrev mlv (f:α→LV) (g:β→LV) (xs:List (α × β)):List (LV × LV):=xs.map fun p=>(f p.1,g p.2)
def KeyF (f:α→LV) (S:Value→Prop):Prop:=(∀ x,∃ v,exactV (f x)=some v∧S v∧(f x).pure=true)∧∀ x y,f x=f y→x=y
theorem mget_none {xs:List (α × β)} {k:α} (h:∀ p ∈ xs,p.1 ≠ k):mget xs k=.none:=by
 induction xs with
 | nil=>rfl
 | cons p r ih =>
  obtain ⟨a,b⟩:=p
  simp only [mget]
  rw [if_neg (h (a,b) (by simp)),ih fun q hq=>h q (by simp [hq])]
theorem mget_at {xs:List (α × β)} {k:α} {b:β} {j:Nat} (hn:(xs.map (·.1)).Nodup) (h:xs[j]?=some (k,b)):mget xs k=some b:=by
 induction xs generalizing j with
 | nil=>simp at h
 | cons p r ih =>
  obtain ⟨a,b'⟩:=p
  simp only [List.map_cons,List.nodup_cons] at hn
  simp only [mget]
  cases j with
  | zero=>simp at h; rw [if_pos h.1,h.2]
  | succ j =>
   simp at h
   have:a ≠ k:=fun he=>hn.1 (by subst he; exact List.mem_map.2 ⟨_,List.mem_of_getElem? h,rfl⟩)
   rw [if_neg this]; exact ih hn.2 h
theorem mput_none {xs:List (α × β)} {k:α} {v:β} (h:∀ p ∈ xs,p.1 ≠ k):mput xs k v=xs++[(k,v)]:=by
 induction xs with
 | nil=>rfl
 | cons p r ih =>
  obtain ⟨a,b⟩:=p
  simp only [mput]
  rw [if_neg (h (a,b) (by simp)),ih fun q hq=>h q (by simp [hq])]; rfl
theorem mputK_at {xs:List (α × β)} {k:α} {b v:β} {j:Nat} (hn:(xs.map (·.1)).Nodup) (h:xs[j]?=some (k,b)):mput xs k v=xs.set j (k,v):=by
 induction xs generalizing j with
 | nil=>simp at h
 | cons p r ih =>
  obtain ⟨a,b'⟩:=p
  simp only [List.map_cons,List.nodup_cons] at hn
  simp only [mput]
  cases j with
  | zero=>simp at h; rw [if_pos h.1]; rfl
  | succ j =>
   simp at h
   have:a ≠ k:=fun he=>hn.1 (by subst he; exact List.mem_map.2 ⟨_,List.mem_of_getElem? h,rfl⟩)
   rw [if_neg this,ih hn.2 h]; rfl
omit [DecidableEq α] in
theorem map_now {c:Cx} {id kt vt:Nat} {S:Value→Prop} {xs:List (α × β)} {v:Value} (hm:RepM c m) (hid:m id=some (.map kt vt (mlv f g xs))) (hv:RepV c (.mp id) v) (hf:KeyF f S) :
  ∃ b es' ck,c.B id=some (.mp b)∧v=.map (some b)∧c.w.heap[b]?=some (.map es' ck)∧es'.toList.length=xs.length∧(∀ (j:Nat) (x:α) (y:β),xs[j]?=some (x,y)→∃ (en:MapEntry) (u:Value),es'.toList[j]?=some en∧exactV (f x)=some en.key∧S en.key∧u=en.val∧RepV c (g y) u)∧(xs.map (·.1)).Nodup∧LV.pureL (xs.map fun p=>g p.2)=true:=by
 have he:=hm.ent id
 rw [hid] at he
 simp only [RepE] at he
 obtain ⟨b,es',ck,h1,h2,h3,h4,h5,h6,h7,_⟩:=he
 simp only [RepV] at hv
 obtain ⟨b',hb',rfl⟩:=hv
 rw [h1] at hb'; cases hb'
 have l3:=h3.length
 simp only [mlv,List.map_map,List.length_map] at l3
 refine ⟨b,es',ck,h1,rfl,h2,l3.symm,fun j x y hj=>?_,?_,?_⟩
 ·have hk:((mlv f g xs).map (·.1))[j]?=some (f x):=by simp [mlv,hj]
  have hvv:((mlv f g xs).map (·.2))[j]?=some (g y):=by simp [mlv,hj]
  obtain ⟨k1,hk1,hk2⟩:=h3.get hk
  obtain ⟨u,hu1,hu2⟩:=h4.get hvv
  simp only [List.getElem?_map,Option.map_eq_some_iff] at hk1 hu1
  obtain ⟨en,he1,rfl⟩:=hk1
  obtain ⟨en',he2,rfl⟩:=hu1
  rw [he1] at he2; cases he2
  obtain ⟨kv,e1,e2,_⟩:=hf.1 x
  have:=exactV_rep e1 hk2
  exact ⟨en,en.val,he1,by rw [e1,this],by rw [this]; exact e2,rfl,hu2⟩
 ·simp only [mlv,List.map_map] at h7
  rw [List.nodup_iff_pairwise_ne] at h7 ⊢
  rw [List.pairwise_map] at h7 ⊢
  exact h7.imp fun {p q} h he=>h (congrArg f he)
 ·simp only [mlv,List.map_map] at h6; exact h6
omit [DecidableEq α] in
theorem map_keys {c:Cx} {S:Value→Prop} {xs:List (α × β)} {es':List MapEntry} (hl:es'.length=xs.length) (h:∀ (j:Nat) (x:α) (y:β),xs[j]?=some (x,y)→∃ (en:MapEntry) (u:Value),es'[j]?=some en∧exactV (f x)=some en.key∧S en.key∧u=en.val∧RepV c (g y) u):(∀ en ∈ es',S en.key)∧∀ (j:Nat) en,es'[j]?=some en→∃ x y,xs[j]?=some (x,y)∧exactV (f x)=some en.key∧RepV c (g y) en.val:=by
 have key:∀ (j:Nat) en,es'[j]?=some en→∃ x y,xs[j]?=some (x,y)∧exactV (f x)=some en.key∧S en.key∧RepV c (g y) en.val:=fun j en hj=>by
  have hlt:j<xs.length:=by rw [← hl]; exact (List.getElem?_eq_some_iff.1 hj).1
  obtain ⟨en',u,h1,h2,h3,rfl,h5⟩:=h j xs[j].1 xs[j].2 (by simp [hlt])
  rw [hj] at h1; cases h1
  exact ⟨xs[j].1,xs[j].2,by simp [hlt],h2,h3,h5⟩
 refine ⟨fun en hen=>?_,fun j en hj=>?_⟩
 ·obtain ⟨j,hj⟩:=List.mem_iff_getElem?.1 hen
  obtain ⟨_,_,_,_,h3,_⟩:=key j en hj; exact h3
 ·obtain ⟨x,y,h1,h2,_,h4⟩:=key j en hj; exact ⟨x,y,h1,h2,h4⟩
theorem zero_run {vt:TypeId} {z:LV} (h:tzero P vt=some z) (w:World):∃ zv,(zeroValue vt).run P w=.ok zv w∧∀ c,RepV c z zv:=by
 unfold tzero at h
 split at h
 ·rename_i i hi
  split at h
  ·rename_i zv hz
   split at h
   ·cases h
    exact ⟨zv,by simp [zeroValue,typeInfo,Sem.run,hi,hz],fun c=>repV_ofV c zv⟩
   ·cases h
  ·cases h
 ·cases h
theorem look {c:Cx} {id kt vt:Nat} {t:TypeId} {S:Value→Prop} {xs:List (α × β)} {key:α} {z:β} {v kv:Value} (ht:tmap P t=some (kt,vt)) (K:KOk P kt S) (hf:KeyF f S) (hm:RepM c m) (hid:m id=some (.map kt vt (mlv f g xs))) (hv:RepV c (.mp id) v) (hk:RepV c (f key) kv) (hz:tzero P vt=some (g z)) (ok:Bool) :
  ∃ u,(Instr.lookup t v kv ok).run P c.w=.ok (if ok then .tuple #[u,.bool (mget xs key).isSome] else u) c.w∧RepV c (g ((mget xs key).getD z)) u:=by
 obtain ⟨b,es',ck,hB,rfl,hh,hlen,hel,hnd,_⟩:=map_now hm hid hv hf
 obtain ⟨hS,hback⟩:=map_keys hlen hel
 obtain ⟨k0,e1,e2,_⟩:=hf.1 key
 obtain rfl:k0=kv:=(exactV_rep e1 hk).symm
 rcases K.find c.w k0 e2 es'.toList hS with ⟨h1,h2⟩ | ⟨j,en,h1,h2,h3⟩
 ·have hno:mget xs key=.none:=mget_none fun p hp he=>by
   obtain ⟨j,hj⟩:=List.mem_iff_getElem?.1 hp
   obtain ⟨en,u,h4,h5,_⟩:=hel j p.1 p.2 hj
   rw [he,e1] at h5
   exact h2 en (List.mem_of_getElem? h4) (Option.some.inj h5).symm
  obtain ⟨zv,hz1,hz2⟩:=zero_run hz c.w
  refine ⟨zv,?_,by rw [hno]; exact hz2 c⟩
  simp [Instr.lookup,run_underlying (tmap_under ht),MapKept.run_getObj_map hh,K.check c.w _ _ e2,h1,hz1,Result.andThen,hno]
 ·obtain ⟨x,y,h4,h5,h6⟩:=hback j en h2
  have hx:x=key:=hf.2 x key (exactV_inj h5 (by rw [h3]; exact e1))
  subst hx
  have hsome:mget xs x=some y:=mget_at hnd h4
  refine ⟨en.val,?_,by rw [hsome]; exact h6⟩
  simp [Instr.lookup,run_underlying (tmap_under ht),MapKept.run_getObj_map hh,K.check c.w _ _ e2,h1,Result.andThen,hsome]
theorem ok_lookup2 {id kt vt:Nat} {t:TypeId} {d:Option Nat} {x k:Operand} {ty:TypeId} {pos:String} {af:Array Edge} {gd:Option (Nat × Bool)} {S:Value→Prop} {xs:List (α × β)} {key:α} {z:β} (ht:tmap P t=some (kt,vt)) (K:KOk P kt S) (hf:KeyF f S) (hx:ev x=.mp id) (hid:m id=some (.map kt vt (mlv f g xs))) (hk:ev k=f key) (hz:tzero P vt=some (g z)) :
  OpOkR P pr ⟨d,.lookup t x k true,ty,pos,af,gd⟩ ev m (.tup [g ((mget xs key).getD z),.bool (mget xs key).isSome]) m :=
 OpOkR.value fun c a hev hm=>by
  have h1:=hev x (by simp [Op.operands])
  have h2:=hev k (by simp [Op.operands])
  rw [hx] at h1; rw [hk] at h2
  obtain ⟨u,hr,hu⟩:=look ht K hf hm hid h1 h2 hz true
  refine ⟨_,c,by simp [execOp,hr,Result.andThen]; rfl,?_,hm,Step.refl pr c⟩
  simp only [RepV,RepL]
  exact ⟨[u,.bool (mget xs key).isSome],rfl,u,_,rfl,hu,_,_,rfl,rfl,rfl⟩
theorem mlv_put {xs:List (α × β)} {k:α} {v:β}:(mput xs k v).map (·.1)=if k ∈ xs.map (·.1) then xs.map (·.1) else xs.map (·.1)++[k]:=by
 induction xs with
 | nil=>simp [mput]
 | cons p r ih =>
  obtain ⟨a,b⟩:=p
  simp only [mput]
  by_cases h:a=k
  ·simp [h]
  ·simp only [h,if_false,List.map_cons,ih,List.mem_cons]
   have:¬ k=a:=fun h'=>h h'.symm
   simp only [this,false_or]
   split <;> simp
theorem ok_update {id kt vt:Nat} {t:TypeId} {x k y:Operand} {ty:TypeId} {pos:String} {af:Array Edge} {gd:Option (Nat × Bool)} {S:Value→Prop} {xs:List (α × β)} {key:α} {val:β} {op:Op} (hop:op=.mapUpdate t x k y ∨ op=.insert t x k y) (ht:tmap P t=some (kt,vt)) (K:KOk P kt S) (hf:KeyF f S) (hg:∀ y,(g y).pure=true) (hx:ev x=.mp id) (hid:m id=some (.map kt vt (mlv f g xs))) (hk:ev k=f key) (hy:ev y=g val) :
  OpOkR P pr ⟨.none,op,ty,pos,af,gd⟩ ev m .und (m.put id (.map kt vt (mlv f g (mput xs key val)))) :=
 OpOkR.skip rfl fun c a hev hm=>by
  have hops:op.operands=#[x,k,y]:=by rcases hop with rfl | rfl <;> rfl
  have h1:=hev x (by simp [hops])
  have h2:=hev k (by simp [hops])
  have h3:=hev y (by simp [hops])
  rw [hx] at h1; rw [hk] at h2; rw [hy] at h3
  obtain ⟨b,es',ck,hB,hvx,hh,hlen,hel,hnd,hpv⟩:=map_now hm hid h1 hf
  obtain ⟨hS,hback⟩:=map_keys hlen hel
  obtain ⟨k0,e1,e2,_⟩:=hf.1 key
  have hk0:=exactV_rep e1 h2
  have hb:b<c.w.heap.size:=(Array.getElem?_eq_some_iff.1 hh).1
  -- a new table of entries
  have fin : ∀ es2 ck2, (∀ w' : World, w' = { c.w with heap := c.w.heap.setIfInBounds b (.map es2 ck2) } → (Instr.mapUpdate t (.map (some b)) k0 (a.eval y)).run P c.w = .ok () w') →
    (∀ c':Cx,c.Le c'→(∀ i,BLe (c.B i) (c'.B i))→RepL c' ((mlv f g (mput xs key val)).map (·.1)) (es2.toList.map (·.key))∧RepL c' ((mlv f g (mput xs key val)).map (·.2)) (es2.toList.map (·.val)))→BornOk es2 ck2 →
    ∃ c',(execOp a.eval ⟨.none,op,ty,pos,af,gd⟩).run P c.w=.ok .skip c'.w∧RepM c' (m.put id (.map kt vt (mlv f g (mput xs key val))))∧Step pr c c':=by
   intro es2 ck2 hrun hrep hbo
   obtain ⟨c',hw,hb',h4,h5⟩:=hm.upd (pr:=pr) id (.map kt vt (mlv f g (mput xs key val))) (.mp b) { c.w with heap:=c.w.heap.setIfInBounds b (.map es2 ck2) } rfl rfl rfl (Nat.le_refl _) (by simp)
    (fun q hq hne=>by simp only; rw [Array.getElem?_setIfInBounds_ne]; intro he; subst he; exact hne _ hB rfl)
    (fun q hq=>.inl ⟨_,hB,hq⟩) (by rw [hB]; exact BLe.refl _) (fun _ be0 h0=>by rw [hB] at h0; cases h0; exact .refl _)
    (fun c' hw hle hble=>by
     simp only [RepE]
     obtain ⟨r1,r2⟩:=hrep c' hle hble
     refine ⟨b,es2,ck2,rfl,by rw [hw]; simp [hb],r1,r2,?_,?_,?_,hbo⟩
     ·refine pureL_iff.2 fun q hq=>?_
      simp only [mlv,List.map_map,List.mem_map] at hq
      obtain ⟨p,_,rfl⟩:=hq
      obtain ⟨_,_,_,h⟩:=hf.1 p.1; exact h
     ·refine pureL_iff.2 fun q hq=>?_
      simp only [mlv,List.map_map,List.mem_map] at hq
      obtain ⟨p,_,rfl⟩:=hq
      exact hg p.2
     ·have:(mlv f g (mput xs key val)).map (·.1)=((mput xs key val).map (·.1)).map f:=by simp [mlv]
      rw [this,mlv_put]
      rw [List.nodup_iff_pairwise_ne,List.pairwise_map,← List.nodup_iff_pairwise_ne.trans ⟨fun h=>h.imp fun {p q} h' he=>h' (hf.2 p q he),fun h=>h.imp fun {p q} h' he=>h' (congrArg f he)⟩]
      split
      ·exact hnd
      ·rename_i hni
       rw [List.nodup_append]
       refine ⟨hnd,by simp,fun p hp q hq=>?_⟩
       simp at hq; subst hq; exact fun he=>hni (he ▸ hp))
   refine ⟨c',?_,h4,h5⟩
   rw [hw]
   rcases hop with rfl | rfl <;> simp [execOp,hvx,hk0,hrun _ rfl,Result.andThen]
  have hbo:BornOk es' ck:=by
   have he:=hm.ent id
   rw [hid] at he
   simp only [RepE] at he
   obtain ⟨b2,es2,ck2,g1,g2,g3,g4,g5,g6,g7,g8⟩:=he
   rw [hB] at g1; cases g1
   rw [hh] at g2; cases g2
   exact g8
  have kmap:∀ l:List (α × β),(mlv f g l).map (·.1)=l.map fun p=>f p.1:=fun l=>by simp [mlv]
  have vmap:∀ l:List (α × β),(mlv f g l).map (·.2)=l.map fun p=>g p.2:=fun l=>by simp [mlv]
  rcases K.find c.w k0 e2 es'.toList hS with ⟨q1,q2⟩ | ⟨j,en,q1,q2,q3⟩
  ·have hput:mput xs key val=xs++[(key,val)]:=mput_none fun p hp he=>by
    obtain ⟨j,hj⟩:=List.mem_iff_getElem?.1 hp
    obtain ⟨en,u,h4,h5,_⟩:=hel j p.1 p.2 hj
    rw [he,e1] at h5
    exact q2 en (List.mem_of_getElem? h4) (Option.some.inj h5).symm
   refine fin (es'.push ⟨k0,a.eval y,ck⟩) (ck+1) (fun w' hw'=>?_) (fun c' hle hble=>?_) ⟨?_,?_⟩
   rotate_left 2
   ·rw [Array.toList_push,List.map_append,List.nodup_append]
    refine ⟨hbo.1,by simp,fun p hp q hq=>?_⟩
    simp only [List.map_cons,List.map_nil,List.mem_singleton] at hq
    subst hq
    obtain ⟨x,hx,rfl⟩:=List.mem_map.1 hp
    exact Nat.ne_of_lt (hbo.2 x hx)
   ·intro x hx
    rw [Array.toList_push,List.mem_append] at hx
    rcases hx with hx | hx
    ·exact Nat.lt_succ_of_lt (hbo.2 x hx)
    ·simp only [List.mem_singleton] at hx; subst hx; exact Nat.lt_succ_self _
   ·subst hw'
    simp [Instr.mapUpdate,run_underlying (tmap_under ht),MapKept.run_getObj_map hh,K.check c.w _ _ e2,q1,MapKept.run_setObj_map _ hh,Result.andThen]
   ·rw [hput,kmap,vmap]
    simp only [List.map_append,List.map_cons,List.map_nil,Array.toList_push]
    have he:=hm.ent id
    rw [hid] at he
    simp only [RepE] at he
    obtain ⟨b2,es2,ck2,g1,g2,g3,g4,g5,g6,g7⟩:=he
    rw [hB] at g1; cases g1
    rw [hh] at g2; cases g2
    rw [kmap] at g3 g5; rw [vmap] at g4 g6
    refine ⟨RepL.append (RepL.mono hle _ _ (fun q hq=>by rw [norefL_of_pureL _ g5] at hq; cases hq) g3) ?_,RepL.append (RepL.mono hle _ _ (fun q hq=>by rw [norefL_of_pureL _ g6] at hq; cases hq) g4) ?_⟩
    ·simp only [RepL]
     refine ⟨_,_,rfl,RepV.mono hle _ _ (fun q _=>hble q) (by rw [← hk0]; exact h2),rfl⟩
    ·simp only [RepL]
     exact ⟨_,_,rfl,RepV.mono hle _ _ (fun q _=>hble q) h3,rfl⟩
  ·obtain ⟨x0,y0,h4,h5,h6⟩:=hback j en q2
   have hx0:x0=key:=hf.2 x0 key (exactV_inj h5 (by rw [q3]; exact e1))
   subst hx0
   have hput:mput xs x0 val=xs.set j (x0,val):=mputK_at hnd h4
   have hjl:j<xs.length:=(List.getElem?_eq_some_iff.1 h4).1
   have hj2:es'[j]?=some en:=by simpa using q2
   have hbm:∀ (l:List MapEntry),(l.modify j fun e'=>{ e' with key:=k0,val:=a.eval y }).map (·.born)=l.map (·.born):=fun l=>by
    apply List.ext_getElem?
    intro i
    simp only [List.getElem?_map,List.getElem?_modify]
    cases l[i]? with
    | none=>simp
    | some z=>by_cases hij:j=i <;> simp [hij]
   refine fin (es'.modify j fun e'=>{ e' with key:=k0,val:=a.eval y }) ck (fun w' hw'=>?_) (fun c' hle hble=>?_) ⟨by rw [Array.toList_modify,hbm]; exact hbo.1,fun x hx=>?_⟩
   rotate_left 2
   ·rw [Array.toList_modify] at hx
    have:x.born ∈ es'.toList.map (·.born):=by rw [← hbm]; exact List.mem_map.2 ⟨x,hx,rfl⟩
    obtain ⟨z,hz,he⟩:=List.mem_map.1 this
    rw [← he]; exact hbo.2 z hz
   ·subst hw'
    simp [Instr.mapUpdate,run_underlying (tmap_under ht),MapKept.run_getObj_map hh,K.check c.w _ _ e2,q1,hj2,q3,K.stays c.w _ e2,MapKept.run_setObj_map _ hh,Result.andThen]
   ·rw [hput,kmap,vmap]
    have hlen2:(es'.modify j fun e'=>{ e' with key:=k0,val:=a.eval y }).toList.length=es'.toList.length:=by simp
    constructor
    ·refine RepL.of (by simp; simpa using hlen.symm) fun i lx v hlx hv=>?_
     simp only [List.getElem?_map,List.getElem?_set,Array.toList_modify,List.getElem?_modify,Option.map_eq_some_iff] at hlx
     obtain ⟨p,hp,rfl⟩:=hlx
     obtain ⟨en3,he3,rfl⟩:∃ en3,es'.toList[i]?=some en3∧(if j=i then { en3 with key:=k0,val:=a.eval y } else en3:MapEntry).key=v:=by
      simp only [List.getElem?_map,Array.toList_modify,List.getElem?_modify] at hv
      cases hq:es'.toList[i]? with
      | none=>rw [hq] at hv; simp at hv
      | some en3=>rw [hq] at hv; simp at hv; exact ⟨en3,rfl,hv⟩
     by_cases hij:j=i
     ·subst hij
      rw [if_pos rfl,if_pos hjl] at hp; cases hp
      simp only [if_true]
      exact RepV.mono hle _ _ (fun q _=>hble q) (by rw [← hk0]; exact h2)
     ·rw [if_neg hij] at hp
      simp only [hij,if_false]
      obtain ⟨en4,u,r1,r2,r3,r4,r5⟩:=hel i p.1 p.2 hp
      rw [he3] at r1; cases r1
      have he:=hm.ent id
      rw [hid] at he
      simp only [RepE] at he
      obtain ⟨b2,es2,ck2,g1,g2,g3,g4,g5,g6,g7⟩:=he
      rw [hB] at g1; cases g1
      rw [hh] at g2; cases g2
      rw [kmap] at g3
      obtain ⟨v2,s1,s2⟩:=g3.get (i:=i) (x:=f p.1) (by simp [hp])
      simp only [List.getElem?_map,he3,Option.map_some,Option.some.injEq] at s1
      subst s1
      exact RepV.mono hle _ _ (fun q _=>hble q) s2
    ·refine RepL.of (by simp; simpa using hlen.symm) fun i lx v hlx hv=>?_
     simp only [List.getElem?_map,List.getElem?_set,Array.toList_modify,List.getElem?_modify,Option.map_eq_some_iff] at hlx
     obtain ⟨p,hp,rfl⟩:=hlx
     obtain ⟨en3,he3,rfl⟩:∃ en3,es'.toList[i]?=some en3∧(if j=i then { en3 with key:=k0,val:=a.eval y } else en3:MapEntry).val=v:=by
      simp only [List.getElem?_map,Array.toList_modify,List.getElem?_modify] at hv
      cases hq:es'.toList[i]? with
      | none=>rw [hq] at hv; simp at hv
      | some en3=>rw [hq] at hv; simp at hv; exact ⟨en3,rfl,hv⟩
     by_cases hij:j=i
     ·subst hij
      rw [if_pos rfl,if_pos hjl] at hp; cases hp
      simp only [if_true]
      exact RepV.mono hle _ _ (fun q _=>hble q) h3
     ·rw [if_neg hij] at hp
      simp only [hij,if_false]
      obtain ⟨en4,u,r1,r2,r3,rfl,r5⟩:=hel i p.1 p.2 hp
      rw [he3] at r1; cases r1
      exact RepV.mono hle _ _ (fun q _=>hble q) r5
theorem ok_makeMap {i id kt vt:Nat} {t:TypeId} {ty:TypeId} {pos:String} {af:Array Edge} {gd:Option (Nat × Bool)} (hid:m id=.none):OpOkR P pr ⟨some i,.makeMap t .none,ty,pos,af,gd⟩ ev m (.mp id) (m.put id (.map kt vt [])) :=
 OpOkR.value fun c a hev hm=>by
  have hB:=hm.fresh hid
  obtain ⟨c',hw,hb,h2,h3⟩:=hm.upd (pr:=pr) id (.map kt vt []) (.mp c.w.heap.size) (c.w.alloc (.map #[] 0)) rfl rfl rfl (Nat.le_refl _) (by simp)
   (fun b hb _=>hpOld c.w _ b hb) (fun b hb=>by simp [BE.has] at hb; subst hb; exact .inr (Nat.le_refl _)) (by rw [hB]; trivial) (fun _ be0 h0=>by rw [hB] at h0; cases h0)
   (fun c' hw hle hble=>by
    simp only [RepE]
    exact ⟨c.w.heap.size,#[],0,rfl,by rw [hw]; show (c.w.heap.push _)[c.w.heap.size]?=_; simp,by simp [RepL],by simp [RepL],rfl,rfl,by simp,⟨by simp,by simp⟩⟩)
  refine ⟨.map (some c.w.heap.size),c',?_,?_,h2,h3⟩
  ·rw [hw]; rfl
  ·simp only [RepV]; exact ⟨_,hb,rfl⟩
end

theorem findAsk {P:Program} {k:TypeId} {α:Type} [DecidableEq α] {enc:α→Value} (heq:∀ x y w,(Op.equal k (enc x) (enc y)).run P w=.ok (decide (x=y)) w) (w:World) (x:α):∀ (es:List MapEntry) (i:Nat),(∀ e ∈ es,∃ y,e.key=enc y)→((Instr.findAsking k (enc x) es i).run P w=.ok .none w∧∀ e ∈ es,e.key ≠ enc x) ∨ ∃ j e,(Instr.findAsking k (enc x) es i).run P w=.ok (some (i+j,e.val)) w∧es[j]?=some e∧e.key=enc x
 | [],i,_=>.inl ⟨by simp [Instr.findAsking],by simp⟩
 | e :: es,i,h=>by
  obtain ⟨y,hy⟩:=h e (by simp)
  by_cases he:x=y
  ·subst he
   exact .inr ⟨0,e,by simp [Instr.findAsking,hy,heq],rfl,hy⟩
  ·have hne:¬ e.key=enc x:=fun h'=>by
    have h1:=heq x y w
    rw [← hy,h',heq x x w] at h1
    simp [he] at h1
   rcases findAsk heq w x es (i+1) (fun e' he'=>h e' (by simp [he'])) with ⟨h1,h2⟩ | ⟨j,e',h1,h2,h3⟩
   ·refine .inl ⟨by simp [Instr.findAsking,hy,heq,he,h1],fun e' he'=>?_⟩
    rcases List.mem_cons.1 he' with rfl | he'
    ·exact hne
    ·exact h2 e' he'
   ·exact .inr ⟨j+1,e',by simp [Instr.findAsking,hy,heq,he,h1]; omega,by simpa using h2,h3⟩
theorem kokS {P:Program} {k:TypeId} {ds:TypeDesc} {α:Type} [DecidableEq α] {enc:α→Value} (hk:P.underlying k=some ds) (hno:∀ x y,Instr.sameNow ds (enc x) (enc y)=.none) (hch:∀ w em x,(Instr.checkKey em 10000 k (enc x)).run P w=.ok () w) (heq:∀ x y w,(Op.equal k (enc x) (enc y)).run P w=.ok (decide (x=y)) w) (hst:∀ x,Instr.sameBits 10000 (enc x) (enc x)=true):KOk P k (fun v=>∃ x,v=enc x) where
 check:=fun w em v ⟨x,hx⟩=>by subst hx; exact hch w em x
 find:=fun w v ⟨x,hx⟩ es hes=>by
  subst hx
  cases es with
  | nil=>exact .inl ⟨by simp [Instr.findKey,run_underlying hk,Instr.findNow],by simp⟩
  | cons e es =>
   obtain ⟨y,hy⟩:=hes e (by simp)
   have hn:Instr.findNow ds (enc x) (e :: es) 0=.none:=by simp [Instr.findNow,hy,hno]
   have hrun:(Instr.findKey k (enc x) (e :: es)).run P w=(Instr.findAsking k (enc x) (e :: es) 0).run P w:=by simp [Instr.findKey,run_underlying hk,hn]
   rcases findAsk heq w x (e :: es) 0 hes with ⟨h1,h2⟩ | ⟨j,e',h1,h2,h3⟩
   ·exact .inl ⟨by rw [hrun,h1],h2⟩
   ·exact .inr ⟨j,e',by rw [hrun,h1]; simp,h2,h3⟩
 stays:=fun w v ⟨x,hx⟩=>by subst hx; simp [Instr.keyThatStays,hst]
theorem eqOf {P:Program} {t:TypeId} {xs ys:List LV} {us vs:List Value} {b:Bool} (h:AggEq P t xs ys b) (hx:exactL xs=some us) (hy:exactL ys=some vs) (w:World):(Op.equal t (.agg us.toArray) (.agg vs.toArray)).run P w=.ok b w:=by
 obtain ⟨_,us',vs',h1,h2,h3⟩:=h
 rw [hx] at h1; rw [hy] at h2; cases h1; cases h2
 exact h3 w
end Go.L
set_option linter.unusedVariables false
set_option linter.unusedSimpArgs false
namespace Go.L
section
variable {P:Program}
theorem run_copy_rowK (w:World) (dT sT ty elem:TypeId) (k g o dLen dCap:Nat) (a:Addr) (sLen sCap:Nat) (cur:Array Value) (t:TypeId) (cs:List Value)
  (hu:P.underlying dT=some (.slice elem)) (hs:∀ w,(sizeOf elem).run P w=.ok k w)
  (hg:w.heap[g]?=some (.cells cur t (0,0))) (hn:cs.length=Nat.min sLen dLen * k)
  (hsrc:∀ j v,cs[j]?=some v→w.cell? (a.add j)=some v) (hfit:o+cs.length≤cur.size) (h1:∀ v ∈ cs,v.oneCell'=true) :
  (Builtin.copy_ #[dT,sT] ty #[.slice (some ⟨g,o,none⟩) dLen dCap,.slice (some a) sLen sCap]).run P w =
   .ok (goInt (Nat.min sLen dLen)) (w.setRow g (cur.toList.take o++cs++cur.toList.drop (o+cs.length)).toArray):=by
 have hl:=run_firstCells_some (P:=P) w k (Nat.min sLen dLen) a sLen sCap cs hn hsrc
 have hst:=run_storeCells_at P g o t cs 0 cur w hg (by simpa using hfit) h1
 simp only [Nat.add_zero] at hst
 simp [Builtin.copy_,run_underlying hu,Builtin.lenOf,hs,hl,hst]
theorem zeros_one {z:Value} (hz:0<z.cells.size) (h1:∀ y ∈ z.cells,y.oneCell'=true) (n:Nat):∀ v ∈ (Builtin.zeroCells z.cells n).toList,v.oneCell'=true:=by
 intro v hv
 simp only [Builtin.zeroCells,Array.toList_map,List.mem_map] at hv
 obtain ⟨i,_,rfl⟩:=hv
 have hlt:i % z.cells.size<z.cells.size:=Nat.mod_lt _ hz
 rw [getElem!_pos z.cells _ hlt]
 exact h1 _ (Array.getElem_mem hlt)
theorem run_clear_rowK (w:World) (t e ty:TypeId) (z:Value) (ht:P.underlying t=some (.slice e)) (hv:∀ w,(zeroValue e).run P w=.ok z w) (hz:0<z.cells.size) (h1:∀ y ∈ z.cells,y.oneCell'=true) (g o n c:Nat) (hn:0<n) (cur:Array Value) (et:TypeId)
  (hg:w.heap[g]?=some (.cells cur et (0,0))) (hfit:o+n * z.cells.size≤cur.size) :
  (Builtin.clear_ #[t] ty #[.slice (some ⟨g,o,none⟩) n c]).run P w=.ok (.tuple #[]) (w.setRow g (cur.toList.take o++(Builtin.zeroCells z.cells n).toList++cur.toList.drop (o+n * z.cells.size)).toArray):=by
 have hlen:(Builtin.zeroCells z.cells n).toList.length=n * z.cells.size:=by simp [Builtin.zeroCells]
 have hst:=run_storeCells_at P g o et (Builtin.zeroCells z.cells n).toList 0 cur w hg (by rw [hlen]; simpa using hfit) (zeros_one hz h1 n)
 simp only [Nat.add_zero] at hst
 rw [hlen] at hst
 obtain ⟨m,rfl⟩:∃ m,n=m+1:=⟨n - 1,by omega⟩
 simp [Builtin.clear_,run_underlying ht,hv,hst]
theorem run_append_zeros_grow (w:World) (t tn ty e:TypeId) (i:TypeInfo) (z:Value) (kk kn:IntKind) (ht:P.underlying t=some (.slice e)) (htn:P.underlying tn=some (.int kn)) (hi:P.info? e=some i) (hz:i.zero=some z)
  (b:Addr) (sLen sCap:Nat) (olds:List Value) (hlo:olds.length=sLen * i.size) (holds:∀ j v,olds[j]?=some v→w.cell? (b.add j)=some v)
  (n:Nat) (h0:0<n) (hs:0<i.size) (hgr:sCap<sLen+n) (h63:((sLen+n:Nat):Int)≤9223372036854775807) (h48:n * i.bytes≤281474976710656) (hfit:Builtin.nextslicecap (sLen+n) sCap * i.bytes≤281474976710656) :
  (Builtin.append_ #[t,tn] ty #[.slice (some b) sLen sCap,.int kk n]).run P w =
   .ok (.slice (some ⟨w.heap.size,0,none⟩) (sLen+n) (grownCap w (sLen+n) sCap e)) (w.drew.alloc (.cells (olds.toArray++Builtin.zeroCells z.cells n++Builtin.zeroCells z.cells (grownCap w (sLen+n) sCap e - (sLen+n))) e)):=by
 have hn:¬ (sLen+n≤sCap):=by omega
 have hw:IntKind.i64.wrap (n:Int)=n:=by rw [IntKind.wrap_i64]; omega
 have h63':¬ (9223372036854775807<((sLen:Int)+(n:Int))):=by omega
 have h48':¬ (281474976710656<Builtin.nextslicecap (sLen+n) sCap * i.bytes):=by omega
 have h48i:¬ (281474976710656<(n:Int) * (i.bytes:Int)):=by
  rw [← Int.natCast_mul]
  omega
 have hneg:¬ ((n:Int)<0):=by omega
 have hn0:n ≠ 0:=by omega
 have hns:¬ (n * i.size=0):=Nat.mul_ne_zero hn0 (by omega)
 have hfo:=run_firstCells_some (P:=P) w.drew i.size sLen b sLen sCap olds hlo (by simpa using holds)
 simp [Builtin.append_,run_underlying ht,run_underlying htn,sizeOf,typeInfo,zeroValue,hi,hz,asInt,asIntOf,hw,hn,hn0,hneg,hns,h63',h48',h48i,Question.forced,hfo,newRow,grownCap]
theorem step_append_runL {ops:Array Oper} {o:Oper} {a:Act} {w:World} {K:Act→World→Prop} {Q:Exit→Act→World→Prop} {E:Prop}
  (hg:o.guard=none) (d x:Operand) (dT sT:TypeId) (hop:o.op=Op.call { callee:=Callee.builtin Builtin.append,args:=#[d,x],argTypes:=#[dT,sT] })
  (v u:Value) (hd:a.eval d=v) (hx:a.eval x=u) {v':Value} {w':World} (hr:(Builtin.append_ #[dT,sT] o.type #[v,u]).run P w=.ok v' w') (hK:K (a.put o.dst v') w') :
  if Region.wanted o (yielded ops a.tmps)=true then Oper.wp P o a w K Q else E:=by
 have hw:Region.wanted o (yielded ops a.tmps)=true:=by simp [Region.wanted,hg]
 rw [if_pos hw]
 unfold Oper.wp
 simp [execOp,hop,resolve,invoke,builtin,hd,hx,hr,Result.andThen]
 exact hK
theorem step_copy_runL {ops:Array Oper} {o:Oper} {a:Act} {w:World} {K:Act→World→Prop} {Q:Exit→Act→World→Prop} {E:Prop}
  (hg:o.guard=none) (d x:Operand) (dT sT:TypeId) (hop:o.op=Op.call { callee:=Callee.builtin Builtin.copy,args:=#[d,x],argTypes:=#[dT,sT] })
  (v u:Value) (hd:a.eval d=v) (hx:a.eval x=u) {v':Value} {w':World} (hr:(Builtin.copy_ #[dT,sT] o.type #[v,u]).run P w=.ok v' w') (hK:K (a.put o.dst v') w') :
  if Region.wanted o (yielded ops a.tmps)=true then Oper.wp P o a w K Q else E:=by
 have hw:Region.wanted o (yielded ops a.tmps)=true:=by simp [Region.wanted,hg]
 rw [if_pos hw]
 unfold Oper.wp
 simp [execOp,hop,resolve,invoke,builtin,hd,hx,hr,Result.andThen]
 exact hK
structure RowTo (w w':World) (e k:Nat) (u u':Value) (n':Nat) (xs':List Value):Prop where
 own:w'.ownsRow 0 e k u' n' xs'
 grown:w.grownBy w' u.ownBlock
 blk:∀ b,u'.ownBlock=some b→u.ownBlock=some b ∨ w.heap.size≤b
 drawn:w.drawn≤w'.drawn
theorem append_ty {t t' ty ty':TypeId} {vs:Array Value}:Builtin.append_ #[t,t'] ty vs=Builtin.append_ #[t,t'] ty' vs:=rfl
end
end Go.L
set_option linter.unusedVariables false
set_option linter.unusedSimpArgs false
namespace Go.L
section
variable {P:Program} {N:Nat} {pr:Nat→Prop} {ops:Array Oper} {e:Env} {m m':Mem} {ev:Operand→LV} {o:Oper} {lv:LV} {l:List Oper} {KE:Env→Mem→Prop}
def HB (id:Nat) (m:Mem):Prop:=∀ j le,j ≠ id→m j=some le→le.nref id=true
theorem HB.of {id:Nat} {ml:List (Nat × LE)} (h:freeB id ml=true):HB id (Mem.of ml):=freeB_of h
theorem HB.arr {id j e k:Nat} {xs:List LV} (h:HB id m):HB id (m.put j (.arr e k xs)):=fun i cs hi hm=>by
 simp only [Mem.put] at hm
 split at hm
 ·cases hm; rfl
 ·exact h i cs hi hm
theorem RepM.updT {c:Cx} (h:RepM c m) (id:Nat) (le:LE) (be:BE) (w':World)
  (hos:w'.os=c.w.os) (htape:w'.tape=c.w.tape) (hout:w'.output=c.w.output) (hdr:c.w.drawn≤w'.drawn) (hsize:c.w.heap.size≤w'.heap.size)
  (hkeep:∀ b,b<c.w.heap.size→(∀ be0,c.B id=some be0→¬ be0.has b)→w'.heap[b]?=c.w.heap[b]?)
  (hblk:∀ b,be.has b→(∃ be0,c.B id=some be0∧be0.has b) ∨ c.w.heap.size≤b)
  (hpr:¬ pr id) (hbox:HB id m) (hent:∀ c':Cx,c'.w=w'→c.Le c'→RepE c' (some le) (some be)) :
  ∃ c':Cx,c'.w=w'∧c'.B id=some be∧RepM c' (m.put id le)∧Grow pr c c'∧∀ i,i ≠ id→BLe (c.B i) (c'.B i):=by
 let c':Cx:=⟨w',fun i=>if i=id then some be else c.B i,c.O⟩
 have hown:∀ b,c'.own b→c.own b ∨ c.w.heap.size≤b:=by
  rintro b ⟨i,be',h1,h2⟩
  by_cases hi:i=id
  ·simp only [c',hi,if_true] at h1
   cases h1
   rcases hblk b h2 with ⟨be0,h3,h4⟩ | hs
   ·exact .inl ⟨id,be0,h3,h4⟩
   ·exact .inr hs
  ·simp only [c',hi,if_false] at h1
   exact .inl ⟨i,be',h1,h2⟩
 have hgrow:Grow pr c c':=by
  refine ⟨rfl,hos,htape,hout,hdr,hsize,fun b hb ho=>hkeep b hb (fun be0 h0 h1=>ho ⟨id,be0,h0,h1⟩),hown,fun i be' hp hb=>?_⟩
  by_cases hi:i=id
  ·subst hi; exact absurd hp hpr
  ·exact ⟨be',by simp only [c',hi,if_false]; exact hb,.refl be'⟩
 have hble:∀ i,i ≠ id→BLe (c.B i) (c'.B i):=by
  intro i hi
  simp only [c',hi,if_false]; exact BLe.refl _
 refine ⟨c',rfl,by simp [c'],⟨fun i=>?_,?_,?_,?_⟩,hgrow,hble⟩
 ·by_cases hi:i=id
  ·subst hi; simp only [c',Mem.put,if_true]; exact hent c' rfl hgrow.le
  ·simp only [Mem.put,hi,if_false]
   have hBi:c'.B i=c.B i:=by simp [c',hi]
   rw [hBi]
   have hh:∀ be' b,c.B i=some be'→be'.has b→c'.w.heap[b]?=c.w.heap[b]?:=fun be' b hb hbb =>
    hkeep b ((h.ent i).lt hb hbb) fun be0 h0 h1=>hi (h.inj i id be' be0 b hb h0 hbb h1)
   have he:=h.ent i
   cases hmi:m i with
   | none=>rw [hmi] at he; simpa only [RepE] using he
   | some le' =>
    rw [hmi] at he
    cases le' with
    | box cs =>
     simp only [RepE] at he ⊢
     obtain ⟨b,vs,ee,h1,h2,h3,h4⟩:=he
     exact ⟨b,vs,ee,h1,(hh _ b h1 rfl).trans h2,RepL.mono hgrow.le cs vs (fun j hj=>by
      by_cases hji:j=id
      ·subst hji; have h9:=hbox i _ hi hmi; simp only [LE.nref] at h9; rw [h9] at hj; cases hj
      ·exact hble j hji) h3,h4⟩
    | arr ee k xs =>
     simp only [RepE] at he ⊢
     obtain ⟨u,vs,h1,h0,h2,h3,h4,h5⟩:=he
     exact ⟨u,vs,h1,h0,ownsRow_same h2 (fun b hb=>hh _ b h1 (.inl hb)),RepL.mono hgrow.le xs vs (fun j hj=>by rw [norefL_of_pureL xs h5] at hj; cases hj) h3,h4,h5⟩
    | nest ee k os xs =>
     simp only [RepE] at he ⊢
     obtain ⟨u,vs,bs,h1,h0,h2,h3,h4⟩:=he
     exact ⟨u,vs,bs,h1,h0,ownsRow_same h2 (fun b hb=>hh _ b h1 (.inl hb)),h3.mono hgrow.le (fun b hb=>hh _ b h1 (.inr hb)),h4⟩
    | nesth ee k os xs i1 o1 id2 n2 =>
     simp only [RepE] at he ⊢
     obtain ⟨u,vs,bs,h1,h0,h2,h3,⟨ws,v,q1,q2,q3⟩,h4⟩:=he
     exact ⟨u,vs,bs,h1,h0,ownsRow_same h2 (fun b hb=>hh _ b h1 (.inl hb)),h3.mono hgrow.le (fun b hb=>hh _ b h1 (.inr hb)),⟨ws,v,q1,(cell_same (hh _ ws h1 (.inl q1)) _).trans q2,RepV.mono hgrow.le (.arr id2 n2) v (fun j hj=>by
      by_cases hji:j=id
      ·subst hji; have h9:=hbox i _ hi hmi; simp only [LE.nref] at h9; simp only [LV.noref] at hj; rw [h9] at hj; cases hj
      ·exact hble j hji) q3⟩,h4⟩
    | dead=>simpa only [RepE] using he
    | map kt vt es =>
     simp only [RepE] at he ⊢
     obtain ⟨b,es',ck,h1,h2,h3,h4,h5,h6,h7⟩:=he
     exact ⟨b,es',ck,h1,(hh _ b h1 rfl).trans h2,RepL.mono hgrow.le _ _ (fun j hj=>by rw [norefL_of_pureL _ h5] at hj; cases hj) h3,RepL.mono hgrow.le _ _ (fun j hj=>by rw [norefL_of_pureL _ h6] at hj; cases hj) h4,h5,h6,h7⟩
 ·intro i i' b1 b2 b h1 h2 h3 h4
  by_cases hi:i=id <;> by_cases hi':i'=id
  ·rw [hi,hi']
  ·simp only [c',hi,if_true] at h1
   simp only [c',hi',if_false] at h2
   cases h1
   rcases hblk b h3 with ⟨be0,h5,h6⟩ | hs
   ·rw [hi]; exact h.inj id i' be0 b2 b h5 h2 h6 h4
   ·have:=(h.ent i').lt h2 h4; omega
  ·simp only [c',hi,if_false] at h1
   simp only [c',hi',if_true] at h2
   cases h2
   rcases hblk b h4 with ⟨be0,h5,h6⟩ | hs
   ·rw [hi']; exact h.inj i id b1 be0 b h1 h5 h3 h6
   ·have:=(h.ent i).lt h1 h3; omega
  ·simp only [c',hi,if_false] at h1
   simp only [c',hi',if_false] at h2
   exact h.inj i i' b1 b2 b h1 h2 h3 h4
 ·intro b ho hO
  rcases hown b ho with ho | hs
  ·exact h.notO b ho hO
  ·have:=h.Olt b hO; omega
 ·intro b hO; exact Nat.lt_of_lt_of_le (h.Olt b hO) hsize

def Env.drop (e:Env) (id:Nat):Env:=fun i=>if (e i).noref id=true then e i else .und
def OpOkT (P:Program) (pr:Nat→Prop) (id:Nat) (o:Oper) (ev:Operand→LV) (m:Mem) (lv:LV) (m':Mem):Prop :=
 ∀ (c:Cx) (a:Act) (Q:Exit→Act→World→Prop),(∀ x,RepV c (ev x) (a.eval x))→RepM c m →
  o.wp P a c.w (fun a' w'=>∃ v c',a'=a.put o.dst v∧c'.w=w'∧RepV c' lv v∧RepM c' m'∧Grow pr c c'∧∀ i,i ≠ id→BLe (c.B i) (c'.B i)) Q
theorem sTake {i id:Nat} {op:Op} {ty:TypeId} {pos:String} {af:Array Edge} (h:OpOkT P pr id ⟨some i,op,ty,pos,af,.none⟩ (lev e) m lv m') (hr:SOps P N pr ops l KE ((e.drop id).put i lv) m'):SOps P N pr ops (⟨some i,op,ty,pos,af,.none⟩ :: l) KE e m:=by
 intro hd hl
 obtain ⟨e2,m2,hK,hrest⟩:=hr hd (fun q hq=>hl q (by simp [hq]))
 refine ⟨e2,m2,hK,fun c a hrep=>?_⟩
 simp only [wpList]
 rw [if_pos (by simp [Region.wanted])]
 left
 refine Oper.wp_mono ?_ (h c a _ hrep.ev hrep.mem)
 rintro a' w' ⟨v,c',rfl,rfl,hv,hm',hg,hble⟩
 have hlt:i<N:=hd ⟨some i,op,ty,pos,af,.none⟩ (hl _ (by simp)) i rfl
 have hrep':Rep N c' ((e.drop id).put i lv) m' (a.put (some i) v):=by
  refine ⟨fun j=>?_,hm',by simp [Act.put,hrep.size],hrep.defers⟩
  simp only [Env.put,Act.put]
  by_cases hj:j=i
  ·subst hj
   have:j<a.tmps.size:=by rw [hrep.size]; exact hlt
   simpa [this] using hv
  ·simp only [hj,if_false]
   have:RepV c' (e.drop id j) (a.tmps.getD j undef):=by
    simp only [Env.drop]
    split
    ·rename_i hn
     exact RepV.mono hg.le _ _ (fun q hq=>hble q (fun hqi=>by subst hqi; rw [hn] at hq; cases hq)) (hrep.env j)
    ·simp only [RepV]
   simpa [Array.getElem?_setIfInBounds_ne (Ne.symm hj)] using this
 refine wpList_mono _ _ _ _ _ ?_ (hrest c' _ hrep')
 rintro x a'' w'' ⟨hx,c2,hw2,hr2,hg2⟩
 exact ⟨hx,c2,hw2,hr2,hg.trans hg2⟩

theorem OpOkT.of {id k n n' e0:Nat} {ys:List LV} (hpr:¬ pr id) (hbox:HB id m)
  (W:∀ (c:Cx) (a:Act),(∀ x,RepV c (ev x) (a.eval x))→RepM c m→∃ u f args vs',c.B id=some (.arr u k n [])∧(execOp a.eval o).run P c.w=.ok (.enter f args) c.w∧(Calls P f args c.w fun en w'=>∃ u',en=.returned u'∧RowTo c.w w' e0 k u u' ys.length (flat vs'))∧RepL c ys vs'∧(∀ v ∈ vs',v.cells.size=k∧∀ y ∈ v.cells,y.oneCell'=true)∧LV.pureL ys=true∧0<k) :
  OpOkT P pr id o ev m (.arr id ys.length) (m.put id (.arr e0 k ys)):=by
 intro c a Q hev hm
 obtain ⟨u,f,args,vs',hB,hrun,hcall,hl,hc,hp,hk⟩:=W c a hev hm
 unfold Oper.wp
 rw [hrun]
 simp only [Oper.upon]
 refine hcall.mono ?_
 rintro en w' ⟨u',rfl,h⟩
 obtain ⟨c',hw,hb,h2,h3,h4⟩:=hm.updT (pr:=pr) id (.arr e0 k ys) (.arr u' k ys.length []) w' h.grown.os h.grown.tape h.grown.output h.drawn h.grown.size
  (fun b hb hne=>h.grown.block b hb (fun hh=>hne _ hB (.inl hh.symm)))
  (fun b hb=>hb.elim (fun hb=>(h.blk b hb).imp (fun hh=>⟨_,hB,.inl hh⟩) (fun hh=>hh)) (fun hh=>by cases hh)) hpr hbox
  (fun c' hw hle=>by
   simp only [RepE]
   exact ⟨u',vs',rfl,hk,by rw [hw]; exact h.own,RepL.mono hle _ _ (fun j hj=>by rw [norefL_of_pureL _ hp] at hj; cases hj) hl,hc,hp⟩)
 refine ⟨u',c',rfl,hw,?_,h2,h3,h4⟩
 simp only [RepV]
 refine ⟨?_,_,_,_,_,hb,Nat.le_refl _,fun _=>rfl⟩
 rcases h.own.2 with ⟨rfl,_⟩ | ⟨g,cap,cur,rfl,_⟩ <;> rfl

theorem flat_take {k:Nat}:∀ {vs:List Value} (h:∀ v ∈ vs,v.cells.size=k) (i:Nat),(flat vs).take (i * k)=flat (vs.take i)
 | [],_,i=>by simp [flat]
 | v :: vs,h,0=>by simp [flat]
 | v :: vs,h,i+1=>by
  have hv:=h v (by simp)
  rw [flat_cons,List.take_succ_cons,flat_cons,List.take_append,Nat.succ_mul]
  have e1:(i * k+k) - v.cells.toList.length=i * k:=by simp [hv]
  rw [e1,flat_take (fun u hu=>h u (by simp [hu])) i,List.take_of_length_le (by simp [hv])]
theorem flat_drop {k:Nat}:∀ {vs:List Value} (h:∀ v ∈ vs,v.cells.size=k) (i:Nat),(flat vs).drop (i * k)=flat (vs.drop i)
 | [],_,i=>by simp [flat]
 | v :: vs,h,0=>by simp [flat]
 | v :: vs,h,i+1=>by
  have hv:=h v (by simp)
  rw [flat_cons,List.drop_succ_cons,List.drop_append,Nat.succ_mul]
  have e1:(i * k+k) - v.cells.toList.length=i * k:=by simp [hv]
  rw [e1,flat_drop (fun u hu=>h u (by simp [hu])) i,List.drop_of_length_le (by simp [hv])]
  rfl
theorem flat_one {vs:List Value} (h:∀ v ∈ vs,∀ y ∈ v.cells,y.oneCell'=true):∀ y ∈ flat vs,y.oneCell'=true:=by
 intro y hy
 simp only [flat,List.mem_flatMap] at hy
 obtain ⟨v,hv,hy⟩:=hy
 exact h v hv y (by simpa using hy)

def InsW (P:Program) (f e k:Nat):Prop:=∀ (u:Value) (n i:Nat) (xs:List Value) (v:Value) (vs:List Value) (w:World),w.ownsRow 0 e k u n xs→(∀ y ∈ xs,y.oneCell'=true)→i≤n→n≤549755813887→w.ownsRow 0 e k v 1 vs→(∀ y ∈ vs,y.oneCell'=true)→(∀ b,v.ownBlock=some b→u.ownBlock ≠ some b) →
 Calls P f #[u,.int .i64 i,v] w fun en w'=>∃ u',en=.returned u'∧RowTo w w' e k u u' (n+1) (xs.take (i * k)++vs++xs.drop (i * k))
def DelW (P:Program) (f e k:Nat):Prop:=∀ (u:Value) (n i j:Nat) (xs:List Value) (w:World),w.ownsRow 0 e k u n xs→(∀ y ∈ xs,y.oneCell'=true)→i<j→j≤n →
 Calls P f #[u,.int .i64 i,.int .i64 j] w fun en w'=>∃ u',en=.returned u'∧RowTo w w' e k u u' (i+(n - j)) (xs.take (i * k)++xs.drop (j * k))
def CloneW (P:Program) (f e k:Nat):Prop:=∀ (a:Option Addr) (n cap:Nat) (news:List Value) (w:World),news.length=n * k→(a=none→n=0)→(∀ ad,a=some ad→∀ j u,news[j]?=some u→w.cell? (ad.add j)=some u)→(∀ u ∈ news,u.oneCell'=true)→n≤549755813888 →
 Calls P f #[.slice a n cap] w fun en w'=>∃ u',en=.returned u'∧RowTo w w' e k (.slice none 0 0) u' n news
def insF {α:Type} (xs:List α) (i:Int) (z:α):Option (List α):=if 0≤i∧i≤xs.length∧xs.length≤549755813887 then some (xs.take i.toNat++[z]++xs.drop i.toNat) else .none
def delF {α:Type} (xs:List α) (i j:Int):Option (List α):=if 0≤i∧i<j∧j≤xs.length then some (xs.take i.toNat++xs.drop j.toNat) else .none
theorem enterF {f : Nat} {xs : Array Operand} {ts : Array TypeId} {d : Option Nat} {ty : TypeId} {pos : String} {af : Array Edge} {gd : Option (Nat × Bool)} (hf : ∃ fn, P.funcs[f]? = some fn ∧ (fn.name == "runtime.NumGoroutine") = false ∧ fn.body.isNone = false) (a : Act) (w : World) :
  (execOp a.eval ⟨d,.call ⟨.value (.func f),xs,ts⟩,ty,pos,af,gd⟩).run P w=.ok (.enter f (xs.map a.eval)) w:=by
 obtain ⟨fn,hf,hname,hbody⟩:=hf
 have hname' : ¬ fn.name = "runtime.NumGoroutine" := by simpa using hname
 have hbody':¬ fn.body=.none:=fun hn=>by rw [hn] at hbody; cases hbody
 simp [execOp,resolve,Deferred.ofValue,Act.eval,invoke,callFunc,hf,hname',hbody']
theorem ok_insert {f id id2 e0 k:Nat} {x y z:Operand} {ts:Array TypeId} {d:Option Nat} {ty:TypeId} {pos:String} {af:Array Edge} {gd:Option (Nat × Bool)} {α:Type} {g:α→LV} {xs r:List α} {z0:α} {i:Int}
  (hf : ∃ fn, P.funcs[f]? = some fn ∧ (fn.name == "runtime.NumGoroutine") = false ∧ fn.body.isNone = false) (W : InsW P f e0 k) (hx : ev x = .arr id xs.length) (hid : m id = some (.arr e0 k (xs.map g))) (hy : ev y = .int .i64 i) (hz : ev z = .arr id2 1) (hid2 : m id2 = some (.arr e0 k ([z0].map g))) (hne : id2 ≠ id) (hpr : ¬ pr id) (hbox : HB id m) (hi : insF xs i z0 = some r) :
  OpOkT P pr id ⟨d,.call ⟨.value (.func f),#[x,y,z],ts⟩,ty,pos,af,gd⟩ ev m (.arr id r.length) (m.put id (.arr e0 k (r.map g))):=by
 unfold insF at hi
 split at hi
 ·rename_i hb
  obtain rfl:=Option.some.inj hi
  have hlen:∀ q:List α,(q.map g).length=q.length:=fun q=>by simp
  rw [← hlen (xs.take i.toNat++[z0]++xs.drop i.toNat)]
  refine OpOkT.of (n:=xs.length) (n':=0) hpr hbox fun c a hev hm=>?_
  have h1:=hev x
  have h2:=hev y
  have h3:=hev z
  rw [hx] at h1; rw [hy] at h2; rw [hz] at h3
  obtain ⟨vs,hB,hk,hown,hl,hc,hp⟩:=arr_now hm h1 hid (by simp)
  obtain ⟨zs,hBz,_,hownz,hlz,hcz,hpz⟩:=arr_now hm h3 hid2 (by simp)
  simp only [RepV] at h2
  refine ⟨a.eval x,f,_,vs.take i.toNat++zs++vs.drop i.toNat,by rw [hB]; simp,enterF hf a c.w,?_,?_,?_,?_,hk⟩
  ·have hi':a.eval y=.int .i64 ((i.toNat:Nat):Int):=by rw [h2,Int.toNat_of_nonneg hb.1]
   have e1:(#[x,y,z]:Array Operand).map a.eval=#[a.eval x,.int .i64 ((i.toNat:Nat):Int),a.eval z]:=by simp [hi']
   rw [e1]
   have hvl:vs.length=xs.length:=by have:=hl.length; simpa using this.symm
   have:=W (a.eval x) xs.length i.toNat (flat vs) (a.eval z) (flat zs) c.w (by simpa using hown) (flat_one fun v hv=>(hc v hv).2) (by omega) hb.2.2 (by simpa using hownz) (flat_one fun v hv=>(hcz v hv).2)
    (fun b hb1 hb2=>hne (hm.inj id2 id _ _ b hBz hB (.inl hb1) (.inl hb2)))
   refine this.mono ?_
   rintro en w' ⟨u',rfl,hr⟩
   refine ⟨u',rfl,?_⟩
   rw [flat_take (fun v hv=>(hc v hv).1),flat_drop (fun v hv=>(hc v hv).1),← flat_append,← flat_append] at hr
   have e2:((xs.take i.toNat++[z0]++xs.drop i.toNat).map g).length=xs.length+1:=by simp; omega
   rw [e2]; exact hr
  ·rw [List.map_append,List.map_append,List.map_take,List.map_drop]
   exact ((hl.take _).append hlz).append (hl.drop _)
  ·intro v hv
   rcases List.mem_append.1 hv with hv | hv
   ·rcases List.mem_append.1 hv with hv | hv
    ·exact hc v (List.mem_of_mem_take hv)
    ·exact hcz v hv
   ·exact hc v (List.mem_of_mem_drop hv)
  ·rw [List.map_append,List.map_append,List.map_take,List.map_drop]
   refine pureL_append (pureL_append ?_ hpz) ?_
   ·exact pureL_iff.2 fun q hq=>pureL_iff.1 hp q (List.mem_of_mem_take hq)
   ·exact pureL_iff.2 fun q hq=>pureL_iff.1 hp q (List.mem_of_mem_drop hq)
 ·cases hi
theorem ok_delete {f id e0 k:Nat} {x y z:Operand} {ts:Array TypeId} {d:Option Nat} {ty:TypeId} {pos:String} {af:Array Edge} {gd:Option (Nat × Bool)} {α:Type} {g:α→LV} {xs r:List α} {i j:Int}
  (hf : ∃ fn, P.funcs[f]? = some fn ∧ (fn.name == "runtime.NumGoroutine") = false ∧ fn.body.isNone = false) (W : DelW P f e0 k) (hx : ev x = .arr id xs.length) (hid : m id = some (.arr e0 k (xs.map g))) (hy : ev y = .int .i64 i) (hz : ev z = .int .i64 j) (hpr : ¬ pr id) (hbox : HB id m) (hi : delF xs i j = some r) :
  OpOkT P pr id ⟨d,.call ⟨.value (.func f),#[x,y,z],ts⟩,ty,pos,af,gd⟩ ev m (.arr id r.length) (m.put id (.arr e0 k (r.map g))):=by
 unfold delF at hi
 split at hi
 ·rename_i hb
  obtain rfl:=Option.some.inj hi
  have hlen:∀ q:List α,(q.map g).length=q.length:=fun q=>by simp
  rw [← hlen (xs.take i.toNat++xs.drop j.toNat)]
  refine OpOkT.of (n:=xs.length) (n':=0) hpr hbox fun c a hev hm=>?_
  have h1:=hev x
  have h2:=hev y
  have h3:=hev z
  rw [hx] at h1; rw [hy] at h2; rw [hz] at h3
  obtain ⟨vs,hB,hk,hown,hl,hc,hp⟩:=arr_now hm h1 hid (by simp)
  simp only [RepV] at h2 h3
  refine ⟨a.eval x,f,_,vs.take i.toNat++vs.drop j.toNat,by rw [hB]; simp,enterF hf a c.w,?_,?_,?_,?_,hk⟩
  ·have hi':a.eval y=.int .i64 ((i.toNat:Nat):Int):=by rw [h2,Int.toNat_of_nonneg hb.1]
   have hj':a.eval z=.int .i64 ((j.toNat:Nat):Int):=by rw [h3,Int.toNat_of_nonneg (by omega)]
   have e1:(#[x,y,z]:Array Operand).map a.eval=#[a.eval x,.int .i64 ((i.toNat:Nat):Int),.int .i64 ((j.toNat:Nat):Int)]:=by simp [hi',hj']
   rw [e1]
   have:=W (a.eval x) xs.length i.toNat j.toNat (flat vs) c.w (by simpa using hown) (flat_one fun v hv=>(hc v hv).2) (by omega) (by omega)
   refine this.mono ?_
   rintro en w' ⟨u',rfl,hr⟩
   refine ⟨u',rfl,?_⟩
   rw [flat_take (fun v hv=>(hc v hv).1),flat_drop (fun v hv=>(hc v hv).1),← flat_append] at hr
   have e2:((xs.take i.toNat++xs.drop j.toNat).map g).length=i.toNat+(xs.length - j.toNat):=by simp; omega
   rw [e2]; exact hr
  ·rw [List.map_append,List.map_take,List.map_drop]
   exact (hl.take _).append (hl.drop _)
  ·intro v hv
   rcases List.mem_append.1 hv with hv | hv
   ·exact hc v (List.mem_of_mem_take hv)
   ·exact hc v (List.mem_of_mem_drop hv)
  ·rw [List.map_append,List.map_take,List.map_drop]
   refine pureL_append ?_ ?_
   ·exact pureL_iff.2 fun q hq=>pureL_iff.1 hp q (List.mem_of_mem_take hq)
   ·exact pureL_iff.2 fun q hq=>pureL_iff.1 hp q (List.mem_of_mem_drop hq)
 ·cases hi
theorem ok_bsA {d id kk len:Nat} {t el:TypeId} {ty:TypeId} {pos:String} {af:Array Edge} {gd:Option (Nat × Bool)} {α:Type} {g:α→LV} {ys:List α} {ps:List (Nat × Operand)} (he:telem P t=some el) (hrow:trow P el=true) (hk:tsize P el=kk) (hsm0:Nat.ble (len * kk) 16777216=true) (hidx0:ps.map (·.1)=List.range len) (hv0:(ps.map fun p=>ev p.2)=ys.map g) (hok:OkF kk g) (hid:m id=.none) :
  OpOk P pr ⟨some d,.buildSlice t len ps.toArray,ty,pos,af,gd⟩ ev m (.arr id ys.length) (m.put id (.arr el kk (ys.map g))):=by
 subst hk
 have hsm:=Nat.le_of_ble_eq_true hsm0
 have hu:=elem_of he
 obtain ⟨i,zv,hi,hzv,hzs,hz1,hsz,hby,hts⟩:=row_of hrow
 obtain ⟨parts,hparts0⟩:∃ parts:Array (Nat × Operand),parts=ps.toArray:=⟨_,rfl⟩
 have hpt:parts.toList=ps:=by rw [hparts0]
 have hidx:parts.toList.map (·.1)=List.range len:=by rw [hpt]; exact hidx0
 have hels:okEls (tsize P el) (parts.toList.map fun p=>ev p.2):=by rw [hpt,hv0]; exact hok.els ys
 obtain ⟨o,ho0⟩:∃ o:Oper,o=⟨some d,.buildSlice t len ps.toArray,ty,pos,af,gd⟩:=⟨_,rfl⟩
 have ho:o.op=.buildSlice t len parts:=by rw [ho0,hparts0]
 rw [← ho0]
 refine OpOk.value fun c a hev hm=>?_
 have hplen:parts.toList.length=len:=by have:=congrArg List.length hidx; simpa using this
 let vs:=parts.toList.map fun p=>a.eval p.2
 have hl:RepL c (parts.toList.map fun p=>ev p.2) vs:=RepL.of (by simp [vs]) fun j x v hx hv=>by
  simp only [vs,List.getElem?_map,Option.map_eq_some_iff] at hx hv
  obtain ⟨p,hp,rfl⟩:=hx
  obtain ⟨p',hp',rfl⟩:=hv
  rw [hp] at hp'; cases hp'; exact hev _
 have hcell:∀ v ∈ vs,v.cells.size=i.size∧∀ y ∈ v.cells,y.oneCell'=true:=by
  intro v hv
  simp only [vs,List.mem_map] at hv
  obtain ⟨p,hp,rfl⟩:=hv
  obtain ⟨_,e1,e2⟩:=hels (ev p.2) (List.mem_map.2 ⟨p,hp,rfl⟩)
  obtain ⟨e3,e4⟩:=(hev p.2).cellsOf e2
  refine ⟨?_,e4⟩
  have:=e3.length
  rw [e1,hts] at this
  simpa using this.symm
 have hpure:LV.pureL (parts.toList.map fun p=>ev p.2)=true:=pureL_iff.2 fun x hx=>(hels x hx).1
 have hparts:(parts.map fun (p:Nat × Operand)=>(p.1,a.eval p.2)).toList=(vs.zipIdx 0).map fun x=>(x.2,x.1):=by
  apply List.ext_getElem?
  intro j
  have hj:=congrArg (fun l=>l[j]?) hidx
  simp only [List.getElem?_map,List.getElem?_range] at hj
  simp only [Array.toList_map,List.getElem?_map,List.getElem?_zipIdx,vs,Nat.zero_add]
  cases hp:parts.toList[j]? with
  | none=>simp
  | some p =>
   rw [hp] at hj
   have hjl:j<len:=by
    rw [← hplen]; exact (List.getElem?_eq_some_iff.1 hp).1
   rw [List.getElem?_range hjl] at hj
   simp at hj
   simp [hj]
 obtain ⟨cells,hfill,hflat⟩:∃ cells,Instr.fill (fun i'=>some (i' * i.size,i.size)) ((Array.range (len * i.size)).map (zv.cells[· % zv.cells.size]!)) (parts.map fun (p:Nat × Operand)=>(p.1,a.eval p.2)).toList=some cells∧cells.toList=flat vs:=by
  have hvl:vs.length=len:=by simp [vs,hplen]
  obtain ⟨r,hr,hrs,hrk⟩:=Great.fill_dense hsz vs 0 ((Array.range (len * i.size)).map (zv.cells[· % zv.cells.size]!)) (fun v hv=>(hcell v hv).1) (by simp [hvl])
  refine ⟨r,by rw [hparts]; exact hr,?_⟩
  apply List.ext_getElem?
  intro j
  rw [flat_get hsz (fun v hv=>(hcell v hv).1),Array.getElem?_toList,hrk j]
  simp only [Nat.zero_mul,Nat.zero_le,true_and,Nat.zero_add,Nat.sub_zero,hvl]
  by_cases hj:j<len * i.size
  ·rw [if_pos hj]
  ·rw [if_neg hj]
   have h1:¬ j / i.size<len:=fun hh=>hj ((Nat.div_lt_iff_lt_mul hsz).1 hh)
   rw [List.getElem?_eq_none (by omega:vs.length≤j / i.size)]
   simp; omega
 have hcells:cells=(flat vs).toArray:=by rw [← hflat]
 subst hcells
 have hrun:(execOp a.eval o).run P c.w=.ok (.value (.slice (some ⟨c.w.heap.size,0,.none⟩) len len)) (c.w.alloc (.cells (flat vs).toArray el)):=by
  by_cases hl0:len=0
  ·subst hl0
   have hp0:parts=#[]:=by apply Array.ext'; simpa using hplen
   subst hp0
   simp [execOp,ho,Instr.buildSlice,run_underlying hu,sizeOf,typeInfo,hi,Instr.fill,newRow,vs,flat,Array.range_zero']
  ·have hpos:¬ len * i.size=0:=by
    intro h0
    rcases Nat.mul_eq_zero.1 h0 with h0 | h0 <;> omega
   have hb:=run_buildSlice (P:=P) c.w t el len (parts.map fun (p:Nat × Operand)=>(p.1,a.eval p.2)) (flat vs).toArray i zv hu hi hzv (by rw [hts] at hsm; omega) hpos hfill
   simp [execOp,ho,hb]
 have hlen:ys.length=len:=by rw [← hplen,hpt]; have:=congrArg List.length hv0; simpa using this.symm
 have hB:=hm.fresh hid
 have hl':RepL c (ys.map g) vs:=by rw [← hv0,← hpt]; exact hl
 have hflen:(flat vs).length=len * i.size:=by
  rw [flat_length (fun v hv=>(hcell v hv).1)]; congr 1; rw [← hplen]; simp [vs]
 have hown:(c.w.alloc (.cells (flat vs).toArray el)).ownsRow 0 el i.size (.slice (some ⟨c.w.heap.size,0,.none⟩) len len) len (flat vs) :=
  ⟨hflen,.inr ⟨c.w.heap.size,len,(flat vs).toArray,rfl,Nat.zero_le _,heap_alloc_new c.w _,Nat.le_refl _,by
   have:len≤len * tsize P el:=Nat.le_mul_of_pos_right _ (by rw [hts]; exact hsz)
   simp only [maxLen]; omega,by simp [hflen],by rw [← hflen]; simp⟩⟩
 obtain ⟨c',hw,hb,h2,h3⟩:=hm.upd (pr:=pr) id (.arr el (tsize P el) (ys.map g)) (.arr (.slice (some ⟨c.w.heap.size,0,.none⟩) len len) (tsize P el) len []) (c.w.alloc (.cells (flat vs).toArray el)) rfl rfl rfl (Nat.le_refl _) (by simp)
  (fun b hb _=>hpOld c.w _ b hb) (fun b hb=>by simp [BE.has,Value.ownBlock] at hb; exact .inr (by omega)) (by rw [hB]; trivial) (fun _ be0 h0=>by rw [hB] at h0; cases h0)
  (fun c' hw hle hble=>by
   simp only [RepE]
   refine ⟨.slice (some ⟨c.w.heap.size,0,.none⟩) len len,vs,by simp [hlen],by rw [hts]; exact hsz,?_,RepL.mono hle _ _ (fun j _=>hble j) hl',fun u hu=>by rw [hts]; exact hcell u hu,by rw [← hv0,← hpt]; exact hpure⟩
   rw [hw,hts]; simpa [hlen] using hown)
 refine ⟨_,c',by rw [hw]; exact hrun,?_,h2,h3⟩
 simp only [RepV]
 exact ⟨rfl,_,_,_,_,hb,by omega,fun _=>rfl⟩
theorem clone_ok {f e0 k:Nat} (W:CloneW P f e0 k) (hk:Nat.ble 1 k=true) {α:Type} {g:α→LV} {xs r:List α} (id:Nat) (h:app [] xs=some r):LCall P f [.lst k (xs.map g)] (Mem.of []) (.arr id r.length) (Mem.of [(id,.arr e0 k (r.map g))]):=by
 unfold app at h
 split at h
 ·rename_i hb
  obtain rfl:xs=r:=by simpa using h
  intro c vs hm ha
  simp only [RepL] at ha
  obtain ⟨v,vs',rfl,hv,rfl⟩:=ha
  simp only [RepV] at hv
  obtain ⟨a,cap,rfl,hcap,hnil,hp,hx⟩:=hv
  have hx':∃ us,(flat us).length=xs.length * k∧(a=none→xs.length=0)∧(∀ ad,a=some ad→∀ j u,(flat us)[j]?=some u→c.w.cell? (ad.add j)=some u)∧RepL c (xs.map g) us∧∀ u ∈ us,u.cells.size=k∧∀ y ∈ u.cells,y.oneCell'=true:=by
   rcases hx with hx | ⟨b,off,us,rfl,hbl,hX,hl,hc,hra⟩
   ·have hx0:xs=[]:=by simpa using hx
    subst hx0
    exact ⟨[],by simp [flat],fun _=>rfl,by simp [flat],by simp [RepL],by simp⟩
   ·refine ⟨us,?_,(fun h=>by cases h),fun ad had j u hu=>?_,hl,hc⟩
    ·rw [flat_length (fun v hv=>(hc v hv).1)]; congr 1; have:=hl.length; simpa using this.symm
    ·cases had; rw [Addr.add_lit]; exact hra j u hu
  obtain ⟨us,h1,h2,h3,hl,hc⟩:=hx'
  have hlen:(xs.map g).length=xs.length:=by simp
  have:=W a xs.length cap (flat us) c.w h1 h2 h3 (flat_one fun v hv=>(hc v hv).2) (by simpa using hb)
  rw [hlen]
  refine this.mono ?_
  rintro en w' ⟨u',rfl,hr⟩
  have hB:=hm.fresh (id:=id) rfl
  obtain ⟨c',hw,hb',h4,h5⟩:=hm.upd (pr:=fun id=>Mem.of [] id ≠ .none) id (.arr e0 k (xs.map g)) (.arr u' k xs.length []) w' hr.grown.os hr.grown.tape hr.grown.output hr.drawn hr.grown.size
   (fun b hb _=>hr.grown.block b hb (by simp [Value.ownBlock])) (fun b hb=>.inr (hb.elim (fun hb=>(hr.blk b hb).elim (fun h=>by simp [Value.ownBlock] at h) (fun h=>h)) (fun hh=>by cases hh))) (by rw [hB]; trivial) (fun _ be0 h0=>by rw [hB] at h0; cases h0)
   (fun c' hw hle hble=>by
    simp only [RepE]
    exact ⟨u',us,by simp,Nat.le_of_ble_eq_true hk,by rw [hw]; simpa using hr.own,RepL.mono hle _ _ (fun j _=>hble j) hl,hc,hp⟩)
  refine ⟨u',c',rfl,hw,h4,?_,h5.grow⟩
  simp only [RepV]
  refine ⟨?_,_,_,_,_,hb',Nat.le_refl _,fun _=>rfl⟩
  rcases hr.own.2 with ⟨rfl,_⟩ | ⟨g,cap,cur,rfl,_⟩ <;> rfl
 ·cases h
def shrI (k:IntKind) (u w:Int):Int:=u.fdiv (2 ^ min w.toNat k.bits)
theorem ok_shr {d:Option Nat} {x y:Operand} {t t' ty:TypeId} {pos:String} {af:Array Edge} {gd:Option (Nat × Bool)} {k yk:IntKind} {u w:Int} (hx:ev x=.int k u) (hy:ev y=.int yk w) (hw:0≤w):OpOkR P pr ⟨d,.binOp .shr t x y t',ty,pos,af,gd⟩ ev m (.int k (shrI k u w)) m :=
 OpOkR.value fun c a hev hm=>by
  have h1:=hev x (by simp [Op.operands])
  have h2:=hev y (by simp [Op.operands])
  rw [hx] at h1; rw [hy] at h2
  simp only [RepV] at h1 h2
  refine ⟨.int k (shrI k u w),c,?_,by simp [RepV],hm,Step.refl pr c⟩
  have hn:¬ w<0:=by omega
  simp [execOp,h1,h2,binOp,Op.shift,hn,shrI,eqGuard]
theorem pnC {c:List LV} (hc:LV.pureL c=true):∀ {l:List LV},LV.pureL l=true→LV.pureL (l++c)=true:=fun h=>pureL_append h hc
theorem bits_agg {cs:Array Value} (h:∀ y ∈ cs.toList,(∃ k n,y=.int k n) ∨ ∃ b,y=.bool b) (n:Nat):Instr.sameBits (n+1) (.agg cs) (.agg cs)=true:=by
 simp only [Instr.sameBits,beq_self_eq_true,Bool.true_and,List.all_eq_true]
 intro p hp
 have hpe:p.1=p.2∧p.1 ∈ cs.toList:=by
  obtain ⟨i,hi,rfl⟩:=List.mem_iff_getElem.1 hp
  simp [List.getElem_zip]
 obtain ⟨a,b⟩:=p
 simp only at hpe ⊢
 obtain ⟨he,hm⟩:=hpe
 subst he
 rcases h _ hm with ⟨k,m,h⟩ | ⟨b,h⟩ <;> subst h <;> cases n <;> simp [Instr.sameBits]
mutual
theorem refs_pure:∀ (x:LV),x.pure=true→x.refs=[]
 | .und,_ | .int _ _,_ | .bool _,_ | .nil,_ | .slen _,_ | .full _ _,_ | .str _,_ | .it _,_ | .nilf,_ | .nilp,_ | .lst _ _,_=>by simp [LV.refs]
 | .sptr cs,h=>by simp only [LV.pure] at h; simp only [LV.refs]; exact refsL_pure' cs h
 | .arr _ _,h | .ptr _ _,h | .eptr _ _ _ _,h | .mp _,h=>by simp [LV.pure] at h
 | .agg cs,h=>by simp only [LV.pure] at h; simp only [LV.refs]; exact refsL_pure' cs h
 | .tup cs,h=>by simp only [LV.pure] at h; simp only [LV.refs]; exact refsL_pure' cs h
 | .fn _ cs,h=>by simp only [LV.pure] at h; simp only [LV.refs]; exact refsL_pure' cs h
 | .bfn _ cs,h=>by simp only [LV.pure] at h; simp only [LV.refs]; exact refsL_pure' cs h
theorem refsL_pure':∀ (xs:List LV),LV.pureL xs=true→LV.refsL xs=[]
 | [],_=>by simp [LV.refsL]
 | x :: xs,h=>by
  simp only [LV.pureL,Bool.and_eq_true] at h
  simp only [LV.refsL,refs_pure x h.1,refsL_pure' xs h.2,List.append_nil]
end
theorem refsL_pure {xs:List LV} (h:LV.pureL xs=true):LV.refsL xs=[]:=refsL_pure' xs h
end
end Go.L
set_option linter.unusedVariables false
set_option linter.unusedSimpArgs false
namespace Go.L
section
variable {P:Program} {N:Nat} {pr:Nat→Prop} {ops:Array Oper} {e:Env} {m m':Mem} {ev:Operand→LV} {o:Oper} {lv:LV} {l:List Oper} {KE:Env→Mem→Prop}
end
end Go.L
set_option linter.unusedVariables false
set_option linter.unusedSimpArgs false
namespace Go.L
mutual
/-- does the value not speak of memory that nobody owns? -/
def LV.nolst:LV→Bool
 | .lst _ _=>false
 | .full _ _=>false
 | .sptr _=>false
 | .agg cs=>LV.nolstL cs
 | .tup cs=>LV.nolstL cs
 | .fn _ cs=>LV.nolstL cs
 | .bfn _ cs=>LV.nolstL cs
 | _=>true
def LV.nolstL:List LV→Bool
 | []=>true
 | x :: xs=>x.nolst && LV.nolstL xs
end
def LE.plain (id:Nat):LE→Prop
 | .box cs=>LV.nolstL cs=true∧LV.norefL id cs=true
 | .arr _ _ xs=>LV.nolstL xs=true
 | .map _ _ es=>LV.nolstL (es.map (·.1))=true∧LV.nolstL (es.map (·.2))=true
 | .nest _ _ _ _=>False
 | .nesth _ _ _ _ _ _ _ _=>False
 | .dead=>True
inductive LendL (id k:Nat) (xs:List LV):List LV→List LV→Prop
 | nil:LendL id k xs [] []
 | row {n:Nat} {l l':List LV} (hn:n=xs.length) (h:LendL id k xs l l'):LendL id k xs (.arr id n :: l) (.lst k xs :: l')
 | keep {x:LV} {l l':List LV} (hx:x.noref id=true) (h:LendL id k xs l l'):LendL id k xs (x :: l) (x :: l')
theorem LendL.rep {id k:Nat} {xs:List LV} {c c':Cx} (hV:∀ x v,x.noref id=true→RepV c x v→RepV c' x v) (hR:∀ v,RepV c (.arr id xs.length) v→RepV c' (.lst k xs) v):∀ {l l':List LV} (h:LendL id k xs l l') {vs:List Value},RepL c l vs→RepL c' l' vs
 | _,_,.nil,vs,hr=>by simpa only [RepL] using hr
 | _,_,.row hn h,vs,hr=>by
  subst hn
  simp only [RepL] at hr ⊢
  obtain ⟨v,vs',rfl,h1,h2⟩:=hr
  exact ⟨v,vs',rfl,hR v h1,h.rep hV hR h2⟩
 | _,_,.keep hx h,vs,hr=>by
  simp only [RepL] at hr ⊢
  obtain ⟨v,vs',rfl,h1,h2⟩:=hr
  exact ⟨v,vs',rfl,hV _ v hx h1,h.rep hV hR h2⟩
end Go.L
set_option linter.unusedVariables false
set_option linter.unusedSimpArgs false
namespace Go.L
section
variable {P:Program} {N:Nat} {pr:Nat→Prop} {ops:Array Oper} {e:Env} {m m':Mem} {ev:Operand→LV} {o:Oper} {lv:LV} {l:List Oper} {KE:Env→Mem→Prop}
theorem RepN.at {c:Cx} {os:List (Nat × Nat × Nat)}:∀ {xs:List LV} {vs:List Value} {bs:List Nat},RepN c os xs vs bs→∀ {i:Nat} {x:LV},xs[i]?=some x →
  ∃ v bp b bq,vs[i]?=some v∧bs=bp++(b++bq)∧ElN c os x v b∧∀ {c':Cx} {x':LV} {v':Value} {b':List Nat},c.Le c'→(∀ q ∈ bp++bq,c'.w.heap[q]?=c.w.heap[q]?)→ElN c' os x' v' b'→RepN c' os (xs.set i x') (vs.set i v') (bp++(b'++bq))
 | [],_,_,h,i,x,hx=>by simp at hx
 | y :: ys,vs,bs,h,i,x,hx=>by
  simp only [RepN] at h
  obtain ⟨v,vs',b1,b2,rfl,rfl,h1,h2⟩:=h
  cases i with
  | zero =>
   simp at hx; subst hx
   refine ⟨v,[],b1,b2,by simp,by simp,h1,fun {c' x' v' b'} hle hh he=>?_⟩
   simp only [List.set_cons_zero,RepN,List.nil_append]
   exact ⟨v',vs',b',b2,rfl,rfl,he,h2.mono hle (fun q hq=>hh q (by simp [hq]))⟩
  | succ i =>
   simp at hx
   obtain ⟨u,bp,b,bq,g1,rfl,g3,g4⟩:=h2.at hx
   refine ⟨u,b1++bp,b,bq,by simpa using g1,by simp,g3,fun {c' x' v' b'} hle hh he=>?_⟩
   simp only [List.set_cons_succ,RepN]
   refine ⟨v,vs'.set i v',b1,bp++(b'++bq),rfl,by simp,?_,g4 hle (fun q hq=>hh q (by simp at hq ⊢; rcases hq with h | h <;> simp [h])) he⟩
   obtain ⟨cs,ws,rfl,hv,hc⟩:=h1
   exact ⟨cs,ws,rfl,hv,hc.mono hle (fun q hq=>hh q (by simp [hq]))⟩
theorem flat_set {k i:Nat} {vs:List Value} (h:∀ v ∈ vs,v.cells.size=k) (hi:i<vs.length) {v':Value} (hv:v'.cells.size=k):flat (vs.set i v')=(flat vs).take (i * k)++v'.cells.toList++(flat vs).drop (i * k+k):=by
 have e1:vs.set i v'=vs.take i++v' :: vs.drop (i+1):=by rw [List.set_eq_take_append_cons_drop,if_pos hi]
 obtain ⟨f1,f2⟩:=flat_split h (i:=i) (u:=vs[i]) (by simp [hi])
 have hu:vs[i].cells.toList.length=k:=by simpa using h _ (List.getElem_mem hi)
 rw [e1,flat_append,flat_cons,f1,← f2]
 rw [List.take_left' rfl]
 have:(flat (vs.take i)).length+k=(flat (vs.take i)).length+vs[i].cells.toList.length:=by omega
 have hd:∀ (A B C:List Value),(A++(B++C)).drop (A.length+B.length)=C:=fun A B C=>by
  rw [← List.append_assoc,← List.length_append,List.drop_left' rfl]
 rw [this,hd]
 simp
theorem RepM.nestAt {c:Cx} (hm:RepM c m) {id e0 k:Nat} {os:List (Nat × Nat × Nat)} {xs:List LV} (hid:m id=some (.nest e0 k os xs)) {i:Nat} {x:LV} (hx:xs[i]?=some x) :
  ∃ g cap cur v bs ins,c.B id=some (.arr (.slice (some ⟨g,0,.none⟩) xs.length cap) k xs.length ins)∧c.w.heap[g]?=some (.cells cur e0 (0,0))∧cur.size=cap * k∧xs.length≤cap∧0<k ∧
   v.cells.size=k∧(∀ y ∈ v.cells,y.oneCell'=true)∧(cur.toList.drop (i * k)).take k=v.cells.toList∧ElN c os x v bs∧bs.Nodup∧g ∉ bs∧(∀ b ∈ bs,b ∈ ins) ∧
   ∀ (w':World) (x':LV) (v':Value) (bs':List Nat),w'.os=c.w.os→w'.tape=c.w.tape→w'.output=c.w.output→c.w.drawn≤w'.drawn→c.w.heap.size≤w'.heap.size →
    (∀ b,b<c.w.heap.size→b ≠ g→b ∉ bs→w'.heap[b]?=c.w.heap[b]?) →
    w'.heap[g]?=some (.cells (cur.toList.take (i * k)++v'.cells.toList++cur.toList.drop (i * k+k)).toArray e0 (0,0))→v'.cells.size=k→(∀ y ∈ v'.cells,y.oneCell'=true) →
    (∀ b ∈ bs',b ∈ bs ∨ c.w.heap.size≤b)→bs'.Nodup→(∀ c':Cx,c'.w=w'→c.Le c'→ElN c' os x' v' bs') →
    ∃ c':Cx,c'.w=w'∧RepM c' (m.put id (.nest e0 k os (xs.set i x')))∧Step pr c c':=by
 have he:=hm.ent id
 rw [hid] at he
 simp only [RepE] at he
 obtain ⟨u,vs,ins,hB,hk,hown,hn,hc,hnd,hno⟩:=he
 have hi:i<xs.length:=(List.getElem?_eq_some_iff.1 hx).1
 obtain ⟨v,bp,bs,bq,hv,rfl,hel,hset⟩:=hn.at hx
 have hvm:=List.mem_of_getElem? hv
 have hvl:=hn.length
 rcases hown.2 with ⟨_,h0⟩ | ⟨g,cap,cur,rfl,hg0,hg,hnc,hcm,hcs,htk⟩
 ·omega
 ·have hgn : g ∉ bp ++ (bs ++ bq) := hno g rfl
  have hck:xs.length * k≤cap * k:=Nat.mul_le_mul_right k hnc
  have hik:i * k+k≤xs.length * k:=by
   have:=Nat.mul_le_mul_right k (show i+1≤xs.length by omega)
   rw [Nat.add_mul,Nat.one_mul] at this; exact this
  have hcl:cur.toList.length=cur.size:=by simp
  have hflen:(flat vs).length=xs.length * k:=hown.1
  have hcurv:(cur.toList.drop (i * k)).take k=v.cells.toList:=by
   obtain ⟨f1,f2⟩:=flat_split (fun v hv=>(hc v hv).1) hv
   have hvk:v.cells.toList.length=k:=by simpa using (hc v hvm).1
   have:(cur.toList.drop (i * k)).take k=((flat vs).drop (i * k)).take k:=by
    rw [← htk,List.drop_take,List.take_take]
    congr 1
    omega
   rw [this,f1,← f2,List.drop_left' rfl,← hvk,List.take_left' rfl]
  have hnd':=List.nodup_append.1 hnd
  have hnd2:=List.nodup_append.1 hnd'.2.1
  refine ⟨g,cap,cur,v,bs,_,hB,hg,hcs,hnc,hk,(hc v hvm).1,(hc v hvm).2,hcurv,hel,hnd2.1,fun h=>hgn (by simp [h]),fun b hb=>by simp [hb],?_⟩
  intro w' x' v' bs' a1 a2 a3 a4 a5 hkeep hg' hv'k hv'1 hbs' hbnd hel'
  have hlt:∀ b ∈ bp++(bs++bq),b<c.w.heap.size:=hn.lt
  obtain ⟨c',hw,hb',h2,h3⟩:=hm.upd (pr:=pr) id (.nest e0 k os (xs.set i x')) (.arr (.slice (some ⟨g,0,.none⟩) xs.length cap) k xs.length (bp++(bs'++bq))) w' a1 a2 a3 a4 a5
   (fun b hb hne=>by
    have:=hne _ hB
    refine hkeep b hb (fun hbg=>this (.inl (by rw [hbg]; rfl))) (fun hbb=>this (.inr (by simp [hbb]))))
   (fun b hb=>by
    rcases hb with hb | hb
    ·exact .inl ⟨_,hB,.inl hb⟩
    ·simp only [List.mem_append] at hb
     rcases hb with hb | hb | hb
     ·exact .inl ⟨_,hB,.inr (by simp [hb])⟩
     ·rcases hbs' b hb with h | h
      ·exact .inl ⟨_,hB,.inr (by simp [h])⟩
      ·exact .inr h
     ·exact .inl ⟨_,hB,.inr (by simp [hb])⟩)
   (by rw [hB]; exact ⟨_,_,_,rfl,Nat.le_refl _,fun _=>rfl⟩) (fun _ be0 h0=>by rw [hB] at h0; cases h0; exact ⟨_,_,_,rfl,Nat.le_refl _,fun _=>rfl⟩)
   (fun c' hw hle hble=>by
    simp only [RepE,List.length_set]
    refine ⟨.slice (some ⟨g,0,.none⟩) xs.length cap,vs.set i v',bp++(bs'++bq),rfl,hk,⟨?_,.inr ⟨g,cap,_,rfl,hg0,by rw [hw]; exact hg',hnc,hcm,?_,?_⟩⟩,hset hle (fun q hq=>?_) (hel' c' hw hle),?_,?_,?_⟩
    ·rw [flat_length (k:=k) (fun y hy=>?_)]
     ·simp [hvl]
     ·rcases List.mem_or_eq_of_mem_set hy with h | h
      ·exact (hc y h).1
      ·rw [h]; exact hv'k
    ·have:v'.cells.toList.length=k:=by simpa using hv'k
     simp only [List.size_toArray,List.length_append,List.length_take,List.length_drop,hcl,this,hcs]
     omega
    ·rw [flat_set (fun y hy=>(hc y hy).1) (by omega) hv'k,← htk]
     have e2:v'.cells.toList.length=k:=by simpa using hv'k
     apply List.ext_getElem?
     intro j
     simp only [List.toList_toArray,List.getElem?_take,List.getElem?_append,List.length_append,List.length_take,List.getElem?_drop,e2,hcl]
     repeat' split
     all_goals first | rfl | omega | (congr 1; omega) | skip
    ·refine (hw ▸ hkeep q (hlt q (by simp at hq ⊢; rcases hq with h | h <;> simp [h])) (fun hqg=>hgn (by rw [← hqg]; simp at hq ⊢; rcases hq with h | h <;> simp [h])) (fun hqb=>?_))
     rcases List.mem_append.1 hq with h | h
     ·exact hnd'.2.2 q h q (by simp [hqb]) rfl
     ·exact hnd2.2.2 q hqb q h rfl
    ·intro y hy
     rcases List.mem_or_eq_of_mem_set hy with h | h
     ·exact hc y h
     ·rw [h]; exact ⟨hv'k,hv'1⟩
    ·refine List.nodup_append.2 ⟨hnd'.1,List.nodup_append.2 ⟨hbnd,hnd2.2.1,fun a ha b hb hab=>?_⟩,fun a ha b hb hab=>?_⟩
     ·subst hab
      rcases hbs' a ha with h | h
      ·exact hnd2.2.2 a h a hb rfl
      ·have:=hlt a (by simp [hb]); omega
     ·subst hab
      rcases List.mem_append.1 hb with h | h
      ·rcases hbs' a h with h' | h'
       ·exact hnd'.2.2 a ha a (by simp [h']) rfl
       ·have:=hlt a (by simp [ha]); omega
      ·exact hnd'.2.2 a ha a (by simp [h]) rfl
    ·intro b hb
     have hbg:g=b:=by simpa [Value.ownBlock] using hb
     subst hbg
     intro hc'
     simp only [List.mem_append] at hc'
     rcases hc' with h | h | h
     ·exact hgn (by simp [h])
     ·rcases hbs' g h with h' | h'
      ·exact hgn (by simp [h'])
      ·have:=(Array.getElem?_eq_some_iff.1 hg).1; omega
     ·exact hgn (by simp [h]))
  exact ⟨c',hw,h2,h3⟩
def zN (os:List (Nat × Nat × Nat)):Nat→List LV→List LV
 | _,[]=>[]
 | o,x :: xs=>(match os.lookup o with | some (_,k)=>.lst k [] | .none=>x) :: zN os (o+1) xs
def nOk (os:List (Nat × Nat × Nat)):Nat→List LV→Bool
 | _,[]=>true
 | o,x :: xs=>(match os.lookup o with | some (_,k)=>(match x with | .nil=>Nat.ble 1 k | _=>false) | .none=>x.pure) && nOk os (o+1) xs
theorem RepC.ofNil {c:Cx} {os:List (Nat × Nat × Nat)}:∀ {o:Nat} {cs:List LV} {ws:List Value},RepL c cs ws→nOk os o cs=true→RepC c os o (zN os o cs) ws []
 | _,[],ws,h,_=>by simp only [RepL] at h; simp only [zN,RepC]; exact ⟨h,trivial⟩
 | o,x :: xs,ws,h,hn=>by
  simp only [RepL] at h
  obtain ⟨w,ws',rfl,h1,h2⟩:=h
  simp only [nOk,Bool.and_eq_true] at hn
  simp only [zN,RepC]
  refine ⟨w,ws',[],[],rfl,rfl,?_,RepC.ofNil h2 hn.2⟩
  unfold CellN
  cases hl:os.lookup o with
  | none=>rw [hl] at hn; exact ⟨h1,hn.1,rfl⟩
  | some p =>
   obtain ⟨e,k⟩:=p
   rw [hl] at hn
   have hx:x=.nil∧0<k:=by
    have:=hn.1
    cases x <;> simp at this
    exact ⟨rfl,this⟩
   obtain ⟨rfl,hk⟩:=hx
   simp only [RepV] at h1
   subst h1
   exact .inr ⟨[],[],rfl,hk,World.ownsRow_nil c.w 0 e k,by simp [RepL],by simp,rfl,by simp [Value.ownBlock]⟩
theorem nest_now {c:Cx} {m:Mem} (hm:RepM c m) {id n e0 k:Nat} {os:List (Nat × Nat × Nat)} {xs:List LV} {v:Value} (hv:RepV c (.arr id n) v) (hid:m id=some (.nest e0 k os xs)) (hn:n=xs.length) :
  ∃ vs ins,c.B id=some (.arr v k xs.length ins)∧0<k∧c.w.ownsRow 0 e0 k v xs.length (flat vs)∧RepN c os xs vs ins∧(∀ v ∈ vs,v.cells.size=k∧∀ y ∈ v.cells,y.oneCell'=true):=by
 have he:=hm.ent id
 rw [hid] at he
 simp only [RepE] at he
 obtain ⟨u,vs,ins,hB,hk,hown,hl,hc,_⟩:=he
 simp only [RepV] at hv
 obtain ⟨_,u',k',len,ins',hB',hle',hv⟩:=hv
 rw [hB] at hB'
 cases hB'
 have:=hv hn
 subst this
 exact ⟨vs,ins,hB,hk,hown,hl,hc⟩
theorem ok_ixN {d:Option Nat} {x y:Operand} {t ty:TypeId} {pos:String} {af:Array Edge} {g:Option (Nat × Bool)} {el kk id n:Nat} {os:List (Nat × Nat × Nat)} {xs:List LV} {k:IntKind} {u:Int} (he:telem P t=some el) (hk:tok P el=true) (hs:tsize P el=kk) (hx:ev x=.arr id n) (hm:m id=some (.nest el kk os xs)) (hn:n=xs.length) (hy:ev y=.int k u) (h0:0≤u) (h1:u.toNat<xs.length) :
  OpOkR P pr ⟨d,.indexAddr t x y,ty,pos,af,g⟩ ev m (.eptr id n u.toNat 0) m:=by
 have hu:=elem_of he
 refine OpOkR.value fun c a hev hM=>?_
 have hvi:=hev y (by simp [Op.operands])
 rw [hy] at hvi
 simp only [RepV] at hvi
 have hv:=hev x (by simp [Op.operands])
 rw [hx] at hv
 obtain ⟨vs,ins,hB,hk0,hown,hl,hc⟩:=nest_now hM hv hm hn
 subst hn
 rcases hown.2 with ⟨_,h00⟩ | ⟨g,cap,cur,hvv,_⟩
 ·omega
 ·refine ⟨.pointer (some ⟨g,u.toNat * kk,.none⟩),c,?_,?_,hM,Step.refl pr c⟩
  ·unfold tok at hk
   cases hie:P.info? el with
   | none=>simp [hie] at hk
   | some ie =>
    have hks:kk=ie.size:=by rw [← hs]; simp [tsize,hie]
    have hlt':u<(xs.length:Int):=by omega
    simp [execOp,hvv,hvi,Instr.indexAt,asIntOf,run_underlying hu,h0,hlt',sizeOf,typeInfo,hie,Addr.add_mid,hks]
  ·simp only [RepV]
   exact ⟨rfl,_,kk,xs.length,_,hB,by omega,fun _=>⟨g,by rw [hvv]; rfl,by simp⟩⟩
theorem RepN.repl {c:Cx} {os:List (Nat × Nat × Nat)} {x:LV} {v:Value} (h:ElN c os x v []):∀ n,RepN c os (List.replicate n x) (List.replicate n v) []
 | 0=>by simp [RepN]
 | n+1=>by
  simp only [List.replicate_succ,RepN]
  exact ⟨v,List.replicate n v,[],[],rfl,rfl,h,RepN.repl h n⟩
end
theorem OwnC.frz {c c':Cx} (hle:c.Le c') (hw:c'.w=c.w) {e k:Nat} {x:LV} {v:Value} {bs:List Nat} (hX:∀ b ∈ bs,¬ c'.X b) (h:OwnC c e k x v bs):RepV c' x v:=by
 rcases h with ⟨rfl,_⟩ | ⟨ys,us,rfl,hk,hown,hl,hc,hp,rfl⟩
 ·simp only [RepV]
 ·simp only [RepV]
  have hl':=RepL.mono hle ys us (fun j hj=>by rw [norefL_of_pureL ys hp] at hj; cases hj) hl
  rcases hown.2 with ⟨rfl,h0⟩ | ⟨g,cap,cur,rfl,_,hg,hnc,_⟩
  ·exact ⟨.none,0,by rw [h0],by omega,fun _=>rfl,hp,.inl (List.eq_nil_of_length_eq_zero h0)⟩
  ·refine ⟨some ⟨g,0,.none⟩,cap,rfl,hnc,by simp,hp,.inr ⟨g,0,us,rfl,by rw [hw]; exact (Array.getElem?_eq_some_iff.1 hg).1,hX g (by simp [Value.ownBlock]),hl',hc,?_⟩⟩
   rw [hw]; exact rangeAt_own hown rfl
theorem RepC.frz {c c':Cx} (hle:c.Le c') (hw:c'.w=c.w) {os:List (Nat × Nat × Nat)}:∀ {o:Nat} {xs:List LV} {ws:List Value} {bs:List Nat},(∀ b ∈ bs,¬ c'.X b)→RepC c os o xs ws bs→RepL c' xs ws
 | _,[],_,_,_,h=>by simp only [RepC] at h; simp only [RepL]; exact h.1
 | o,x :: xs,ws,bs,hX,h=>by
  simp only [RepC] at h
  obtain ⟨w,ws',b1,b2,rfl,rfl,h1,h2⟩:=h
  simp only [RepL]
  refine ⟨w,ws',rfl,?_,RepC.frz hle hw (fun b hb=>hX b (by simp [hb])) h2⟩
  unfold CellN at h1
  split at h1
  ·exact OwnC.frz hle hw (fun b hb=>hX b (by simp [hb])) h1
  ·exact RepV.mono hle x w (fun id hid=>by rw [noref_of_pure x h1.2.1] at hid; cases hid) h1.1
theorem RepN.frz {c c':Cx} (hle:c.Le c') (hw:c'.w=c.w) {os:List (Nat × Nat × Nat)}:∀ {xs:List LV} {vs:List Value} {bs:List Nat},(∀ b ∈ bs,¬ c'.X b)→RepN c os xs vs bs→RepL c' xs vs
 | [],_,_,_,h=>by simp only [RepN] at h; simp only [RepL]; exact h.1
 | x :: xs,vs,bs,hX,h=>by
  simp only [RepN] at h
  obtain ⟨v,vs',b1,b2,rfl,rfl,⟨cs,ws,rfl,rfl,h1⟩,h2⟩:=h
  simp only [RepL]
  refine ⟨_,vs',rfl,?_,RepN.frz hle hw (fun b hb=>hX b (by simp [hb])) h2⟩
  simp only [RepV]
  exact ⟨ws,rfl,h1.frz hle hw (fun b hb=>hX b (by simp [hb]))⟩
theorem mX {P:Program} {pr:Nat→Prop} {ro:List Nat} {ops:Array Oper} {l:List Oper} {mds:List Nat} {KE:Env→Mem→Prop} {e:Env} {m m':Mem} {lv:LV} {i:Nat} {op:Op} {ty:TypeId} {pos:String} {af:Array Edge} (h:OpOkR P pr ⟨some i,op,ty,pos,af,.none⟩ (lev e) m lv m') (hr:LOpsM P pr ro ops (List.zip l mds) KE (e.put i lv) m'):LOpsM P pr ro ops (List.zip (⟨some i,op,ty,pos,af,.none⟩ :: l) (3 :: mds)) KE e m:=⟨lv,m',h,hr⟩
theorem mX_ {P:Program} {pr:Nat→Prop} {ro:List Nat} {ops:Array Oper} {l:List Oper} {mds:List Nat} {KE:Env→Mem→Prop} {e:Env} {m m':Mem} {lv:LV} {op:Op} {ty:TypeId} {pos:String} {af:Array Edge} (h:OpOkR P pr ⟨.none,op,ty,pos,af,.none⟩ (lev e) m lv m') (hr:LOpsM P pr ro ops (List.zip l mds) KE e m'):LOpsM P pr ro ops (List.zip (⟨.none,op,ty,pos,af,.none⟩ :: l) (3 :: mds)) KE e m:=⟨lv,m',h,hr⟩
end Go.L
set_option linter.unusedVariables false
set_option linter.unusedSimpArgs false
namespace Go.L
section
variable {P:Program} {N:Nat} {pr:Nat→Prop} {ops:Array Oper} {ev:Operand→LV} {o:Oper} {lv:LV} {m m':Mem}
theorem RepM.upd2 {c:Cx} (h:RepM c m) (id id2:Nat) (hne:id ≠ id2) (le le2:LE) (be be2:BE) (w':World)
  (hos:w'.os=c.w.os) (htape:w'.tape=c.w.tape) (hout:w'.output=c.w.output) (hdr:c.w.drawn≤w'.drawn) (hsize:c.w.heap.size≤w'.heap.size)
  (hkeep:∀ b,b<c.w.heap.size→(∀ be0,c.B id=some be0→¬ be0.has b)→(∀ be0,c.B id2=some be0→¬ be0.has b)→w'.heap[b]?=c.w.heap[b]?)
  (hblk:∀ b,be.has b ∨ be2.has b→(∃ be0,c.B id=some be0∧be0.has b) ∨ (∃ be0,c.B id2=some be0∧be0.has b) ∨ c.w.heap.size≤b) (hdis:∀ b,be.has b→be2.has b→False)
  (hle:BLe (c.B id) (some be)) (hle2:BLe (c.B id2) (some be2)) (hpr:pr id→∀ be0,c.B id=some be0→be0.Same be) (hpr2:pr id2→∀ be0,c.B id2=some be0→be0.Same be2)
  (hent:∀ c':Cx,c'.w=w'→c.Le c'→(∀ i,BLe (c.B i) (c'.B i))→c'.B id2=some be2→RepE c' (some le) (some be)) (hent2:∀ c':Cx,c'.w=w'→c.Le c'→(∀ i,BLe (c.B i) (c'.B i))→RepE c' (some le2) (some be2)) :
  ∃ c':Cx,c'.w=w'∧c'.B id=some be∧c'.B id2=some be2∧RepM c' ((m.put id le).put id2 le2)∧Step pr c c':=by
 let c':Cx:=⟨w',fun i=>if i=id2 then some be2 else if i=id then some be else c.B i,c.O⟩
 have e1:c'.B id=some be:=by simp [c',hne]
 have e2:c'.B id2=some be2:=by simp [c']
 have e3:∀ i,i ≠ id→i ≠ id2→c'.B i=c.B i:=fun i h1 h2=>by simp [c',h1,h2]
 have key:∀ i b1 b,c'.B i=some b1→b1.has b→(∃ j be0,c.B j=some be0∧be0.has b∧(j=i ∨ (i=id ∨ i=id2)∧(j=id ∨ j=id2))) ∨ c.w.heap.size≤b:=by
  intro i b1 b g1 g2
  by_cases hi:i=id
  ·subst hi; rw [e1] at g1; cases g1
   rcases hblk b (.inl g2) with ⟨be0,q1,q2⟩ | ⟨be0,q1,q2⟩ | q
   ·exact .inl ⟨i,be0,q1,q2,.inl rfl⟩
   ·exact .inl ⟨id2,be0,q1,q2,.inr ⟨.inl rfl,.inr rfl⟩⟩
   ·exact .inr q
  ·by_cases hi2:i=id2
   ·subst hi2; rw [e2] at g1; cases g1
    rcases hblk b (.inr g2) with ⟨be0,q1,q2⟩ | ⟨be0,q1,q2⟩ | q
    ·exact .inl ⟨id,be0,q1,q2,.inr ⟨.inr rfl,.inl rfl⟩⟩
    ·exact .inl ⟨i,be0,q1,q2,.inl rfl⟩
    ·exact .inr q
   ·rw [e3 i hi hi2] at g1; exact .inl ⟨i,b1,g1,g2,.inl rfl⟩
 have hown:∀ b,c'.own b→c.own b ∨ c.w.heap.size≤b:=by
  rintro b ⟨i,be',h1,h2⟩
  rcases key i be' b h1 h2 with ⟨j,be0,q1,q2,_⟩ | q
  ·exact .inl ⟨j,be0,q1,q2⟩
  ·exact .inr q
 have hgrow:Grow pr c c':=by
  refine ⟨rfl,hos,htape,hout,hdr,hsize,fun b hb ho=>hkeep b hb (fun be0 h0 h1=>ho ⟨id,be0,h0,h1⟩) (fun be0 h0 h1=>ho ⟨id2,be0,h0,h1⟩),hown,fun i be' hp hb=>?_⟩
  by_cases hi:i=id
  ·subst hi; exact ⟨be,e1,hpr hp be' hb⟩
  ·by_cases hi2:i=id2
   ·subst hi2; exact ⟨be2,e2,hpr2 hp be' hb⟩
   ·exact ⟨be',by rw [e3 i hi hi2]; exact hb,.refl be'⟩
 have hble:∀ i,BLe (c.B i) (c'.B i):=by
  intro i
  by_cases hi:i=id
  ·subst hi; rw [e1]; exact hle
  ·by_cases hi2:i=id2
   ·subst hi2; rw [e2]; exact hle2
   ·rw [e3 i hi hi2]; exact BLe.refl _
 refine ⟨c',rfl,e1,e2,⟨fun i=>?_,?_,?_,?_⟩,hgrow,hble⟩
 ·by_cases hi2:i=id2
  ·subst hi2; rw [e2]; simp only [Mem.put,if_true]; exact hent2 c' rfl hgrow.le hble
  ·by_cases hi:i=id
   ·subst hi; rw [e1]; simp only [Mem.put,hi2,if_false,if_true]; exact hent c' rfl hgrow.le hble e2
   ·rw [e3 i hi hi2]
    simp only [Mem.put,hi,hi2,if_false]
    refine (h.ent i).mono hgrow.le hble fun be' b hb hbb=>?_
    refine hkeep b ((h.ent i).lt hb hbb) (fun be0 h0 h1=>?_) (fun be0 h0 h1=>?_)
    ·exact hi (h.inj i id be' be0 b hb h0 hbb h1)
    ·exact hi2 (h.inj i id2 be' be0 b hb h0 hbb h1)
 ·intro i i' b1 b2 b h1 h2 h3 h4
  rcases key i b1 b h1 h3 with ⟨j,be0,q1,q2,q3⟩ | q
  ·rcases key i' b2 b h2 h4 with ⟨j',be0',q1',q2',q3'⟩ | q'
   ·have hj := h.inj j j' be0 be0' b q1 q1' q2 q2'
    subst hj
    by_cases hi:i=id
    ·by_cases hi':i'=id
     ·rw [hi,hi']
     ·by_cases hi2:i'=id2
      ·rw [hi,e1] at h1; rw [hi2,e2] at h2; cases h1; cases h2; exact (hdis b h3 h4).elim
      ·rcases q3' with q3' | ⟨q,_⟩
       ·subst q3'
        rcases q3 with q3 | ⟨_,q3⟩
        ·exact q3.symm
        ·rcases q3 with q3 | q3
         ·exact absurd q3 hi'
         ·exact absurd q3 hi2
       ·rcases q with q | q
        ·exact absurd q hi'
        ·exact absurd q hi2
    ·by_cases hi2:i=id2
     ·by_cases hi':i'=id
      ·rw [hi2,e2] at h1; rw [hi',e1] at h2; cases h1; cases h2; exact (hdis b h4 h3).elim
      ·by_cases hi2':i'=id2
       ·rw [hi2,hi2']
       ·rcases q3' with q3' | ⟨q,_⟩
        ·subst q3'
         rcases q3 with q3 | ⟨_,q3⟩
         ·exact q3.symm
         ·rcases q3 with q3 | q3
          ·exact absurd q3 hi'
          ·exact absurd q3 hi2'
        ·rcases q with q | q
         ·exact absurd q hi'
         ·exact absurd q hi2'
     ·rcases q3 with q3 | ⟨q,_⟩
      ·subst q3
       rcases q3' with q3' | ⟨_,q3'⟩
       ·exact q3'
       ·rcases q3' with q3' | q3'
        ·exact absurd q3' hi
        ·exact absurd q3' hi2
      ·rcases q with q | q
       ·exact absurd q hi
       ·exact absurd q hi2
   ·have:=(h.ent j).lt q1 q2; omega
  ·rcases key i' b2 b h2 h4 with ⟨j',be0',q1',q2',q3'⟩ | q'
   ·have:=(h.ent j').lt q1' q2'; omega
   ·by_cases hi:i=id
    ·by_cases hi':i'=id
     ·rw [hi,hi']
     ·by_cases hi2:i'=id2
      ·rw [hi,e1] at h1; rw [hi2,e2] at h2; cases h1; cases h2; exact (hdis b h3 h4).elim
      ·rw [e3 i' hi' hi2] at h2; have:=(h.ent i').lt h2 h4; omega
    ·by_cases hi2:i=id2
     ·by_cases hi':i'=id
      ·rw [hi2,e2] at h1; rw [hi',e1] at h2; cases h1; cases h2; exact (hdis b h4 h3).elim
      ·by_cases hi2':i'=id2
       ·rw [hi2,hi2']
       ·rw [e3 i' hi' hi2'] at h2; have:=(h.ent i').lt h2 h4; omega
     ·rw [e3 i hi hi2] at h1; have:=(h.ent i).lt h1 h3; omega
 ·intro b ho hO
  rcases hown b ho with ho | hs
  ·exact h.notO b ho hO
  ·have:=h.Olt b hO; omega
 ·intro b hO; exact Nat.lt_of_lt_of_le (h.Olt b hO) hsize
theorem RepC.at {c:Cx} {os:List (Nat × Nat × Nat)}:∀ {q:Nat} {xs:List LV} {ws:List Value} {bs:List Nat},RepC c os q xs ws bs→∀ {j:Nat} {x:LV},xs[j]?=some x →
  ∃ w bp b bq,ws[j]?=some w∧bs=bp++(b++bq)∧CellN c os (q+j) x w b∧∀ {c':Cx} {x':LV} {w':Value} {b':List Nat},c.Le c'→(∀ r ∈ bp++bq,c'.w.heap[r]?=c.w.heap[r]?)→CellN c' os (q+j) x' w' b'→RepC c' os q (xs.set j x') (ws.set j w') (bp++(b'++bq))
 | _,[],_,_,h,j,x,hx=>by simp at hx
 | q,y :: ys,ws,bs,h,j,x,hx=>by
  simp only [RepC] at h
  obtain ⟨w,ws',b1,b2,rfl,rfl,h1,h2⟩:=h
  cases j with
  | zero =>
   simp at hx; subst hx
   refine ⟨w,[],b1,b2,by simp,by simp,h1,fun {c' x' w' b'} hle hh he=>?_⟩
   simp only [List.set_cons_zero,RepC,List.nil_append]
   exact ⟨w',ws',b',b2,rfl,rfl,he,h2.mono hle (fun r hr=>hh r (by simp [hr]))⟩
  | succ j =>
   simp at hx
   obtain ⟨u,bp,b,bq,g1,rfl,g3,g4⟩:=RepC.at h2 hx
   have hq:q+1+j=q+(j+1):=by omega
   rw [hq] at g3
   refine ⟨u,b1++bp,b,bq,by simpa using g1,by simp,g3,fun {c' x' w' b'} hle hh he=>?_⟩
   simp only [List.set_cons_succ,RepC]
   refine ⟨w,ws'.set j w',b1,bp++(b'++bq),rfl,by simp,h1.mono hle (fun r hr=>hh r (by simp [hr])),g4 hle (fun r hr=>hh r (by simp at hr ⊢; rcases hr with h | h <;> simp [h])) (by rw [hq]; exact he)⟩
theorem nest_cell {w:World} {g i k o0 e0:Nat} {cur:Array Value} {ws:List Value} {x:Value} (hg:w.heap[g]?=some (.cells cur e0 (0,0))) (hcv:(cur.toList.drop (i * k)).take k=ws) (hw:ws[o0]?=some x):w.cell? ⟨g,i * k+o0,.none⟩=some x:=by
 rw [← hcv,List.getElem?_take] at hw
 split at hw
 ·rw [List.getElem?_drop] at hw
  simp [World.cell?,hg]
  simpa using hw
 ·cases hw
theorem set_mid_row {cur ws:List Value} {ik k o0:Nat} {w':Value} (hcv:(cur.drop ik).take k=ws) (hk:ik+k≤cur.length) (ho:o0<k):cur.take (ik+o0)++[w']++cur.drop (ik+o0+1)=cur.take ik++ws.set o0 w'++cur.drop (ik+k):=by
 have hwl:ws.length=k:=by rw [← hcv]; simp; omega
 have e1:cur.take (ik+o0)++[w']++cur.drop (ik+o0+1)=cur.set (ik+o0) w':=by
  rw [List.set_eq_take_append_cons_drop,if_pos (by omega)]; simp
 have e2:cur=cur.take ik++(ws++cur.drop (ik+k)):=by
  rw [← hcv]
  have:cur.drop (ik+k)=(cur.drop ik).drop k:=by rw [List.drop_drop]
  rw [this,List.take_append_drop,List.take_append_drop]
 have hl:(cur.take ik).length=ik:=by simp; omega
 rw [e1]
 conv=>lhs; rw [e2]
 rw [List.set_append_right _ _ (by omega),hl,show ik+o0 - ik=o0 by omega,List.set_append_left _ _ (by omega)]
 simp
theorem eptr_now {c:Cx} {id n i o0 g cap k len:Nat} {ins:List Nat} {v:Value} (hv:RepV c (.eptr id n i o0) v) (hB:c.B id=some (.arr (.slice (some ⟨g,0,.none⟩) len cap) k len ins)) (hn:n=len):v=.pointer (some ⟨g,i * k+o0,.none⟩):=by
 simp only [RepV] at hv
 obtain ⟨_,u',k',len',ins',hB',hle',hv⟩:=hv
 rw [hB] at hB'
 cases hB'
 obtain ⟨b,hb,he⟩:=hv hn
 have:g=b:=by simpa [Value.ownBlock] using hb
 rw [this]; exact he
section
variable {d:Option Nat} {d1:Nat} {x y:Operand} {t ty:TypeId} {pos:String} {af:Array Edge} {gd:Option (Nat × Bool)} {e0 k id n i o0:Nat} {os:List (Nat × Nat × Nat)} {xs cs:List LV} {z:LV}
theorem nest_load {c:Cx} (hM:RepM c m) (hm:m id=some (.nest e0 k os xs)) (hn:n=xs.length) (hz:xs[i]?=some (.agg cs)) (hc:cs[o0]?=some z) {v:Value} (hv:RepV c (.eptr id n i o0) v) (ht:tok P t=true) (ha:tagg P t=false) :
  ∃ w b,CellN c os o0 z w b∧(Instr.loadAt t v).run P c.w=.ok w c.w:=by
 obtain ⟨g,cap,cur,v0,bs,ins,hB,hg,hcs,hnc,hk,hvk,hv1,hcv,hel,_⟩:=hM.nestAt (pr:=fun _=>False) hm hz
 have he:=eptr_now hv hB hn
 obtain ⟨cs',ws,h1,rfl,hC⟩:=hel
 cases h1
 obtain ⟨w,bp,b,bq,g1,_,g3,_⟩:=hC.at hc
 have hcv':(cur.toList.drop (i * k)).take k=ws:=by simpa [Value.cells] using hcv
 have hcell:=nest_cell hg hcv' g1
 rw [Nat.zero_add] at g3
 refine ⟨w,b,g3,?_⟩
 rw [he]
 exact (run_load_cells (cs:=[.und]) (vs:=[w]) (c:=c) ht (by simp [RepL,RepV]) (fun j v hj=>by
  cases j with
  | zero=>simp at hj; subst hj; simpa using hcell
  | succ j=>simp at hj)).2 ha w [] rfl
theorem ok_lnN {e' k':Nat} {ys:List LV} (hx:ev x=.eptr id n i o0) (hm:m id=some (.nest e0 k os xs)) (hn:n=xs.length) (hz:xs[i]?=some (.agg cs)) (hc:cs[o0]?=some (.lst k' ys)) (hl:os.lookup o0=some (e',k')) (ht:tok P t=true) (ha:tagg P t=false):OpOkR P pr ⟨d,.load t x,ty,pos,af,gd⟩ ev m (.slen ys.length) m:=by
 refine OpOkR.value fun c a hev hM=>?_
 have hv:=hev x (by simp [Op.operands])
 rw [hx] at hv
 obtain ⟨w,b,h1,h2⟩:=nest_load hM hm hn hz hc hv ht ha
 unfold CellN at h1
 rw [hl] at h1
 refine ⟨w,c,by simp [execOp,h2],?_,hM,Step.refl pr c⟩
 rcases h1 with ⟨h,_⟩ | ⟨ys',us,h,_,hown,_⟩
 ·cases h
 ·cases h
  obtain ⟨ad,cp,he⟩:=ownsRow_len hown
  simp only [RepV]; exact ⟨ad,cp,he⟩
theorem ok_lenS {el nn:Nat} (he:telem P t=some el) (hx:ev x=.slen nn):OpOkR P pr ⟨d,.call ⟨.builtin .len,#[x],#[t]⟩,ty,pos,af,gd⟩ ev m (.int .i64 nn) m:=by
 have hu:=elem_of he
 refine OpOkR.value fun c a hev hM=>?_
 have hv:=hev x (by simp [Op.operands,Call.operands])
 rw [hx] at hv
 simp only [RepV] at hv
 obtain ⟨ad,cp,hv⟩:=hv
 exact ⟨.int .i64 nn,c,by simp [execOp,resolve,invoke,builtin,Builtin.len_,hv,run_underlying hu,goInt],by simp [RepV],hM,Step.refl pr c⟩
end
end
end Go.L
set_option linter.unusedVariables false
set_option linter.unusedSimpArgs false
namespace Go.L
theorem nest_rep {c:Cx} {e0 k:Nat} {os:List (Nat × Nat × Nat)} {xs:List LV} {y:Option BE} (he:RepE c (some (.nest e0 k os xs)) y) {i:Nat} {x:LV} (hx:xs[i]?=some x) :
  ∃ g cap cur v bp bs bq,y=some (.arr (.slice (some ⟨g,0,.none⟩) xs.length cap) k xs.length (bp++(bs++bq)))∧c.w.heap[g]?=some (.cells cur e0 (0,0))∧cur.size=cap * k∧xs.length≤cap∧0<k ∧
   v.cells.size=k∧(∀ y ∈ v.cells,y.oneCell'=true)∧(cur.toList.drop (i * k)).take k=v.cells.toList∧ElN c os x v bs∧(bp++(bs++bq)).Nodup∧g ∉ bp++(bs++bq) ∧
   ∀ (c':Cx) (x':LV) (v':Value) (bs':List Nat),c.Le c'→c'.w.heap[g]?=some (.cells (cur.toList.take (i * k)++v'.cells.toList++cur.toList.drop (i * k+k)).toArray e0 (0,0))→(∀ q ∈ bp++bq,c'.w.heap[q]?=c.w.heap[q]?) →
    v'.cells.size=k→(∀ y ∈ v'.cells,y.oneCell'=true)→ElN c' os x' v' bs'→(bp++(bs'++bq)).Nodup→g ∉ bs'→RepE c' (some (.nest e0 k os (xs.set i x'))) (some (.arr (.slice (some ⟨g,0,.none⟩) xs.length cap) k xs.length (bp++(bs'++bq)))):=by
 simp only [RepE] at he
 obtain ⟨u,vs,ins,rfl,hk,hown,hn,hc,hnd,hno⟩:=he
 have hi:i<xs.length:=(List.getElem?_eq_some_iff.1 hx).1
 obtain ⟨v,bp,bs,bq,hv,rfl,hel,hset⟩:=hn.at hx
 have hvm:=List.mem_of_getElem? hv
 have hvl:=hn.length
 rcases hown.2 with ⟨_,h0⟩ | ⟨g,cap,cur,rfl,hg0,hg,hnc,hcm,hcs,htk⟩
 ·omega
 ·have hgn:g ∉ bp++(bs++bq):=hno g rfl
  have hck:xs.length * k≤cap * k:=Nat.mul_le_mul_right k hnc
  have hik:i * k+k≤xs.length * k:=by
   have:=Nat.mul_le_mul_right k (show i+1≤xs.length by omega)
   rw [Nat.add_mul,Nat.one_mul] at this; exact this
  have hcl:cur.toList.length=cur.size:=by simp
  have hcurv:(cur.toList.drop (i * k)).take k=v.cells.toList:=by
   obtain ⟨f1,f2⟩:=flat_split (fun v hv=>(hc v hv).1) hv
   have hvk:v.cells.toList.length=k:=by simpa using (hc v hvm).1
   have:(cur.toList.drop (i * k)).take k=((flat vs).drop (i * k)).take k:=by
    rw [← htk,List.drop_take,List.take_take]
    congr 1
    omega
   rw [this,f1,← f2,List.drop_left' rfl,← hvk,List.take_left' rfl]
  refine ⟨g,cap,cur,v,bp,bs,bq,rfl,hg,hcs,hnc,hk,(hc v hvm).1,(hc v hvm).2,hcurv,hel,hnd,hgn,?_⟩
  intro c' x' v' bs' hle hg' hkeep hv'k hv'1 hel' hnd' hgb
  simp only [RepE,List.length_set]
  refine ⟨.slice (some ⟨g,0,.none⟩) xs.length cap,vs.set i v',bp++(bs'++bq),rfl,hk,⟨?_,.inr ⟨g,cap,_,rfl,hg0,hg',hnc,hcm,?_,?_⟩⟩,hset hle hkeep hel',?_,hnd',?_⟩
  ·rw [flat_length (k:=k) (fun y hy=>?_)]
   ·simp [hvl]
   ·rcases List.mem_or_eq_of_mem_set hy with h | h
    ·exact (hc y h).1
    ·rw [h]; exact hv'k
  ·have:v'.cells.toList.length=k:=by simpa using hv'k
   simp only [List.size_toArray,List.length_append,List.length_take,List.length_drop,hcl,this,hcs]
   omega
  ·rw [flat_set (fun y hy=>(hc y hy).1) (by omega) hv'k,← htk]
   have e2:v'.cells.toList.length=k:=by simpa using hv'k
   apply List.ext_getElem?
   intro j
   simp only [List.toList_toArray,List.getElem?_take,List.getElem?_append,List.length_append,List.length_take,List.getElem?_drop,e2,hcl]
   repeat' split
   all_goals first | rfl | omega | (congr 1; omega) | skip
  ·intro y hy
   rcases List.mem_or_eq_of_mem_set hy with h | h
   ·exact hc y h
   ·rw [h]; exact ⟨hv'k,hv'1⟩
  ·intro b hb
   have hbg:g=b:=by simpa [Value.ownBlock] using hb
   subst hbg
   intro hc'
   simp only [List.mem_append] at hc' hgn
   rcases hc' with h | h | h
   ·exact hgn (.inl h)
   ·exact hgb h
   ·exact hgn (.inr (.inr h))
section
variable {P:Program} {N:Nat} {pr:Nat→Prop} {ev:Operand→LV} {m:Mem} {d:Option Nat} {x y:Operand} {t ty:TypeId} {pos:String} {af:Array Edge} {gd:Option (Nat × Bool)} {e0 k id n i o0 id2 e' k':Nat} {os:List (Nat × Nat × Nat)} {xs cs ys:List LV}
theorem ok_takeN (hx:ev x=.eptr id n i o0) (hm:m id=some (.nest e0 k os xs)) (hn:n=xs.length) (hz:xs[i]?=some (.agg cs)) (hc:cs[o0]?=some (.lst k' ys)) (hl:os.lookup o0=some (e',k')) (hid:m id2=.none) (ht:tok P t=true) (ha:tagg P t=false) :
  OpOkR P pr ⟨d,.load t x,ty,pos,af,gd⟩ ev m (.arr id2 ys.length) ((m.put id (.nest e0 k os (xs.set i (.agg (cs.set o0 .und))))).put id2 (.arr e' k' ys)):=by
 have hne:id ≠ id2:=fun h=>by rw [h,hid] at hm; cases hm
 refine OpOkR.value fun c a hev hM=>?_
 have hv:=hev x (by simp [Op.operands])
 rw [hx] at hv
 have hent:=hM.ent id
 rw [hm] at hent
 obtain ⟨g,cap,cur,v,bp,bs,bq,hB,hg,hcs,hnc,hk,hvk,hv1,hcv,hel,hnd,hgn,hfin⟩:=nest_rep hent hz
 have he:=eptr_now hv hB hn
 obtain ⟨cs',ws,h1,rfl,hC⟩:=hel
 cases h1
 have hcv':(cur.toList.drop (i * k)).take k=ws:=by simpa [Value.cells] using hcv
 obtain ⟨w,cp,cb,cq,g1,rfl,g3,g4⟩:=hC.at hc
 have hcell:=nest_cell hg hcv' g1
 rw [Nat.zero_add] at g3 g4
 unfold CellN at g3
 rw [hl] at g3
 obtain ⟨us,hk',hown,hrl,huc,hpy,rfl⟩:∃ us,0<k'∧c.w.ownsRow 0 e' k' w ys.length (flat us)∧RepL c ys us∧(∀ u ∈ us,u.cells.size=k'∧∀ y ∈ u.cells,y.oneCell'=true)∧LV.pureL ys=true∧cb=w.ownBlock.toList:=by
  rcases g3 with ⟨h,_⟩ | ⟨ys',us,h,q0,q1,q2,q3,q4,q5⟩
  ·cases h
  ·cases h; exact ⟨us,q0,q1,q2,q3,q4,q5⟩
 have hrun:(Instr.loadAt t (a.eval x)).run P c.w=.ok w c.w:=by
  rw [he]
  exact (run_load_cells (cs:=[.und]) (vs:=[w]) (c:=c) ht (by simp [RepL,RepV]) (fun j v hj=>by
   cases j with
   | zero=>simp at hj; subst hj; simpa using hcell
   | succ j=>simp at hj)).2 ha w [] rfl
 have hB2:=hM.fresh hid
 have hsub:∀ b,b ∈ bp++((cp++([]++cq))++bq)→b ∈ bp++((cp++(w.ownBlock.toList++cq))++bq):=fun b hb=>by
  simp only [List.mem_append,List.nil_append] at hb ⊢
  rcases hb with h | (h | h) | h <;> simp [h]
 have hnd':(bp++((cp++([]++cq))++bq)).Nodup:=by
  refine List.Nodup.sublist ?_ hnd
  refine List.Sublist.append (List.Sublist.refl _) (List.Sublist.append (List.Sublist.append (List.Sublist.refl _) ?_) (List.Sublist.refl _))
  exact List.Sublist.append (List.nil_sublist _) (List.Sublist.refl _)
 have hsame:ws.set o0 w=ws:=by
  obtain ⟨hlt,hw⟩:=List.getElem?_eq_some_iff.1 g1
  rw [← hw]; exact List.set_getElem_self hlt
 obtain ⟨c',hw,eb1,eb2,h2,h3⟩:=hM.upd2 (pr:=pr) id id2 hne (.nest e0 k os (xs.set i (.agg (cs.set o0 .und)))) (.arr e' k' ys) (.arr (.slice (some ⟨g,0,.none⟩) xs.length cap) k xs.length (bp++((cp++([]++cq))++bq))) (.arr w k' ys.length []) c.w rfl rfl rfl (Nat.le_refl _) (Nat.le_refl _)
  (fun b _ _ _=>rfl)
  (fun b hb=>by
   rcases hb with hb | hb
   ·rcases hb with hb | hb
    ·exact .inl ⟨_,hB,.inl hb⟩
    ·exact .inl ⟨_,hB,.inr (hsub b hb)⟩
   ·rcases hb with hb | hb
    ·exact .inl ⟨_,hB,.inr (by simp [hb])⟩
    ·cases hb)
  (fun b hb hb2=>by
   have hbw:w.ownBlock=some b:=by
    rcases hb2 with h | h
    ·exact h
    ·cases h
   rcases hb with hb | hb
   ·have:g=b:=by simpa [Value.ownBlock] using hb
    subst this
    exact hgn (by simp [hbw])
   ·have n1:=List.nodup_append.1 hnd
    have n2:=List.nodup_append.1 n1.2.1
    have n3:=List.nodup_append.1 n2.1
    have n4:=List.nodup_append.1 n3.2.1
    have hin:b ∈ w.ownBlock.toList:=by simp [hbw]
    simp only [List.mem_append,List.nil_append] at hb
    rcases hb with h | (h | h) | h
    ·exact n1.2.2 b h b (by simp [hbw]) rfl
    ·exact n3.2.2 b h b (by simp [hbw]) rfl
    ·exact n4.2.2 b hin b h rfl
    ·exact n2.2.2 b (by simp [hbw]) b h rfl)
  (by rw [hB]; exact ⟨_,_,_,rfl,Nat.le_refl _,fun _=>rfl⟩) (by rw [hB2]; trivial) (fun _ be0 h0=>by rw [hB] at h0; cases h0; exact ⟨_,_,_,rfl,Nat.le_refl _,fun _=>rfl⟩) (fun _ be0 h0=>by rw [hB2] at h0; cases h0)
  (fun c' hw hle hble _=>by
   refine hfin c' _ (.agg ws.toArray) _ hle ?_ (fun q _=>by rw [hw]) hvk hv1 ⟨_,ws,rfl,rfl,?_⟩ hnd' (fun h=>hgn (by
    simp only [List.mem_append,List.nil_append] at h ⊢
    rcases h with h | h <;> simp [h]))
   ·rw [hw,hg]
    congr 2
    apply Array.toList_inj.1
    simp only [List.toList_toArray]
    rw [← hcv,← List.drop_drop,List.append_assoc,List.take_append_drop,List.take_append_drop]
   ·have:=g4 (c':=c') (x':=.und) (w':=w) (b':=[]) hle (fun r _=>by rw [hw]) (by unfold CellN; rw [hl]; exact .inl ⟨rfl,rfl⟩)
    rw [hsame] at this
    exact this)
  (fun c' hw hle hble=>by
   simp only [RepE]
   exact ⟨w,us,rfl,hk',by rw [hw]; exact hown,RepL.mono hle ys us (fun j hj=>by rw [norefL_of_pureL ys hpy] at hj; cases hj) hrl,huc,hpy⟩)
 refine ⟨w,c',by rw [hw]; simp [execOp,hrun],?_,h2,h3⟩
 simp only [RepV]
 refine ⟨?_,_,_,_,_,eb2,Nat.le_refl _,fun _=>rfl⟩
 obtain ⟨ad,cpp,hww⟩:=ownsRow_len hown
 rw [hww]; rfl
theorem ok_putN {n2:Nat} (hx:ev x=.eptr id n i o0) (hm:m id=some (.nest e0 k os xs)) (hn:n=xs.length) (hz:xs[i]?=some (.agg cs)) (hc:cs[o0]?=some .und) (hl:os.lookup o0=some (e',k')) (hy:ev y=.arr id2 n2) (hm2:m id2=some (.arr e' k' ys)) (hn2:n2=ys.length) (hpr2:¬ pr id2) (ht:tok P t=true) (hs:tsize P t=1) :
  OpOkR P pr ⟨.none,.store t x y,ty,pos,af,gd⟩ ev m .und ((m.put id (.nest e0 k os (xs.set i (.agg (cs.set o0 (.lst k' ys)))))).put id2 .dead):=by
 have hne:id ≠ id2:=fun h=>by rw [h,hm2] at hm; cases hm
 refine OpOkR.skip rfl fun c a hev hM=>?_
 have hv:=hev x (by simp [Op.operands])
 rw [hx] at hv
 have hvy:=hev y (by simp [Op.operands])
 rw [hy] at hvy
 obtain ⟨us,hB2,hk',hown,hrl,huc,hpy⟩:=arr_now hM hvy hm2 hn2
 have hent:=hM.ent id
 rw [hm] at hent
 obtain ⟨g,cap,cur,v,bp,bs,bq,hB,hg,hcs,hnc,hk,hvk,hv1,hcv,hel,hnd,hgn,hfin⟩:=nest_rep hent hz
 have he:=eptr_now hv hB hn
 obtain ⟨cs',ws,h1,rfl,hC⟩:=hel
 cases h1
 have hwl:ws.length=k:=by simpa [Value.cells] using hvk
 have hcv':(cur.toList.drop (i * k)).take k=ws:=by simpa [Value.cells] using hcv
 obtain ⟨w0,cp,cb,cq,g1,rfl,g3,g4⟩:=hC.at hc
 rw [Nat.zero_add] at g3 g4
 have hcb:cb=[]:=by
  unfold CellN at g3
  rw [hl] at g3
  rcases g3 with ⟨_,h⟩ | ⟨_,_,h,_⟩
  ·exact h
  ·cases h
 subst hcb
 have hok:o0<k:=by rw [← hwl]; exact (List.getElem?_eq_some_iff.1 g1).1
 have hi:i<xs.length:=(List.getElem?_eq_some_iff.1 hz).1
 have hik:i * k+k≤cur.size:=by
  have h1:=Nat.mul_le_mul_right k (show i+1≤cap by omega)
  rw [Nat.add_mul,Nat.one_mul] at h1; omega
 have hy1:(a.eval y).oneCell'=true:=by
  obtain ⟨ad,cpp,hww⟩:=ownsRow_len hown
  rw [hww]; rfl
 have hyc:=vcells_of_oneCell hy1
 have hrun:=run_store_row (P:=P) (t:=t) (v:=a.eval y) (off:=i * k+o0) ht (by rw [hs,hyc]; rfl) hg (by rw [hyc]; simp; omega) (by rw [hyc]; simpa using hy1)
 rw [hyc] at hrun
 have hset:=set_mid_row (w':=a.eval y) hcv' (by simpa using hik) hok
 have hrow:(cur.toList.take (i * k+o0)++[a.eval y]++cur.toList.drop (i * k+o0+1))=cur.toList.take (i * k)++(Value.agg (ws.set o0 (a.eval y)).toArray).cells.toList++cur.toList.drop (i * k+k):=by rw [hset]; simp [Value.cells]
 -- the block of the slice is not one of the row's
 have hfresh:∀ b,(a.eval y).ownBlock=some b→b ≠ g∧b ∉ bp++((cp++([]++cq))++bq):=fun b hb=>by
  constructor
  ·intro hbg
   exact hne (hM.inj id id2 _ _ b hB hB2 (.inl (by rw [hbg]; rfl)) (.inl hb))
  ·intro hin
   exact hne (hM.inj id id2 _ _ b hB hB2 (.inr hin) (.inl hb))
 have hnd':(bp++((cp++((a.eval y).ownBlock.toList++cq))++bq)).Nodup:=by
  cases hb:(a.eval y).ownBlock with
  | none=>simpa [hb] using hnd
  | some b =>
   have hf:=(hfresh b hb).2
   have hp:(bp++((cp++((some b).toList++cq))++bq)).Perm (b :: (bp++((cp++([]++cq))++bq))):=by
    simp only [Option.toList_some,List.singleton_append,List.nil_append]
    refine (List.Perm.append_left bp ?_).trans (List.perm_middle)
    rw [List.append_assoc,List.append_assoc,List.cons_append]
    exact List.perm_middle
   exact hp.nodup_iff.2 (List.nodup_cons.2 ⟨hf,hnd⟩)
 obtain ⟨c',hw,eb1,eb2,h2,h3⟩:=hM.upd2 (pr:=pr) id id2 hne (.nest e0 k os (xs.set i (.agg (cs.set o0 (.lst k' ys))))) .dead (.arr (.slice (some ⟨g,0,.none⟩) xs.length cap) k xs.length (bp++((cp++((a.eval y).ownBlock.toList++cq))++bq))) (.arr (.slice .none 0 0) k' (ys.length+1) []) (c.w.setRow g (cur.toList.take (i * k+o0)++[a.eval y]++cur.toList.drop (i * k+o0+1)).toArray) rfl rfl rfl (Nat.le_refl _) (by simp)
  (fun b _ h1 _=>setRow_other _ _ _ _ (fun hbg=>h1 _ hB (.inl (by rw [hbg]; rfl))))
  (fun b hb=>by
   rcases hb with hb | hb
   ·rcases hb with hb | hb
    ·exact .inl ⟨_,hB,.inl hb⟩
    ·simp only [List.mem_append,Option.mem_toList] at hb
     rcases hb with h | (h | h | h) | h
     ·exact .inl ⟨_,hB,.inr (by simp [h])⟩
     ·exact .inl ⟨_,hB,.inr (by simp [h])⟩
     ·exact .inr (.inl ⟨_,hB2,.inl h⟩)
     ·exact .inl ⟨_,hB,.inr (by simp [h])⟩
     ·exact .inl ⟨_,hB,.inr (by simp [h])⟩
   ·rcases hb with hb | hb
    ·simp [Value.ownBlock] at hb
    ·cases hb)
  (fun b _ hb2=>by
   rcases hb2 with hb | hb
   ·simp [Value.ownBlock] at hb
   ·cases hb)
  (by rw [hB]; exact ⟨_,_,_,rfl,Nat.le_refl _,fun _=>rfl⟩) (by rw [hB2]; exact ⟨_,_,_,rfl,by omega,fun h=>by omega⟩) (fun _ be0 h0=>by rw [hB] at h0; cases h0; exact ⟨_,_,_,rfl,Nat.le_refl _,fun _=>rfl⟩) (fun h=>absurd h hpr2)
  (fun c' hw hle hble _=>by
   have hoth:∀ b,b ≠ g→c'.w.heap[b]?=c.w.heap[b]?:=fun b hb=>by rw [hw]; exact setRow_other _ _ _ _ hb
   refine hfin c' _ (.agg (ws.set o0 (a.eval y)).toArray) _ hle (by rw [hw,hrow]; exact setRow_heap c.w g _ _ e0 _ hg) (fun q hq=>hoth q (fun hqg=>hgn (by rw [← hqg]; simp at hq ⊢; rcases hq with h | h <;> simp [h]))) (by simp [Value.cells,hwl]) (fun q hq=>by
    simp only [Value.cells] at hq hv1
    have hq':q ∈ ws.set o0 (a.eval y):=by simpa using hq
    rcases List.mem_or_eq_of_mem_set hq' with h | h
    ·exact hv1 q (by simpa using h)
    ·rw [h]; exact hy1) ⟨_,_,rfl,rfl,?_⟩ hnd' (fun h=>?_)
   ·refine g4 (c':=c') (x':=.lst k' ys) (w':=a.eval y) (b':=(a.eval y).ownBlock.toList) hle (fun r hr=>hoth r (fun hrg=>hgn (by rw [← hrg]; simp at hr ⊢; rcases hr with h | h <;> simp [h]))) ?_
    unfold CellN
    rw [hl]
    exact .inr ⟨ys,us,rfl,hk',ownsRow_same hown (fun b hb=>hoth b (hfresh b hb).1),RepL.mono hle ys us (fun j hj=>by rw [norefL_of_pureL ys hpy] at hj; cases hj) hrl,huc,hpy,rfl⟩
   ·simp only [List.mem_append,Option.mem_toList] at h
    rcases h with h | h | h
    ·exact hgn (by simp [h])
    ·exact (hfresh g h).1 rfl
    ·exact hgn (by simp [h]))
  (fun c' hw hle hble=>by simp only [RepE]; exact ⟨_,_,_,rfl,rfl⟩)
 refine ⟨c',?_,h2,h3⟩
 rw [hw]
 simp [execOp,he,hrun]
end
end Go.L
set_option linter.unusedVariables false
set_option linter.unusedSimpArgs false
namespace Go.L
section
variable {P:Program} {N:Nat} {pr:Nat→Prop} {ev:Operand→LV} {m m':Mem} {d:Option Nat} {x y:Operand} {t ty:TypeId} {pos:String} {af:Array Edge} {gd:Option (Nat × Bool)} {lv:LV}
end
end Go.L
set_option linter.unusedVariables false
set_option linter.unusedSimpArgs false
namespace Go.L
section
variable {P:Program} {N:Nat} {pr:Nat→Prop} {ev:Operand→LV} {m m':Mem} {d:Option Nat} {x y:Operand} {t ty:TypeId} {pos:String} {af:Array Edge} {gd:Option (Nat × Bool)} {lv:LV} {α β:Type} {f:α→LV} {g:β→LV} {e0 k id n:Nat} {os:List (Nat × Nat × Nat)} {xs:List α} {u:Int} {z0:α} {cs:List LV} {o0:Nat} {z:LV}
theorem focN (h:idx xs u=some z0):some (LE.nest e0 k os (xs.map f))=some (LE.nest e0 k os ((xs.map f).set u.toNat (f z0))):=by
 obtain ⟨_,h2⟩:=idxOk h
 obtain ⟨h3,h4⟩:=List.getElem?_eq_some_iff.1 h2
 have:(xs.map f).set u.toNat (f z0)=xs.map f:=by
  rw [← List.map_set,← h4,List.set_getElem_self]
 rw [this]
theorem focAt (h:idx xs u=some z0) {w:LV}:((xs.map f).set u.toNat w)[u.toNat]?=some w:=by
 obtain ⟨_,h2⟩:=idxOk h
 have h3:=(List.getElem?_eq_some_iff.1 h2).1
 rw [List.getElem?_set_self (by simpa using h3)]
theorem unfN {z':α} {ys:List α} (hz:f z'=.agg cs) (hy:ys=xs.set u.toNat z'):some (LE.nest e0 k os ((xs.map f).set u.toNat (.agg cs)))=some (LE.nest e0 k os (ys.map f)):=by
 rw [hy,List.map_set,hz]
theorem ok_lnF {e' k':Nat} {ys:List β} {ls:List LV} {i:Nat} (hx:ev x=.eptr id n i o0) (hm:m id=some (.nest e0 k os ls)) (hn:n=ls.length) (hz:ls[i]?=some (.agg cs)) (hc:cs[o0]?=some (.lst k' (ys.map g))) (hl:os.lookup o0=some (e',k')) (ht:tok P t=true) (ha:tagg P t=false):OpOkR P pr ⟨d,.load t x,ty,pos,af,gd⟩ ev m (.slen ys.length) m:=by
 have:=ok_lnN (pr:=pr) (d:=d) (ty:=ty) (pos:=pos) (af:=af) (gd:=gd) hx hm hn hz hc hl ht ha
 rwa [List.length_map] at this
theorem ok_takeF {e' k' id2:Nat} {ys:List β} {ls:List LV} {i:Nat} (hx:ev x=.eptr id n i o0) (hm:m id=some (.nest e0 k os (ls.set i (.agg cs)))) (hn:n=ls.length) (hz:(ls.set i (.agg cs))[i]?=some (.agg cs)) (hc:cs[o0]?=some (.lst k' (ys.map g))) (hl:os.lookup o0=some (e',k')) (hid:m id2=.none) (ht:tok P t=true) (ha:tagg P t=false) {cs':List LV} (hcs:cs.set o0 .und=cs') :
  OpOkR P pr ⟨d,.load t x,ty,pos,af,gd⟩ ev m (.arr id2 ys.length) ((m.put id (.nest e0 k os (ls.set i (.agg cs')))).put id2 (.arr e' k' (ys.map g))):=by
 subst hcs
 have:=ok_takeN (pr:=pr) (d:=d) (ty:=ty) (pos:=pos) (af:=af) (gd:=gd) hx hm (by simpa using hn) hz hc hl hid ht ha
 rwa [List.length_map,List.set_set] at this
theorem ok_putF {e' k' id2 n2:Nat} {ys:List β} {ls:List LV} {i:Nat} (hx:ev x=.eptr id n i o0) (hm:m id=some (.nest e0 k os (ls.set i (.agg cs)))) (hn:n=ls.length) (hz:(ls.set i (.agg cs))[i]?=some (.agg cs)) (hc:cs[o0]?=some .und) (hl:os.lookup o0=some (e',k')) (hy:ev y=.arr id2 n2) (hm2:m id2=some (.arr e' k' (ys.map g))) (hn2:n2=ys.length) (hpr2:¬ pr id2) (ht:tok P t=true) (hs:tsize P t=1) {cs':List LV} (hcs:cs.set o0 (.lst k' (ys.map g))=cs') :
  OpOkR P pr ⟨.none,.store t x y,ty,pos,af,gd⟩ ev m .und ((m.put id (.nest e0 k os (ls.set i (.agg cs')))).put id2 .dead):=by
 subst hcs
 have:=ok_putN (pr:=pr) (ty:=ty) (pos:=pos) (af:=af) (gd:=gd) hx hm (by simpa using hn) hz hc hl hy hm2 (by simpa using hn2) hpr2 ht hs
 rwa [List.set_set] at this
theorem ok_ixF {el kk:Nat} {kd:IntKind} (he:telem P t=some el) (hk:tok P el=true) (hs:tsize P el=kk) (hx:ev x=.arr id n) (hm:m id=some (.nest el kk os (xs.map f))) (hn:n=xs.length) (hy:ev y=.int kd u) (hz:idx xs u=some z0) :
  OpOkR P pr ⟨d,.indexAddr t x y,ty,pos,af,gd⟩ ev m (.eptr id n u.toNat 0) m:=by
 obtain ⟨h0,h2⟩:=idxOk hz
 exact ok_ixN he hk hs hx hm (by simpa using hn) hy h0 (by simpa using (List.getElem?_eq_some_iff.1 h2).1)
theorem ok_min {kd kd':IntKind} {u w:Int} {ts:Array TypeId} (hx:ev x=.int kd u) (hy:ev y=.int kd' w):OpOkR P pr ⟨d,.call ⟨.builtin .min,#[x,y],ts⟩,ty,pos,af,gd⟩ ev m (.int kd (min u w)) m:=by
 refine OpOkR.value fun c a hev hM=>?_
 have hv:=hev x (by simp [Op.operands,Call.operands])
 have hw:=hev y (by simp [Op.operands,Call.operands])
 rw [hx] at hv
 rw [hy] at hw
 simp only [RepV] at hv hw
 have hmn:(if w<u then w else u)=min u w:=by omega
 exact ⟨.int kd (min u w),c,by simp [execOp,resolve,invoke,builtin,Builtin.min_,Builtin.min2,hv,hw,hmn],by simp [RepV],hM,Step.refl pr c⟩
theorem ok_max {kd kd':IntKind} {u w:Int} {ts:Array TypeId} (hx:ev x=.int kd u) (hy:ev y=.int kd' w):OpOkR P pr ⟨d,.call ⟨.builtin .max,#[x,y],ts⟩,ty,pos,af,gd⟩ ev m (.int kd (max u w)) m:=by
 refine OpOkR.value fun c a hev hM=>?_
 have hv:=hev x (by simp [Op.operands,Call.operands])
 have hw:=hev y (by simp [Op.operands,Call.operands])
 rw [hx] at hv
 rw [hy] at hw
 simp only [RepV] at hv hw
 have hmn:(if w > u then w else u)=max u w:=by omega
 exact ⟨.int kd (max u w),c,by simp [execOp,resolve,invoke,builtin,Builtin.max_,Builtin.max2,hv,hw,hmn],by simp [RepV],hM,Step.refl pr c⟩
end
end Go.L
set_option linter.unusedVariables false
set_option linter.unusedSimpArgs false
namespace Go.L
theorem RepM.re {c:Cx} {m:Mem} (h:RepM c m) {bid:Nat} {cs cs':List LV} (hm:m bid=some (.box cs)) {vs:List Value} {b:Nat} {e:TypeId} (hB:c.B bid=some (.box b cs.length)) (hh:c.w.heap[b]?=some (.cells vs.toArray e (0,0))) (hl:RepL c cs' vs) (h1:∀ v ∈ vs,v.oneCell'=true) (hn:cs'.length=cs.length):RepM c (m.put bid (.box cs')):=by
 refine ⟨fun i=>?_,h.inj,h.notO,h.Olt⟩
 by_cases hi:i=bid
 ·subst hi
  simp only [Mem.put,if_true,RepE]
  exact ⟨b,vs,e,by rw [hn]; exact hB,hh,hl,h1⟩
 ·simp only [Mem.put,hi,if_false]
  exact h.ent i
theorem repL_und {c:Cx}:∀ (cs:List LV) (vs:List Value),RepL c cs vs→RepL c (cs.map fun _=>LV.und) vs
 | [],vs,h=>by simpa only [RepL,List.map_nil] using h
 | x :: xs,vs,h=>by
  simp only [RepL,List.map_cons] at h ⊢
  obtain ⟨v,vs',rfl,h1,h2⟩:=h
  exact ⟨v,vs',rfl,by simp [RepV],repL_und xs vs' h2⟩
theorem norefL_und {id:Nat}:∀ (cs:List LV),LV.norefL id (cs.map fun _=>LV.und)=true
 | []=>by simp [LV.norefL]
 | x :: xs=>by simp [LV.norefL,LV.noref,norefL_und xs]
theorem frzAL_length {id k:Nat} {xs:List LV}:∀ (cs:List LV),(LV.frzAL id k xs cs).length=cs.length
 | []=>by simp [LV.frzAL]
 | x :: cs=>by simp [LV.frzAL,frzAL_length cs]
def freeB2 (id bid:Nat) (ml:List (Nat × LE)):Bool:=ml.all fun q=>q.1 == id || q.1 == bid || match q.2 with | .box cs=>LV.norefL id cs | .arr _ _ _=>true | .map _ _ _=>true | .nest _ _ _ _=>true | .nesth _ _ _ _ _ _ id2 _=>id2 != id | .dead=>true
theorem Wk.frzBx {pr:Nat→Prop} {el:List (Nat × LV)} {ml:List (Nat × LE)} {α:Type} {f:α→LV} (id e k:Nat) (xs:List α) (bid:Nat) {cs cs':List LV} (hid:Mem.of ml id=some (.arr e k (xs.map f))) (hb:Mem.of ml bid=some (.box cs)) (hne:(bid == id)=false) (hcs:LV.frzAL id k (xs.map f) cs=cs') (hfree:freeB2 id bid ml=true) (henv:(el.all fun p=>p.2.noref id)=true) (hpr:¬ pr id) :
  Wk pr (Env.of el) (Mem.of ml) (Env.of el) (((Mem.of ml).del id).put bid (.box cs')):=by
 intro N c a hrep
 have hne:bid ≠ id:=by simpa using hne
 obtain ⟨b,vs,e1,hBb,hh,hl,h1⟩:=cell_box hrep.mem hb
 have hm1:=hrep.mem.re (cs':=cs.map fun _=>LV.und) hb hBb hh (repL_und cs vs hl) h1 (by simp)
 obtain ⟨c',hw,hO,hm',hV,hown,hX,hB⟩:=hm1.del id (by
  intro i ds hi hd
  by_cases hib:i=bid
  ·subst hib
   simp only [Mem.put,if_true,Option.some.injEq] at hd
   rw [← hd]; exact norefL_und cs
  ·simp only [Mem.put,hib,if_false] at hd
   have:=List.all_eq_true.1 hfree _ (memOf_some hd)
   cases ds with
   | box cs=>simpa [hi,hib,LE.nref] using this
   | nesth _ _ _ _ _ _ _ _=>simpa [hi,hib,LE.nref] using this
   | _=>rfl)
 have hle:c.Le c':=⟨by rw [hw]; exact Nat.le_refl _,fun b _ hx=>⟨by rw [hw],fun hx'=>hx (hx'.imp (fun h=>by rw [hO] at h; exact h) (hown b))⟩⟩
 have harr:∀ v,RepV c (.arr id (xs.map f).length) v→RepV c' (.lst k (xs.map f)) v:=by
  intro v hv
  obtain ⟨us,hBu,hk,hown',hl,hc,hp⟩:=arr_now hrep.mem hv hid rfl
  simp only [RepV]
  have hl':=RepL.mono hle (xs.map f) us (fun j hj=>by rw [norefL_of_pureL _ hp] at hj; cases hj) hl
  rcases hown'.2 with ⟨rfl,h0⟩ | ⟨g,cap,cur,rfl,_,hg,hnc,_⟩
  ·exact ⟨.none,0,by rw [h0],by omega,fun _=>rfl,hp,.inl (List.eq_nil_of_length_eq_zero h0)⟩
  ·refine ⟨some ⟨g,0,.none⟩,cap,rfl,hnc,by simp,hp,.inr ⟨g,0,us,rfl,by rw [hw]; exact (Array.getElem?_eq_some_iff.1 hg).1,hX g _ hBu (.inl rfl),hl',hc,?_⟩⟩
   rw [hw]; exact rangeAt_own hown' rfl
 have hl2:RepL c' cs' vs:=by rw [← hcs]; exact frzAL_rep hV harr cs vs hl
 have hlen:cs'.length=cs.length:=by rw [← hcs,frzAL_length]
 have hm2:=hm'.re (bid:=bid) (cs:=cs.map fun _=>LV.und) (cs':=cs') (by simp [Mem.del,Mem.put,hne]) (by rw [hB bid hne]; simpa using hBb) (by rw [hw]; exact hh) hl2 h1 (by simpa using hlen)
 have hmem:(((Mem.of ml).put bid (.box (cs.map fun _=>LV.und))).del id).put bid (.box cs')=((Mem.of ml).del id).put bid (.box cs'):=by
  funext i
  simp only [Mem.put,Mem.del]
  by_cases hib:i=bid <;> simp [hib]
 rw [hmem] at hm2
 refine ⟨c',hw,⟨fun i=>hV _ _ ?_ (hrep.env i),hm2,hrep.size,hrep.defers⟩,?_⟩
 ·clear hrep
  induction el with
  | nil=>simp [Env.of,LV.noref]
  | cons p el ih =>
   simp only [List.all_cons,Bool.and_eq_true] at henv
   simp only [Env.of]
   split
   ·exact henv.1
   ·exact ih henv.2
 ·refine ⟨hO,by rw [hw],by rw [hw],by rw [hw],by rw [hw]; exact Nat.le_refl _,by rw [hw]; exact Nat.le_refl _,fun b _ _=>by rw [hw],fun b ho=>.inl (hown b ho),fun i be hpi hb=>?_⟩
  exact ⟨be,by rw [hB i (fun h=>hpr (h ▸ hpi))]; exact hb,.refl be⟩
theorem frA0 {id k:Nat} {ys:List LV}:LV.frzAL id k ys []=[]:=by simp [LV.frzAL]
theorem frAZ {α:Type} {f:α→LV} {id k:Nat} {ys:List α} {cs cs':List LV} (hr:LV.frzAL id k (ys.map f) cs=cs'):LV.frzAL id k (ys.map f) (.arr id ys.length :: cs)=.lst k (ys.map f) :: cs':=by
 simp [LV.frzAL,LV.frzA,hr]
theorem OpOk.sub {P:Program} {pr:Nat→Prop} {o:Oper} {ev ev':Operand→LV} {m m':Mem} {lv:LV} (h:OpOk P pr o ev' m lv m') (hs:∀ x,Sub (ev x) (ev' x)):OpOk P pr o ev m lv m' :=
 fun c a Q hev hm=>h c a Q (fun x=>hs x c _ (hev x)) hm
section
variable {α β γ:Type} {n:Nat} {v w:Option (α × List β)}
end
end Go.L
set_option linter.unusedVariables false
set_option linter.unusedSimpArgs false
namespace Go.L
section
variable {P:Program} {N:Nat} {pr:Nat→Prop} {ev:Operand→LV} {m m':Mem} {d:Option Nat} {x y z:Operand} {t ty:TypeId} {pos:String} {af:Array Edge} {gd:Option (Nat × Bool)} {lv:LV} {α β:Type} {f:α→LV} {g:β→LV} {e0 k id n:Nat} {os:List (Nat × Nat × Nat)} {xs:List α} {u:Int} {z0:α} {cs:List LV} {o0:Nat}
theorem ok_ixFo {el kk:Nat} {kd:IntKind} (he:telem P t=some el) (hk:tok P el=true) (hs:tsize P el=kk) (hx:ev x=.arr id n) (hm:m id=some (.nest el kk os (xs.map f))) (hn:n=xs.length) (hy:ev y=.int kd u) (hz:idx xs u=some z0) (hcs:f z0=.agg cs) :
  OpOkR P pr ⟨d,.indexAddr t x y,ty,pos,af,gd⟩ ev m (.eptr id n u.toNat 0) (m.put id (.nest el kk os ((xs.map f).set u.toNat (.agg cs)))):=by
 have h:=ok_ixF (pr:=pr) (d:=d) (ty:=ty) (pos:=pos) (af:=af) (gd:=gd) he hk hs hx hm hn hy hz
 have hmm:m.put id (.nest el kk os ((xs.map f).set u.toNat (.agg cs)))=m:=by
  funext i
  simp only [Mem.put]
  split
  ·rename_i hi; subst hi; rw [hm,focN (f:=f) hz,hcs]
  ·rfl
 rw [hmm]; exact h
theorem OpOk.mem {o:Oper} {m2:Mem} (h:OpOk P pr o ev m lv m') (hs:∀ c,RepM c m'→RepM c m2):OpOk P pr o ev m lv m2:=by
 intro c a Q hev hm
 refine Oper.wp_mono ?_ (h c a Q hev hm)
 rintro a' w' ⟨v,c',h1,h2,h3,h4,h5⟩
 exact ⟨v,c',h1,h2,h3,hs c' h4,h5⟩
end
theorem SubL.repl {x y:LV} (h:Sub x y):∀ n,SubL (List.replicate n x) (List.replicate n y)
 | 0=>trivial
 | n+1=>⟨h,SubL.repl h n⟩
end Go.L
set_option linter.unusedVariables false
set_option linter.unusedSimpArgs false
namespace Go.L
def deadOf:Option BE→Option BE
 | some (.arr u k len _)=>some (.arr (.slice .none 0 0) k (len+1) [])
 | y=>y
def Mem.gone (m:Mem) (id:Nat) (le:LE) (S:List Nat):Mem:=fun i=>if i=id then some le else if i ∈ S then some .dead else m i
theorem RepM.updS {pr:Nat→Prop} {c:Cx} {m:Mem} (h:RepM c m) (id:Nat) (S:List Nat) (hS:id ∉ S) (hSa:∀ j ∈ S,∃ u k len ins,c.B j=some (.arr u k len ins)) (hSp:∀ j ∈ S,¬ pr j) (le:LE) (be:BE) (w':World)
  (hos:w'.os=c.w.os) (htape:w'.tape=c.w.tape) (hout:w'.output=c.w.output) (hdr:c.w.drawn≤w'.drawn) (hsize:c.w.heap.size≤w'.heap.size)
  (hkeep:∀ b,b<c.w.heap.size→(∀ be0,c.B id=some be0→¬ be0.has b)→w'.heap[b]?=c.w.heap[b]?)
  (hblk:∀ b,be.has b→(∃ be0,c.B id=some be0∧be0.has b) ∨ (∃ j ∈ S,∃ be0,c.B j=some be0∧be0.has b) ∨ c.w.heap.size≤b)
  (hle:BLe (c.B id) (some be)) (hpr:pr id→∀ be0,c.B id=some be0→be0.Same be)
  (hent:∀ c':Cx,c'.w=w'→c.Le c'→(∀ i,BLe (c.B i) (c'.B i))→c'.O=c.O→(∀ b,c'.own b→be.has b ∨ ∃ j be0,j ≠ id∧c.B j=some be0∧be0.has b)→RepE c' (some le) (some be)) :
  ∃ c':Cx,c'.w=w'∧c'.B id=some be∧RepM c' (m.gone id le S)∧Step pr c c':=by
 let c':Cx:=⟨w',fun i=>if i=id then some be else if i ∈ S then deadOf (c.B i) else c.B i,c.O⟩
 have e1:c'.B id=some be:=by simp [c']
 have e2:∀ i,i ∈ S→c'.B i=deadOf (c.B i):=fun i hi=>by
  have:i ≠ id:=fun h=>hS (h ▸ hi)
  simp [c',this,hi]
 have e3:∀ i,i ≠ id→i ∉ S→c'.B i=c.B i:=fun i h1 h2=>by simp [c',h1,h2]
 have key:∀ i b1 b,c'.B i=some b1→b1.has b→(i=id∧be.has b) ∨ (i ≠ id∧i ∉ S∧c.B i=some b1):=by
  intro i b1 b g1 g2
  by_cases hi:i=id
  ·subst hi; rw [e1] at g1; cases g1; exact .inl ⟨rfl,g2⟩
  ·by_cases hs:i ∈ S
   ·rw [e2 i hs] at g1
    obtain ⟨u,k,len,ins,hB⟩:=hSa i hs
    rw [hB] at g1
    simp only [deadOf,Option.some.injEq] at g1
    subst g1
    rcases g2 with g2 | g2
    ·simp [Value.ownBlock] at g2
    ·cases g2
   ·rw [e3 i hi hs] at g1; exact .inr ⟨hi,hs,g1⟩
 have hown:∀ b,c'.own b→c.own b ∨ c.w.heap.size≤b:=by
  rintro b ⟨i,be',h1,h2⟩
  rcases key i be' b h1 h2 with ⟨_,h3⟩ | ⟨_,_,h3⟩
  ·rcases hblk b h3 with ⟨be0,q1,q2⟩ | ⟨j,_,be0,q1,q2⟩ | q
   ·exact .inl ⟨id,be0,q1,q2⟩
   ·exact .inl ⟨j,be0,q1,q2⟩
   ·exact .inr q
  ·exact .inl ⟨i,be',h3,h2⟩
 have hgrow:Grow pr c c':=by
  refine ⟨rfl,hos,htape,hout,hdr,hsize,fun b hb ho=>hkeep b hb (fun be0 h0 h1=>ho ⟨id,be0,h0,h1⟩),hown,fun i be' hp hb=>?_⟩
  by_cases hi:i=id
  ·subst hi; exact ⟨be,e1,hpr hp be' hb⟩
  ·have hs:i ∉ S:=fun hs=>hSp i hs hp
   exact ⟨be',by rw [e3 i hi hs]; exact hb,.refl be'⟩
 have hble:∀ i,BLe (c.B i) (c'.B i):=by
  intro i
  by_cases hi:i=id
  ·subst hi; rw [e1]; exact hle
  ·by_cases hs:i ∈ S
   ·rw [e2 i hs]
    obtain ⟨u,k,len,ins,hB⟩:=hSa i hs
    rw [hB]
    exact ⟨_,_,_,rfl,by omega,fun h=>by omega⟩
   ·rw [e3 i hi hs]; exact BLe.refl _
 have hown2:∀ b,c'.own b→be.has b ∨ ∃ j be0,j ≠ id∧c.B j=some be0∧be0.has b:=by
  rintro b ⟨i,be',h1,h2⟩
  rcases key i be' b h1 h2 with ⟨_,h3⟩ | ⟨q1,_,h3⟩
  ·exact .inl h3
  ·exact .inr ⟨i,be',q1,h3,h2⟩
 refine ⟨c',rfl,e1,⟨fun i=>?_,?_,?_,?_⟩,hgrow,hble⟩
 ·by_cases hi:i=id
  ·subst hi; rw [e1]; simp only [Mem.gone,if_true]; exact hent c' rfl hgrow.le hble rfl hown2
  ·by_cases hs:i ∈ S
   ·rw [e2 i hs]
    simp only [Mem.gone,hi,hs,if_true,if_false,RepE]
    obtain ⟨u,k,len,ins,hB⟩:=hSa i hs
    rw [hB]
    exact ⟨_,_,_,rfl,rfl⟩
   ·rw [e3 i hi hs]
    simp only [Mem.gone,hi,hs,if_false]
    refine (h.ent i).mono hgrow.le hble fun be' b hb hbb=>?_
    refine hkeep b ((h.ent i).lt hb hbb) (fun be0 h0 h1=>?_)
    exact hi (h.inj i id be' be0 b hb h0 hbb h1)
 ·have one:∀ i b1 b,i ≠ id→i ∉ S→c.B i=some b1→b1.has b→be.has b→False:=by
   intro i b1 b h1 h2 h3 h4 h5
   rcases hblk b h5 with ⟨be0,q1,q2⟩ | ⟨j,hj,be0,q1,q2⟩ | q
   ·exact h1 (h.inj i id b1 be0 b h3 q1 h4 q2)
   ·exact h2 (h.inj i j b1 be0 b h3 q1 h4 q2 ▸ hj)
   ·have:=(h.ent i).lt h3 h4; omega
  intro i i' b1 b2 b h1 h2 h3 h4
  rcases key i b1 b h1 h3 with ⟨q1,q2⟩ | ⟨q1,q2,q3⟩
  ·rcases key i' b2 b h2 h4 with ⟨r1,r2⟩ | ⟨r1,r2,r3⟩
   ·rw [q1,r1]
   ·exact (one i' b2 b r1 r2 r3 h4 q2).elim
  ·rcases key i' b2 b h2 h4 with ⟨r1,r2⟩ | ⟨r1,r2,r3⟩
   ·exact (one i b1 b q1 q2 q3 h3 r2).elim
   ·exact h.inj i i' b1 b2 b q3 r3 h3 h4
 ·intro b ho hO
  rcases hown b ho with ho | hs
  ·exact h.notO b ho hO
  ·have:=h.Olt b hO; omega
 ·intro b hO; exact Nat.lt_of_lt_of_le (h.Olt b hO) hsize
theorem Wk.ownBx {pr:Nat→Prop} {el:List (Nat × LV)} {ml:List (Nat × LE)} (id e k bid j:Nat) {cs cs':List LV} (hid:Mem.of ml id=.none) (hk:Nat.ble 1 k=true) (hb:Mem.of ml bid=some (.box cs)) (hj:cs[j]?=some .nil) (hcs:cs.set j (.arr id 0)=cs') (hpr:¬ pr id) :
  Wk pr (Env.of el) (Mem.of ml) (Env.of el) (((Mem.of ml).put id (.arr e k [])).put bid (.box cs')):=by
 intro N c a hrep
 have hne:bid ≠ id:=fun h=>by rw [h,hid] at hb; cases hb
 have hB:=hrep.mem.fresh hid
 obtain ⟨c',hw,hb',h2,h3⟩:=hrep.mem.upd (pr:=pr) id (.arr e k []) (.arr (.slice .none 0 0) k 0 []) c.w rfl rfl rfl (Nat.le_refl _) (Nat.le_refl _)
  (fun b _ _=>rfl) (fun b hb=>by simp [BE.has,Value.ownBlock] at hb) (by rw [hB]; trivial) (fun h=>absurd h hpr)
  (fun c' hw hle hble=>by
   simp only [RepE]
   exact ⟨.slice .none 0 0,[],rfl,Nat.le_of_ble_eq_true hk,by rw [hw]; exact World.ownsRow_nil c.w 0 e k,by simp [RepL],by simp,by simp [LV.pureL]⟩)
 have hb2:((Mem.of ml).put id (.arr e k [])) bid=some (.box cs):=by simp only [Mem.put,hne,if_false]; exact hb
 obtain ⟨b,vs,e1,hBb,hh,hl,h1⟩:=cell_box h2 hb2
 have hset:∀ (cs:List LV) (vs:List Value) (j:Nat),RepL c' cs vs→cs[j]?=some .nil→RepL c' (cs.set j (.arr id 0)) vs:=by
  intro cs
  induction cs with
  | nil=>intro vs j _ h; simp at h
  | cons x xs ih =>
   intro vs j hl hj
   simp only [RepL] at hl
   obtain ⟨v,vs',rfl,hv,hl'⟩:=hl
   cases j with
   | zero =>
    simp at hj; subst hj
    simp only [RepV] at hv
    simp only [List.set_cons_zero,RepL]
    refine ⟨v,vs',rfl,?_,hl'⟩
    simp only [RepV]
    exact ⟨by rw [hv]; rfl,_,_,_,_,hb',Nat.le_refl _,fun _=>hv⟩
   | succ j =>
    simp only [List.set_cons_succ,RepL]
    exact ⟨v,vs',rfl,hv,ih vs' j hl' (by simpa using hj)⟩
 have hm2:=h2.re (cs':=cs') hb2 hBb hh (by rw [← hcs]; exact hset cs vs j hl hj) h1 (by rw [← hcs]; simp)
 exact ⟨c',hw,⟨fun i=>h3.repV (hrep.env i),hm2,hrep.size,hrep.defers⟩,h3.grow⟩
def AbsC (m:Mem) (os:List (Nat × Nat × Nat)):Nat→List LV→List LV→List Nat→Prop
 | _,[],cs',S=>cs'=[]∧S=[]
 | o,x :: xs,cs',S=>∃ x' xs' S1 S2,cs'=x' :: xs'∧S=S1++S2∧AbsC m os (o+1) xs xs' S2 ∧
   match os.lookup o with
   | .none=>x'=x∧x.pure=true∧S1=[]
   | some (e,k)=>(x=.nil∧0<k∧x'=.lst k []∧S1=[]) ∨ ∃ id2 ys,x=.arr id2 ys.length∧m id2=some (.arr e k ys)∧x'=.lst k ys∧S1=[id2]
def blkOf:Option BE→List Nat
 | some (.arr u _ _ _)=>u.ownBlock.toList
 | _=>[]
def blks (c:Cx) (S:List Nat):List Nat:=S.flatMap fun j=>blkOf (c.B j)
theorem AbsC.ids {m:Mem} {os:List (Nat × Nat × Nat)}:∀ {o:Nat} {cs cs':List LV} {S:List Nat},AbsC m os o cs cs' S→∀ j ∈ S,∃ e k ys,m j=some (.arr e k ys)
 | _,[],_,_,h=>by simp only [AbsC] at h; rw [h.2]; simp
 | o,x :: xs,cs',S,h=>by
  simp only [AbsC] at h
  obtain ⟨x',xs',S1,S2,rfl,rfl,h1,h2⟩:=h
  intro j hj
  rcases List.mem_append.1 hj with hj | hj
  ·split at h2
   ·rw [h2.2.2] at hj; cases hj
   ·rename_i e k _
    rcases h2 with ⟨_,_,_,rfl⟩ | ⟨id2,ys,_,hm,_,rfl⟩
    ·cases hj
    ·simp at hj; subst hj; exact ⟨e,k,ys,hm⟩
  ·exact h1.ids j hj
theorem AbsC.len {m:Mem} {os:List (Nat × Nat × Nat)}:∀ {o:Nat} {cs cs':List LV} {S:List Nat},AbsC m os o cs cs' S→cs'.length=cs.length
 | _,[],_,_,h=>by simp only [AbsC] at h; rw [h.1]
 | o,x :: xs,cs',S,h=>by
  simp only [AbsC] at h
  obtain ⟨x',xs',S1,S2,rfl,rfl,h1,h2⟩:=h
  simp [h1.len]
theorem AbsC.rep {c c':Cx} {m:Mem} (hM:RepM c m) (hle:c.Le c') {os:List (Nat × Nat × Nat)}:∀ {o:Nat} {cs cs':List LV} {S:List Nat} {ws:List Value},AbsC m os o cs cs' S→RepL c cs ws→(∀ b ∈ blks c S,c'.w.heap[b]?=c.w.heap[b]?)→RepC c' os o cs' ws (blks c S)
 | _,[],_,_,ws,h,hl,_=>by
  simp only [AbsC] at h
  obtain ⟨rfl,rfl⟩:=h
  simp only [RepL] at hl
  simp only [RepC]; exact ⟨hl,by simp [blks]⟩
 | o,x :: xs,cs',S,ws,h,hl,hh=>by
  simp only [AbsC] at h
  obtain ⟨x',xs',S1,S2,rfl,rfl,h1,h2⟩:=h
  simp only [RepL] at hl
  obtain ⟨w,ws',rfl,hw,hl'⟩:=hl
  have hb:blks c (S1++S2)=blks c S1++blks c S2:=by simp [blks]
  rw [hb] at hh ⊢
  simp only [RepC]
  refine ⟨w,ws',blks c S1,blks c S2,rfl,rfl,?_,AbsC.rep hM hle h1 hl' (fun b hb=>hh b (by simp [hb]))⟩
  unfold CellN
  split at h2
  ·rename_i hlk
   obtain ⟨rfl,hp,rfl⟩:=h2
   rw [hlk]
   exact ⟨RepV.mono hle _ w (fun id hid=>by rw [noref_of_pure _ hp] at hid; cases hid) hw,hp,by simp [blks]⟩
  ·rename_i e k hlk
   rw [hlk]
   rcases h2 with ⟨rfl,hk,rfl,rfl⟩ | ⟨id2,ys,rfl,hm,rfl,rfl⟩
   ·simp only [RepV] at hw
    subst hw
    exact .inr ⟨[],[],rfl,hk,World.ownsRow_nil c'.w 0 e k,by simp [RepL],by simp,rfl,by simp [blks,Value.ownBlock]⟩
   ·obtain ⟨us,hB,hk,hown,hrl,hc,hp⟩:=arr_now hM hw hm rfl
    refine .inr ⟨ys,us,rfl,hk,ownsRow_same hown (fun b hb=>hh b ?_),RepL.mono hle ys us (fun j hj=>by rw [norefL_of_pureL ys hp] at hj; cases hj) hrl,hc,hp,by simp [blks,hB,blkOf]⟩
    simp [blks,hB,blkOf,hb]
section
variable {P:Program} {N:Nat} {pr:Nat→Prop} {ev:Operand→LV} {m m':Mem} {d:Option Nat} {x y z:Operand} {t ty:TypeId} {pos:String} {af:Array Edge} {gd:Option (Nat × Bool)} {lv:LV} {α β:Type} {f:α→LV} {g:β→LV} {e0 k id n:Nat} {os:List (Nat × Nat × Nat)}
end
end Go.L
set_option linter.unusedVariables false
set_option linter.unusedSimpArgs false
namespace Go.L
theorem Sub.lst {k:Nat} {xs ys:List LV} (h:SubL xs ys) (hp:LV.pureL ys=true):Sub (.lst k xs) (.lst k ys):=fun c v hv=>by
 simp only [RepV] at hv ⊢
 obtain ⟨a,cap,rfl,h1,h2,h3,h4⟩:=hv
 have hl:∀ {xs ys:List LV},SubL xs ys→xs.length=ys.length:=by
  intro xs
  induction xs with
  | nil=>intro ys h; cases ys with
   | nil=>rfl
   | cons y ys=>cases h
  | cons x xs ih=>intro ys h; cases ys with
   | nil=>cases h
   | cons y ys=>simp [ih h.2]
 refine ⟨a,cap,by rw [hl h],by rw [← hl h]; exact h1,h2,hp,?_⟩
 rcases h4 with rfl | ⟨b,off,vs,q1,q2,q3,q4,q5⟩
 ·left; exact List.eq_nil_of_length_eq_zero (by rw [← hl h]; rfl)
 ·exact .inr ⟨b,off,vs,q1,q2,q3,h.rep q4,q5⟩
section
variable {P:Program} {N:Nat} {pr:Nat→Prop} {ev:Operand→LV} {m m':Mem} {d:Option Nat} {x y z:Operand} {t ty:TypeId} {pos:String} {af:Array Edge} {gd:Option (Nat × Bool)} {lv:LV} {α β:Type} {f:α→LV} {g:β→LV} {e0 k id n:Nat} {os:List (Nat × Nat × Nat)} {xs:List α} {u:Int} {z0:α} {cs:List LV} {o0:Nat}
theorem OpOk.res {o:Oper} {lv':LV} (h:OpOk P pr o ev m lv m') (hs:Sub lv lv'):OpOk P pr o ev m lv' m':=by
 intro c a Q hev hm
 refine Oper.wp_mono ?_ (h c a Q hev hm)
 rintro a' w' ⟨v,c',h1,h2,h3,h4,h5⟩
 exact ⟨v,c',h1,h2,hs c' v h3,h4,h5⟩
theorem ok_ixG {el kk:Nat} {kd:IntKind} {w:LV} (he:telem P t=some el) (hk:tok P el=true) (hs:tsize P el=kk) (hx:ev x=.arr id n) (hm:m id=some (.nest el kk os ((xs.map f).set u.toNat w))) (hn:n=xs.length) (hy:ev y=.int kd u) (hz:idx xs u=some z0) :
  OpOkR P pr ⟨d,.indexAddr t x y,ty,pos,af,gd⟩ ev m (.eptr id n u.toNat 0) m:=by
 obtain ⟨h0,h2⟩:=idxOk hz
 exact ok_ixN he hk hs hx hm (by simpa using hn) hy h0 (by simpa using (List.getElem?_eq_some_iff.1 h2).1)
end
def SubN (os:List (Nat × Nat × Nat)):Nat→List LV→List LV→Prop
 | _,[],ys=>ys=[]
 | o,x :: xs,ys=>∃ y ys',ys=y :: ys'∧SubN os (o+1) xs ys'∧match os.lookup o with
   | some _=>y=x
   | .none=>Sub x y∧y.pure=true
theorem SubN.rep {c:Cx} {os:List (Nat × Nat × Nat)}:∀ {o:Nat} {xs ys:List LV} {ws:List Value} {bs:List Nat},SubN os o xs ys→RepC c os o xs ws bs→RepC c os o ys ws bs
 | _,[],ys,ws,bs,h,hr=>by simp only [SubN] at h; subst h; exact hr
 | o,x :: xs,ys,ws,bs,h,hr=>by
  simp only [SubN] at h
  obtain ⟨y,ys',rfl,h1,h2⟩:=h
  simp only [RepC] at hr ⊢
  obtain ⟨w,ws',b1,b2,rfl,rfl,h3,h4⟩:=hr
  refine ⟨w,ws',b1,b2,rfl,rfl,?_,SubN.rep h1 h4⟩
  unfold CellN at h3 ⊢
  split at h2
  ·rename_i p hl
   obtain ⟨e,k⟩:=p
   rw [hl] at h3 ⊢
   subst h2; exact h3
  ·rename_i hl
   rw [hl] at h3 ⊢
   exact ⟨h2.1 c w h3.1,h2.2,h3.2.2⟩
theorem RepN.sub {c:Cx} {os:List (Nat × Nat × Nat)} {xs ys:List LV} (hs:SubN os 0 xs ys):∀ {n:Nat} {vs:List Value} {bs:List Nat},RepN c os (List.replicate n (.agg xs)) vs bs→RepN c os (List.replicate n (.agg ys)) vs bs
 | 0,vs,bs,h=>by simpa only [List.replicate_zero,RepN] using h
 | n+1,vs,bs,h=>by
  simp only [List.replicate_succ,RepN] at h ⊢
  obtain ⟨v,vs',b1,b2,rfl,rfl,⟨cs,ws,he,hv,hc⟩,h2⟩:=h
  cases he
  exact ⟨v,vs',b1,b2,rfl,rfl,⟨ys,ws,rfl,hv,hs.rep hc⟩,RepN.sub hs h2⟩
theorem OpOkR.mem {P:Program} {pr:Nat→Prop} {ev:Operand→LV} {m m' m2:Mem} {lv:LV} {o:Oper} (h:OpOkR P pr o ev m lv m') (hs:∀ c,RepM c m'→RepM c m2):OpOkR P pr o ev m lv m2:=by
 intro c a Q hev hm
 refine Oper.wp_mono ?_ (h c a Q hev hm)
 rintro a' w' ⟨v,c',h1,h2,h3,h4,h5⟩
 exact ⟨v,c',h1,h2,h3,hs c' h4,h5⟩
theorem LCall.frz {P:Program} {fn:Nat} {args:List LV} {α:Type} {f:α→LV} {id n e k:Nat} {xs:List α} (h:LCall P fn args (Mem.of []) (.arr id n) (Mem.of [(id,.arr e k (xs.map f))])) (hn:n=xs.length):LCall P fn args (Mem.of []) (.lst k (xs.map f)) (Mem.of []):=by
 intro c vs hM hv
 refine (h c vs hM hv).mono ?_
 rintro en w' ⟨v,c1,rfl,rfl,hm1,hr,hg⟩
 obtain ⟨us,hB,hk,hown,hl,hc,hp⟩:=arr_now (e:=e) (k:=k) (xs:=xs.map f) hm1 hr (by simp [Mem.of]) (by simpa using hn)
 obtain ⟨c',hw,hO,hm',hV,hown',hX,hB'⟩:=hm1.del id (by
  intro i ds hi hd
  simp [Mem.of,hi] at hd)
 have hle:c1.Le c':=⟨by rw [hw]; exact Nat.le_refl _,fun b _ hx=>⟨by rw [hw],fun hx'=>hx (hx'.imp (fun h=>by rw [hO] at h; exact h) (hown' b))⟩⟩
 have hmm:(Mem.of [(id,.arr e k (xs.map f))]).del id=Mem.of []:=by
  funext i
  simp only [Mem.del,Mem.of]
  by_cases hi:i=id <;> simp [hi]
 rw [hmm] at hm'
 refine ⟨v,c',rfl,hw,hm',?_,?_⟩
 ·simp only [RepV]
  have hl':=RepL.mono hle (xs.map f) us (fun j hj=>by rw [norefL_of_pureL _ hp] at hj; cases hj) hl
  rcases hown.2 with ⟨rfl,h0⟩ | ⟨g,cap,cur,rfl,_,hg',hnc,_⟩
  ·exact ⟨.none,0,by rw [h0],by omega,fun _=>rfl,hp,.inl (List.eq_nil_of_length_eq_zero h0)⟩
  ·refine ⟨some ⟨g,0,.none⟩,cap,rfl,hnc,by simp,hp,.inr ⟨g,0,us,rfl,by rw [hw]; exact (Array.getElem?_eq_some_iff.1 hg').1,hX g _ hB (.inl rfl),hl',hc,?_⟩⟩
   rw [hw]; exact rangeAt_own hown rfl
 ·refine hg.trans ⟨hO,by rw [hw],by rw [hw],by rw [hw],by rw [hw]; exact Nat.le_refl _,by rw [hw]; exact Nat.le_refl _,fun b _ _=>by rw [hw],fun b ho=>.inl (hown' b ho),fun i be hpi hb=>?_⟩
  simp [Mem.of] at hpi
theorem mD {P:Program} {pr:Nat→Prop} {ro:List Nat} {ops:Array Oper} {l:List Oper} {mds:List Nat} {KE:Env→Mem→Prop} {e:Env} {m:Mem} {lv:LV} {le:LE} {i md id:Nat} {op:Op} {ty:TypeId} {pos:String} {af:Array Edge} (hid:mdom md=id) (hmd:isR md=true) (hm:m id=some le) (h:DomR P pr ro ⟨some i,op,ty,pos,af,.none⟩ (lev e) id le lv) (hr:LOpsM P pr ro ops (List.zip l mds) KE (e.put i lv) m):LOpsM P pr ro ops (List.zip (⟨some i,op,ty,pos,af,.none⟩ :: l) (md :: mds)) KE e m:=by
 subst hid
 have h1:1000≤md∧md<100000:=by simpa [isR] using hmd
 show LStepM P pr ro ops md _ _ e m
 unfold LStepM
 have hg:Go.L.gd ops ⟨some i,op,ty,pos,af,.none⟩ e=some true:=rfl
 rw [hg]
 simp only
 split
 ·omega
 ·omega
 ·omega
 ·omega
 ·rw [if_neg (by omega),if_pos h1.2]
  exact ⟨lv,le,hm,h,hr⟩
theorem mS {P:Program} {pr:Nat→Prop} {ro:List Nat} {ops:Array Oper} {l:List Oper} {mds:List Nat} {KE:Env→Mem→Prop} {e:Env} {m:Mem} {lv:LV} {le le':LE} {md id:Nat} {op:Op} {ty:TypeId} {pos:String} {af:Array Edge} (hid:mdom md=id) (hmd:(Nat.ble 100000 md && Nat.blt md 1000000000)=true) (hm:m id=some le) (h:∀ m0:Mem,m0 id=some le→∀ K':LV→Mem→Prop,K' lv (m0.put id le')→LOp P pr ro ⟨.none,op,ty,pos,af,.none⟩ (lev e) m0 K') (hr:LOpsM P pr ro ops (List.zip l mds) KE e (m.put id le')):LOpsM P pr ro ops (List.zip (⟨.none,op,ty,pos,af,.none⟩ :: l) (md :: mds)) KE e m:=by
 subst hid
 have h1:100000≤md∧md<1000000000:=by simpa using hmd
 show LStepM P pr ro ops md _ _ e m
 unfold LStepM
 have hg:Go.L.gd ops ⟨.none,op,ty,pos,af,.none⟩ e=some true:=rfl
 rw [hg]
 simp only
 split
 ·omega
 ·omega
 ·omega
 ·omega
 ·rw [if_neg (by omega),if_neg (by omega),if_pos h1.2]
  refine ⟨lv,le,le',hm,fun m0 h0 K' hK=>h m0 h0 K' (by rw [← over_one]; exact hK),?_⟩
  rw [over_one]; exact hr
theorem mFt {P:Program} {pr:Nat→Prop} {ro:List Nat} {ops:Array Oper} {l:List Oper} {mds:List Nat} {KE:Env→Mem→Prop} {e:Env} {m m':Mem} {lv:LV} {i md:Nat} {op:Op} {ty:TypeId} {pos:String} {af:Array Edge} (hmd:Nat.ble 1000000000 md=true) (h:Foot P pr ⟨some i,op,ty,pos,af,.none⟩ (lev e) (fpt md) m lv m') (hr:LOpsM P pr ro ops (List.zip l mds) KE (e.put i lv) m'):LOpsM P pr ro ops (List.zip (⟨some i,op,ty,pos,af,.none⟩ :: l) (md :: mds)) KE e m:=by
 have h1:1000000000≤md:=by simpa using hmd
 show LStepM P pr ro ops md _ _ e m
 unfold LStepM
 have hg:Go.L.gd ops ⟨some i,op,ty,pos,af,.none⟩ e=some true:=rfl
 rw [hg]
 simp only
 split
 ·omega
 ·omega
 ·omega
 ·omega
 ·rw [if_neg (by omega),if_neg (by omega),if_neg (by omega)]
  exact ⟨lv,m',h,hr⟩
theorem mM {P:Program} {pr:Nat→Prop} {ro:List Nat} {ops:Array Oper} {l:List Oper} {mds:List Nat} {KE:Env→Mem→Prop} {e:Env} {m:Mem} {lv:LV} {i:Nat} {op:Op} {ty:TypeId} {pos:String} {af:Array Edge} (h:∀ m0,OpOkR P pr ⟨some i,op,ty,pos,af,.none⟩ (lev e) m0 lv m0) (hr:LOpsM P pr ro ops (List.zip l mds) KE (e.put i lv) m):LOpsM P pr ro ops (List.zip (⟨some i,op,ty,pos,af,.none⟩ :: l) (4 :: mds)) KE e m:=⟨lv,h,hr⟩
def Env.look (e:Env):List (Nat × LV)→List (Nat × LV)
 | []=>[]
 | (i,_) :: r=>(i,e i) :: Env.look e r
def Mem.look (m:Mem):List (Nat × LE)→List (Nat × Option LE)
 | []=>[]
 | (i,_) :: r=>(i,m i) :: Mem.look m r
def LEs:List (Nat × LE)→List (Nat × Option LE)
 | []=>[]
 | (i,x) :: r=>(i,some x) :: LEs r
theorem look_eq {e:Env}:∀ {el:List (Nat × LV)},Env.look e el=el→EnvEq e el
 | [],_=>trivial
 | (i,v) :: r,h=>by
  simp only [Env.look,List.cons.injEq,Prod.mk.injEq,true_and] at h
  exact ⟨h.1,look_eq h.2⟩
theorem mlook_eq {m:Mem}:∀ {ml:List (Nat × LE)},Mem.look m ml=LEs ml→MemIs m ml
 | [],_=>trivial
 | (i,v) :: r,h=>by
  simp only [Mem.look,LEs,List.cons.injEq,Prod.mk.injEq,true_and] at h
  exact ⟨h.1,mlook_eq h.2⟩
theorem Wk.eq {ml0 ml:List (Nat × LE)} {el:List (Nat × LV)} {e:Env} {m:Mem} (he:Env.look e el=el) (hm:Mem.look m ml=LEs ml) (hr:keptRefs (el.map fun p=>(p.1,e p.1)) ml=true) (hpr:(ml0.all fun p=>ml.any fun q=>q.1 == p.1)=true):Wk (fun id=>Mem.of ml0 id ≠ .none) e m (Env.of el) (Mem.of ml):=Wk.to (eQ (look_eq he)) (mlook_eq hm) hr (prK hpr)
theorem zS {P:Program} {N:Nat} {ops:Array Oper} {ml0 ml:List (Nat × LE)} {el:List (Nat × LV)} {e:Env} {m:Mem} (he:Env.look e el=el:=by exact rfl) (hm:Mem.look m ml=LEs ml:=by exact rfl) (hr:keptRefs (el.map fun p=>(p.1,e p.1)) ml=true:=by exact rfl) (hpr:(ml0.all fun p=>ml.any fun q=>q.1 == p.1)=true:=by exact rfl):SOps P N (fun id=>Mem.of ml0 id ≠ .none) ops [] (fun e m=>Wk (fun id=>Mem.of ml0 id ≠ .none) e m (Env.of el) (Mem.of ml)) e m:=s0 (Wk.eq he hm hr hpr)
theorem zM {P:Program} {ro:List Nat} {ops:Array Oper} {ml0 ml:List (Nat × LE)} {el:List (Nat × LV)} {e:Env} {m:Mem} (he:Env.look e el=el:=by exact rfl) (hm:Mem.look m ml=LEs ml:=by exact rfl) (hr:keptRefs (el.map fun p=>(p.1,e p.1)) ml=true:=by exact rfl) (hpr:(ml0.all fun p=>ml.any fun q=>q.1 == p.1)=true:=by exact rfl):LOpsM P (fun id=>Mem.of ml0 id ≠ .none) ro ops (List.zip [] []) (fun e m=>Wk (fun id=>Mem.of ml0 id ≠ .none) e m (Env.of el) (Mem.of ml)) e m:=m0 (Wk.eq he hm hr hpr)
theorem R {α:Type} {a:α}:a=a:=rfl
theorem aT {α:Type} {a b:Array α} (h:a=b):a.toList=b.toList:=congrArg Array.toList h
theorem oI {α:Type} {a b:α} (h:some a=some b):a=b:=Option.some.inj h
theorem nT {a b n:Nat} (h:n=b) (h2:Nat.ble a b=true):a≤n:=by rw [h]; exact Nat.le_of_ble_eq_true h2
theorem cB {a b:Bool} (h:a=b):LV.bool a=LV.bool b:=congrArg LV.bool h
theorem roundI {pr:Nat→Prop} {I:Nat→Env→Mem→Prop} {n:Nat} {Q:Exit→Env→Mem→Prop} {e e':Env} {m m':Mem} (h:I n e' m') (hw:Wk pr e m e' m'):roundQ pr I (n+1) Q .normal e m:=roundN hw h
section
variable {P:Program} {N:Nat} {pr:Nat→Prop} {ops:Array Oper} {l:List Oper} {KE:Env→Mem→Prop} {e:Env} {m:Mem} {i:Nat} {x:Operand} {ty:TypeId} {pos:String} {af:Array Edge}
theorem sMi {k:IntKind} {n:Int} (h:lev e x=(.int k n)) (hr:SOps P N pr ops l KE (e.put i (.int k n)) m):SOps P N pr ops (⟨some i,.move x,ty,pos,af,.none⟩ :: l) KE e m:=sN (oM h hr)
theorem sMb {b:Bool} (h:lev e x=(.bool b)) (hr:SOps P N pr ops l KE (e.put i (.bool b)) m):SOps P N pr ops (⟨some i,.move x,ty,pos,af,.none⟩ :: l) KE e m:=sN (oM h hr)
theorem sMn  (h:lev e x=.nil) (hr:SOps P N pr ops l KE (e.put i .nil) m):SOps P N pr ops (⟨some i,.move x,ty,pos,af,.none⟩ :: l) KE e m:=sN (oM h hr)
theorem sMl {k:Nat} {xs:List LV} (h:lev e x=(.lst k xs)) (hr:SOps P N pr ops l KE (e.put i (.lst k xs)) m):SOps P N pr ops (⟨some i,.move x,ty,pos,af,.none⟩ :: l) KE e m:=sN (oM h hr)
theorem sMa {id n:Nat} (h:lev e x=(.arr id n)) (hr:SOps P N pr ops l KE (e.put i (.arr id n)) m):SOps P N pr ops (⟨some i,.move x,ty,pos,af,.none⟩ :: l) KE e m:=sN (oM h hr)
theorem sMp {id o:Nat} (h:lev e x=(.ptr id o)) (hr:SOps P N pr ops l KE (e.put i (.ptr id o)) m):SOps P N pr ops (⟨some i,.move x,ty,pos,af,.none⟩ :: l) KE e m:=sN (oM h hr)
theorem sMt {cs:List LV} (h:lev e x=(.tup cs)) (hr:SOps P N pr ops l KE (e.put i (.tup cs)) m):SOps P N pr ops (⟨some i,.move x,ty,pos,af,.none⟩ :: l) KE e m:=sN (oM h hr)
theorem sAi {k:IntKind} {n:Int} (h:lev e x=(.int k n)) (hr:SOps P N pr ops l KE (e.put i (.int k n)) m):SOps P N pr ops (⟨some i,.assign x,ty,pos,af,.none⟩ :: l) KE e m:=sN (oA h hr)
theorem sAb {b:Bool} (h:lev e x=(.bool b)) (hr:SOps P N pr ops l KE (e.put i (.bool b)) m):SOps P N pr ops (⟨some i,.assign x,ty,pos,af,.none⟩ :: l) KE e m:=sN (oA h hr)
theorem sAn  (h:lev e x=.nil) (hr:SOps P N pr ops l KE (e.put i .nil) m):SOps P N pr ops (⟨some i,.assign x,ty,pos,af,.none⟩ :: l) KE e m:=sN (oA h hr)
theorem sAl {k:Nat} {xs:List LV} (h:lev e x=(.lst k xs)) (hr:SOps P N pr ops l KE (e.put i (.lst k xs)) m):SOps P N pr ops (⟨some i,.assign x,ty,pos,af,.none⟩ :: l) KE e m:=sN (oA h hr)
theorem sAa {id n:Nat} (h:lev e x=(.arr id n)) (hr:SOps P N pr ops l KE (e.put i (.arr id n)) m):SOps P N pr ops (⟨some i,.assign x,ty,pos,af,.none⟩ :: l) KE e m:=sN (oA h hr)
theorem sAp {id o:Nat} (h:lev e x=(.ptr id o)) (hr:SOps P N pr ops l KE (e.put i (.ptr id o)) m):SOps P N pr ops (⟨some i,.assign x,ty,pos,af,.none⟩ :: l) KE e m:=sN (oA h hr)
end
section
variable {P:Program} {pr:Nat→Prop} {ro:List Nat} {ops:Array Oper} {l:List Oper} {mds:List Nat} {KE:Env→Mem→Prop} {e:Env} {m:Mem} {i:Nat} {x:Operand} {ty:TypeId} {pos:String} {af:Array Edge}
theorem mMi {k:IntKind} {n:Int} (h:lev e x=(.int k n)) (hr:LOpsM P pr ro ops (List.zip l mds) KE (e.put i (.int k n)) m):LOpsM P pr ro ops (List.zip (⟨some i,.move x,ty,pos,af,.none⟩ :: l) (0 :: mds)) KE e m:=mN0 (oM h ⟨rfl,hr⟩)
theorem mAi {k:IntKind} {n:Int} (h:lev e x=(.int k n)) (hr:LOpsM P pr ro ops (List.zip l mds) KE (e.put i (.int k n)) m):LOpsM P pr ro ops (List.zip (⟨some i,.assign x,ty,pos,af,.none⟩ :: l) (0 :: mds)) KE e m:=mN0 (oA h ⟨rfl,hr⟩)
theorem mMb {b:Bool} (h:lev e x=(.bool b)) (hr:LOpsM P pr ro ops (List.zip l mds) KE (e.put i (.bool b)) m):LOpsM P pr ro ops (List.zip (⟨some i,.move x,ty,pos,af,.none⟩ :: l) (0 :: mds)) KE e m:=mN0 (oM h ⟨rfl,hr⟩)
theorem mAb {b:Bool} (h:lev e x=(.bool b)) (hr:LOpsM P pr ro ops (List.zip l mds) KE (e.put i (.bool b)) m):LOpsM P pr ro ops (List.zip (⟨some i,.assign x,ty,pos,af,.none⟩ :: l) (0 :: mds)) KE e m:=mN0 (oA h ⟨rfl,hr⟩)
theorem mMn  (h:lev e x=.nil) (hr:LOpsM P pr ro ops (List.zip l mds) KE (e.put i .nil) m):LOpsM P pr ro ops (List.zip (⟨some i,.move x,ty,pos,af,.none⟩ :: l) (0 :: mds)) KE e m:=mN0 (oM h ⟨rfl,hr⟩)
theorem mAn  (h:lev e x=.nil) (hr:LOpsM P pr ro ops (List.zip l mds) KE (e.put i .nil) m):LOpsM P pr ro ops (List.zip (⟨some i,.assign x,ty,pos,af,.none⟩ :: l) (0 :: mds)) KE e m:=mN0 (oA h ⟨rfl,hr⟩)
theorem mMl {k:Nat} {xs:List LV} (h:lev e x=(.lst k xs)) (hr:LOpsM P pr ro ops (List.zip l mds) KE (e.put i (.lst k xs)) m):LOpsM P pr ro ops (List.zip (⟨some i,.move x,ty,pos,af,.none⟩ :: l) (0 :: mds)) KE e m:=mN0 (oM h ⟨rfl,hr⟩)
theorem mAl {k:Nat} {xs:List LV} (h:lev e x=(.lst k xs)) (hr:LOpsM P pr ro ops (List.zip l mds) KE (e.put i (.lst k xs)) m):LOpsM P pr ro ops (List.zip (⟨some i,.assign x,ty,pos,af,.none⟩ :: l) (0 :: mds)) KE e m:=mN0 (oA h ⟨rfl,hr⟩)
theorem mMa {id n:Nat} (h:lev e x=(.arr id n)) (hr:LOpsM P pr ro ops (List.zip l mds) KE (e.put i (.arr id n)) m):LOpsM P pr ro ops (List.zip (⟨some i,.move x,ty,pos,af,.none⟩ :: l) (0 :: mds)) KE e m:=mN0 (oM h ⟨rfl,hr⟩)
theorem mAa {id n:Nat} (h:lev e x=(.arr id n)) (hr:LOpsM P pr ro ops (List.zip l mds) KE (e.put i (.arr id n)) m):LOpsM P pr ro ops (List.zip (⟨some i,.assign x,ty,pos,af,.none⟩ :: l) (0 :: mds)) KE e m:=mN0 (oA h ⟨rfl,hr⟩)
theorem mMp {id o:Nat} (h:lev e x=(.ptr id o)) (hr:LOpsM P pr ro ops (List.zip l mds) KE (e.put i (.ptr id o)) m):LOpsM P pr ro ops (List.zip (⟨some i,.move x,ty,pos,af,.none⟩ :: l) (0 :: mds)) KE e m:=mN0 (oM h ⟨rfl,hr⟩)
theorem mAp {id o:Nat} (h:lev e x=(.ptr id o)) (hr:LOpsM P pr ro ops (List.zip l mds) KE (e.put i (.ptr id o)) m):LOpsM P pr ro ops (List.zip (⟨some i,.assign x,ty,pos,af,.none⟩ :: l) (0 :: mds)) KE e m:=mN0 (oA h ⟨rfl,hr⟩)
theorem mMs {cs:List LV} (h:lev e x=(.sptr cs)) (hr:LOpsM P pr ro ops (List.zip l mds) KE (e.put i (.sptr cs)) m):LOpsM P pr ro ops (List.zip (⟨some i,.move x,ty,pos,af,.none⟩ :: l) (0 :: mds)) KE e m:=mN0 (oM h ⟨rfl,hr⟩)
theorem mAs {cs:List LV} (h:lev e x=(.sptr cs)) (hr:LOpsM P pr ro ops (List.zip l mds) KE (e.put i (.sptr cs)) m):LOpsM P pr ro ops (List.zip (⟨some i,.assign x,ty,pos,af,.none⟩ :: l) (0 :: mds)) KE e m:=mN0 (oA h ⟨rfl,hr⟩)
theorem mMg {cs:List LV} (h:lev e x=(.agg cs)) (hr:LOpsM P pr ro ops (List.zip l mds) KE (e.put i (.agg cs)) m):LOpsM P pr ro ops (List.zip (⟨some i,.move x,ty,pos,af,.none⟩ :: l) (0 :: mds)) KE e m:=mN0 (oM h ⟨rfl,hr⟩)
theorem mAg {cs:List LV} (h:lev e x=(.agg cs)) (hr:LOpsM P pr ro ops (List.zip l mds) KE (e.put i (.agg cs)) m):LOpsM P pr ro ops (List.zip (⟨some i,.assign x,ty,pos,af,.none⟩ :: l) (0 :: mds)) KE e m:=mN0 (oA h ⟨rfl,hr⟩)
theorem mMt {cs:List LV} (h:lev e x=(.tup cs)) (hr:LOpsM P pr ro ops (List.zip l mds) KE (e.put i (.tup cs)) m):LOpsM P pr ro ops (List.zip (⟨some i,.move x,ty,pos,af,.none⟩ :: l) (0 :: mds)) KE e m:=mN0 (oM h ⟨rfl,hr⟩)
theorem mAt {cs:List LV} (h:lev e x=(.tup cs)) (hr:LOpsM P pr ro ops (List.zip l mds) KE (e.put i (.tup cs)) m):LOpsM P pr ro ops (List.zip (⟨some i,.assign x,ty,pos,af,.none⟩ :: l) (0 :: mds)) KE e m:=mN0 (oA h ⟨rfl,hr⟩)
theorem mMf {k:Nat} {cs:List LV} (h:lev e x=(.fn k cs)) (hr:LOpsM P pr ro ops (List.zip l mds) KE (e.put i (.fn k cs)) m):LOpsM P pr ro ops (List.zip (⟨some i,.move x,ty,pos,af,.none⟩ :: l) (0 :: mds)) KE e m:=mN0 (oM h ⟨rfl,hr⟩)
theorem mAf {k:Nat} {cs:List LV} (h:lev e x=(.fn k cs)) (hr:LOpsM P pr ro ops (List.zip l mds) KE (e.put i (.fn k cs)) m):LOpsM P pr ro ops (List.zip (⟨some i,.assign x,ty,pos,af,.none⟩ :: l) (0 :: mds)) KE e m:=mN0 (oA h ⟨rfl,hr⟩)
end
structure FnV (α:Type) where
 f:Nat
 c:List LV
 m:Option α
 hc:LV.pureL c=true
instance {α:Type}:Inhabited (FnV α):=⟨⟨0,[],.none,rfl⟩⟩
theorem FnV.refs {α:Type} (x:FnV α):LV.refsL x.c=[]:=refsL_pure x.hc
end Go.L
set_option linter.unusedVariables false
set_option linter.unusedSimpArgs false
namespace Go.L
variable {P:Program} {d:Nat} {t:TypeId}
def EqRun (P:Program) (d:Nat) (t:TypeId) (v u:Value) (b:Bool):Prop:=∀ w,(Op.equalIn d t v u).run P w=.ok b w
def EqFs (P:Program) (d:Nat) (xs ys:Array Value) (fs:List Field) (b:Bool):Prop:=∀ w,(Op.eqFields d xs ys fs).run P w=.ok b w
theorem eqI {k:IntKind} {a b:Int} (h:P.underlying t=some (.int k)):EqRun P (d+1) t (.int k a) (.int k b) (a == b):=fun w=>run_equalIn_int w d t k k a b h
theorem eqS {xs ys:Array Value} {b:Bool} (hS:P.underlying t=some (.struct (P.fieldsOf t))) (hp:P.stoodInHeld t=false) (h:EqFs P d xs ys (P.fieldsOf t).toList b):EqRun P (d+1) t (.agg xs) (.agg ys) b:=fun w=>(run_equalIn_agg w d t xs ys hS hp).trans (h w)
theorem eqN {xs ys:Array Value}:EqFs P d xs ys [] true:=fun w=>by simp [Op.eqFields]
theorem eqC {xs ys : Array Value} {f : Field} {fs : List Field} {v u : Value} {b c : Bool} (hn : (f.name != "_") = true) (hv : ∀ w, (part f.type xs f.offset).run P w = .ok v w) (hu : ∀ w, (part f.type ys f.offset).run P w = .ok u w) (he : EqRun P d f.type v u b) (hr : EqFs P d xs ys fs c) : EqFs P d xs ys (f :: fs) (b && c) := fun w => by
 have hn' : f.name ≠ "_" := by simpa using hn
 simp only [Op.eqFields,hn',ne_eq,not_false_eq_true,if_true,Sem.run_bind,hv,hu,Result.andThen_ok,he w,Sem.run_ite]
 cases b with
 | false=>simp
 | true=>simp [hr w]
theorem eqT {xs ys:List LV} {vs us:List Value} {b c:Bool} (hg:P.eqGuardType P.depth t=false) (hx:exactL xs=some vs) (hy:exactL ys=some us) (h:EqRun P Op.maxDepth t (.agg vs.toArray) (.agg us.toArray) b) (hc:b=c):AggEq P t xs ys c:=⟨hg,vs,us,hx,hy,fun w=>hc ▸ h w⟩
end Go.L
set_option linter.unusedVariables false
set_option linter.unusedSimpArgs false
namespace Go.L
section
variable {P:Program} {pr:Nat→Prop} {m m':Mem} {lv:LV} {o:Oper} {e:Env} {ev:Operand→LV}
def Env.only (e:Env) (sl:List Nat):Env:=fun i=>if sl.contains i then e i else .und
theorem OpOk.toR (sl:List Nat) (hs:∀ i ∈ sl,Operand.tmp i ∈ o.op.operands) (h:OpOk P pr o (lev (e.only sl)) m lv m'):OpOkR P pr o (lev e) m lv m':=by
 intro c a Q hev hm
 refine h c a Q (fun x=>?_) hm
 cases x with
 | tmp t =>
  simp only [lev,Env.only]
  by_cases ht:sl.contains t=true
  ·simp only [ht,if_true]; exact hev (.tmp t) (hs t (by simpa using ht))
  ·simp only [ht,if_false,RepV]; simp [RepV]
 | const v=>exact repV_ofV c v
 | global g=>simp [lev,RepV]
 | func f=>simp only [lev,Act.eval,RepV]; exact ⟨[],rfl,by simp [RepL]⟩
theorem OpOkR.frz {id n k:Nat} {el:TypeId} {α:Type} {f:α→LV} {xs:List α} (hp:∀ x ∈ o.op.operands,(ev x).pure=true) (h:OpOkR P (fun _=>False) o ev Mem.none (.arr id n) (Mem.none.put id (.arr el k (xs.map f)))) (hn:n=xs.length) (m0:Mem):OpOkR P pr o ev m0 (.lst k (xs.map f)) m0:=by
 intro c a Q hev hm
 let c1:Cx:=⟨c.w,fun _=>.none,c.X⟩
 have hno:∀ b,¬ c1.own b:=by rintro b ⟨i,be,hb,_⟩; cases hb
 have hle1:c.Le c1:=⟨Nat.le_refl _,fun b _ hX=>⟨rfl,fun hX'=>hX'.elim hX (hno b)⟩⟩
 have hXlt:∀ b,c.X b→b<c.w.heap.size:=fun b hb=>hb.elim (hm.Olt b) (hm.own_lt)
 have hm1:RepM c1 Mem.none:=⟨fun i=>by simp [Mem.none,RepE,c1],(fun i i' be be' b h1=>by cases h1),fun b hb=>(hno b hb).elim,hXlt⟩
 have hev1:∀ x ∈ o.op.operands,RepV c1 (ev x) (a.eval x):=fun x hx=>RepV.mono hle1 _ _ (fun id hid=>by rw [noref_of_pure _ (hp x hx)] at hid; cases hid) (hev x hx)
 refine Oper.wp_mono ?_ (h c1 a Q hev1 hm1)
 rintro a' w' ⟨v,c',ha,rfl,hv,hm',hst⟩
 obtain ⟨us,hB,hk,hown,hl,hc,hpu⟩:=arr_now (e:=el) (k:=k) (xs:=xs.map f) hm' hv (by simp [Mem.put]) (by simpa using hn)
 have hold:∀ b,b<c.w.heap.size→c'.w.heap[b]?=c.w.heap[b]?:=fun b hb=>hst.grow.keep b hb (hno b)
 have hnew:∀ b,c'.own b→c.w.heap.size≤b:=fun b hb=>(hst.grow.own b hb).elim (fun h=>(hno b h).elim) (fun h=>h)
 let c2:Cx:=⟨c'.w,c.B,c.O⟩
 have hle2:c.Le c2:=⟨hst.grow.size,fun b hb hX=>⟨hold b hb,hX⟩⟩
 have hm2:RepM c2 m0:=⟨fun i=>RepE.mono hle2 (fun _=>BLe.refl _) (fun be b hbe hb=>hold b ((hm.ent i).lt hbe hb)) (hm.ent i),hm.inj,hm.notO,fun b hb=>Nat.lt_of_lt_of_le (hm.Olt b hb) hst.grow.size⟩
 have hle3:c'.Le c2:=by
  refine ⟨Nat.le_refl _,fun b _ hX=>⟨rfl,fun hX'=>hX (.inl ?_)⟩⟩
  rw [hst.grow.O]; exact hX'
 refine ⟨v,c2,ha,rfl,?_,hm2,⟨⟨rfl,hst.grow.os,hst.grow.tape,hst.grow.output,hst.grow.drawn,hst.grow.size,fun b hb _=>hold b hb,fun b hb=>.inl hb,fun i be _ hb=>⟨be,hb,.refl be⟩⟩,fun _=>BLe.refl _⟩⟩
 simp only [RepV]
 have hl':=RepL.mono hle3 (xs.map f) us (fun j hj=>by rw [norefL_of_pureL _ hpu] at hj; cases hj) hl
 rcases hown.2 with ⟨rfl,h0⟩ | ⟨g,cap,cur,rfl,_,hg',hnc,_⟩
 ·exact ⟨.none,0,by rw [h0],by omega,fun _=>rfl,hpu,.inl (List.eq_nil_of_length_eq_zero h0)⟩
 ·refine ⟨some ⟨g,0,.none⟩,cap,rfl,hnc,by simp,hpu,.inr ⟨g,0,us,rfl,(Array.getElem?_eq_some_iff.1 hg').1,fun hX=>?_,hl',hc,rangeAt_own hown rfl⟩⟩
  have h1:=hnew g ⟨id,_,hB,.inl rfl⟩
  exact absurd (hXlt g hX) (Nat.not_lt.2 h1)
end
section
variable {P:Program} {pr:Nat→Prop} {m:Mem} {ev:Operand→LV} {α β:Type} {f:α→LV} {g:β→LV} {d:Option Nat} {x y:Operand} {t ty:TypeId} {pos:String} {af:Array Edge} {gd:Option (Nat × Bool)}
end
end Go.L
set_option linter.unusedVariables false
set_option linter.unusedSimpArgs false
namespace Go.L
theorem sorted_eq' {α:Type} {cf:α→α→Int} {ys zs:List α} (hp:zs.Perm ys) (hy:ys.Pairwise fun a b=>cf a b<0) (hz:zs.Pairwise fun a b=>¬ cf b a<0):zs=ys:=by
 induction ys generalizing zs with
 | nil=>exact hp.eq_nil
 | cons y ys ih =>
  obtain ⟨hy1,hy2⟩:=List.pairwise_cons.1 hy
  cases zs with
  | nil=>exact absurd hp.symm.eq_nil (by simp)
  | cons z zs =>
   obtain ⟨hz1,hz2⟩:=List.pairwise_cons.1 hz
   have hzy:z=y:=by
    rcases List.mem_cons.1 (hp.mem_iff.1 (List.mem_cons_self)) with h | h
    ·exact h
    ·have h1:=hy1 z h
     rcases List.mem_cons.1 (hp.mem_iff.2 (List.mem_cons_self:y ∈ y :: ys)) with h2 | h2
     ·exact h2.symm
     ·exact absurd h1 (hz1 y h2)
   subst hzy
   rw [ih (List.Perm.cons_inv hp) hy2 hz2]
def SortTo {α:Type} (c:α→α→Option Int) (xs ys:List α):Prop :=
 ys.Perm xs∧xs.length<1000000∧∃ cf:α→α→Int,(∀ x ∈ xs,∀ y ∈ xs,c x y=some (cf x y))∧(∀ x ∈ xs,¬ cf x x<0)∧(∀ x ∈ xs,∀ y ∈ xs,∀ z ∈ xs,cf x y<0→cf y z<0→cf x z<0) ∧
  (∀ x ∈ xs,∀ y ∈ xs,∀ z ∈ xs,¬ cf x y<0→¬ cf y z<0→¬ cf x z<0)∧ys.Pairwise fun a b=>cf a b<0
theorem SortTo.unique {α:Type} {c:α→α→Option Int} {xs ys zs:List α} (h:SortTo c xs ys) (h':SortTo c xs zs):ys=zs:=by
 obtain ⟨hp,_,cf,hc,_,ht,_,hs⟩:=h
 obtain ⟨hp',_,cf',hc',hi',_,_,hs'⟩:=h'
 refine sorted_eq' (cf:=cf') (hp.trans hp'.symm) hs' ?_
 refine List.Pairwise.imp_of_mem ?_ hs
 intro a b ha hb hab hba
 have ma:=hp.mem_iff.1 ha
 have mb:=hp.mem_iff.1 hb
 have h1:cf' b a=cf b a:=by have:=hc b mb a ma; rw [hc' b mb a ma] at this; exact Option.some.inj this
 have h2:cf' a a=cf a a:=by have:=hc a ma a ma; rw [hc' a ma a ma] at this; exact Option.some.inj this
 rw [h1] at hba
 exact hi' a ma (by rw [h2]; exact ht a ma b mb a ma hab hba)
open Classical in
noncomputable def sortF {α:Type} (c:α→α→Option Int) (xs:List α):Option (List α):=if h:∃ ys,SortTo c xs ys then some h.choose else .none
theorem sortF_eq {α:Type} {c:α→α→Option Int} {xs ys:List α} (h:SortTo c xs ys):sortF c xs=some ys:=by
 have hx:∃ ys,SortTo c xs ys:=⟨ys,h⟩
 unfold sortF
 rw [dif_pos hx]
 exact congrArg some (hx.choose_spec.unique h)
theorem sortF_to {α:Type} {c:α→α→Option Int} {xs ys:List α} (h:sortF c xs=some ys):SortTo c xs ys:=by
 unfold sortF at h
 split at h
 ·rename_i hx; cases h; exact hx.choose_spec
 ·cases h
theorem sortF_len {α:Type} {c:α→α→Option Int} {xs ys:List α} (h:sortF c xs=some ys):xs.length=ys.length:=(sortF_to h).1.length_eq.symm
end Go.L
set_option linter.unusedVariables false
set_option linter.unusedSimpArgs false
namespace Go.L
open Go.Sort Go.Proofs Go.Shelf Go.Lib

theorem sorted_eq {α:Type} {cf:α→α→Int} {ys zs:List α} (hp:zs.Perm ys) (hy:ys.Pairwise fun a b=>cf a b<0) (hz:zs.Pairwise fun a b=>¬ cf b a<0):zs=ys:=by
 induction ys generalizing zs with
 | nil=>exact hp.eq_nil
 | cons y ys ih =>
  obtain ⟨hy1,hy2⟩:=List.pairwise_cons.1 hy
  cases zs with
  | nil=>exact absurd hp.symm.eq_nil (by simp)
  | cons z zs =>
   obtain ⟨hz1,hz2⟩:=List.pairwise_cons.1 hz
   have hzy:z=y:=by
    rcases List.mem_cons.1 (hp.mem_iff.1 (List.mem_cons_self)) with h | h
    ·exact h
    ·have h1:=hy1 z h
     rcases List.mem_cons.1 (hp.mem_iff.2 (List.mem_cons_self:y ∈ y :: ys)) with h2 | h2
     ·exact h2.symm
     ·exact absurd h1 (hz1 y h2)
   subst hzy
   rw [ih (List.Perm.cons_inv hp) hy2 hz2]

theorem grow_of {w w':World} (hos:w'.os=w.os) (ht:w'.tape=w.tape) (ho:w'.output=w.output) (hd:w.drawn≤w'.drawn) (hs:w.heap.size≤w'.heap.size) (hk:∀ b,b<w.heap.size→w'.heap[b]?=w.heap[b]?) :
  w'=grow (w.drewN (w'.drawn - w.drawn)) (w'.heap.extract w.heap.size w'.heap.size):=by
 obtain ⟨h',t',d',o',p'⟩:=w'
 obtain ⟨h,t,d,o,p⟩:=w
 simp only at hos ht ho hd hs hk
 subst hos; subst ht; subst ho
 simp only [grow,World.drewN,World.mk.injEq,true_and,and_true]
 refine ⟨?_,by omega⟩
 apply Array.ext_getElem?
 intro i
 rw [Array.getElem?_append]
 split
 ·rename_i hi; exact hk i hi
 ·rename_i hi
  rw [Array.getElem?_extract]
  by_cases hi':i<h'.size
  ·rw [if_pos (by omega)]; congr 1; omega
  ·rw [if_neg (by omega),Array.getElem?_eq_none (by omega)]

theorem nums_exact {c:Cx} {α:Type} (en:α→Int):∀ {xs:List α} {us:List Value},RepL c (xs.map fun x=>LV.int .i64 (en x)) us→us=xs.map fun x=>Value.int .i64 (en x)
 | [],us,h=>by simpa [RepL] using h
 | x :: xs,us,h=>by
  simp only [List.map_cons,RepL] at h
  obtain ⟨v,vs,rfl,h1,h2⟩:=h
  simp only [RepV] at h1
  rw [h1,nums_exact en h2]; rfl
theorem nums_rep {c:Cx} {α:Type} (en:α→Int):∀ (xs:List α),RepL c (xs.map fun x=>LV.int .i64 (en x)) (xs.map fun x=>Value.int .i64 (en x))
 | []=>by simp [RepL]
 | x :: xs=>by simp only [List.map_cons,RepL]; exact ⟨_,_,rfl,by simp [RepV],nums_rep en xs⟩
theorem flat_ints {α:Type} (en:α→Int):∀ (xs:List α),flat (xs.map fun x=>Value.int .i64 (en x))=xs.map fun x=>Value.int .i64 (en x)
 | []=>rfl
 | x :: xs=>by rw [List.map_cons,flat_cons,flat_ints en xs]; rfl

theorem pure_ints {α:Type} (en:α→Int):∀ (xs:List α),LV.pureL (xs.map fun x=>LV.int .i64 (en x))=true
 | []=>rfl
 | x :: xs=>by simp only [List.map_cons,LV.pureL,LV.pure,pure_ints en xs,Bool.and_self]

theorem sw_os {α:Type} [Inhabited α] (enc:α→Value) (w:World) (blk m:Nat) (d:Array α) (os:Array Obj):(sortWorld enc w blk 0 m d os).os=w.os∧(sortWorld enc w blk 0 m d os).tape=w.tape∧(sortWorld enc w blk 0 m d os).output=w.output∧w.drawn≤(sortWorld enc w blk 0 m d os).drawn∧w.heap.size≤(sortWorld enc w blk 0 m d os).heap.size:=by
 refine ⟨rfl,rfl,rfl,Nat.le_add_right _ _,?_⟩
 simp [sortWorld,grow,putRow,mapBlock,ahead]
theorem sw_keep {α:Type} [Inhabited α] (enc:α→Value) (w:World) (blk m:Nat) (d:Array α) (os:Array Obj) (b:Nat) (hb:b<w.heap.size) (hne:b ≠ blk):(sortWorld enc w blk 0 m d os).heap[b]?=w.heap[b]?:=by
 simp only [sortWorld,grow,putRow,mapBlock,ahead]
 rw [Array.getElem?_append_left (by simpa using hb),Array.getElem?_modify]
 simp [Ne.symm hne]
theorem sw_at {α:Type} [Inhabited α] (enc:α→Value) (w:World) (blk m:Nat) (d:Array α) (os:Array Obj) {cur:Array Value} {e:TypeId} {z:Nat × Nat} (hg:w.heap[blk]?=some (.cells cur e z)):(sortWorld enc w blk 0 m d os).heap[blk]?=some (.cells (putCells enc 0 d cur) e z):=by
 have hb:blk<w.heap.size:=(Array.getElem?_eq_some_iff.1 hg).1
 simp only [sortWorld,grow,putRow,mapBlock,ahead]
 rw [Array.getElem?_append_left (by simpa using hb),Array.getElem?_modify]
 simp [hg,onCells]

theorem sortInts {P:Program} {ρ:Ren} (L:SlLaysF.n6 P ρ) {α:Type} (en:α→Int) (cf:α→α→Int) (hO:SWO (ltOf cf)) (g:Nat) (cap:List LV) (hcap:LV.pureL cap=true)
  (eg:∀ args w,(callFunc g args).run P w=.ok (.enter g args) w) (hcmp:∀ x y,PCall P g ([.int .i64 (en x),.int .i64 (en y)]++cap) (.int .i64 (cf x y)))
  (xs ys:List α) (hperm:ys.Perm xs) (hsort:ys.Pairwise fun a b=>cf a b<0) (hlen:xs.length<1000000) (id e:Nat) :
  LCall P (ρ.f 6) [.arr id xs.length,.fn g cap] (Mem.of [(id,.arr e 1 (xs.map fun x=>.int .i64 (en x)))]) (.tup []) (Mem.of [(id,.arr e 1 (ys.map fun x=>.int .i64 (en x)))]):=by
 intro c vs hm ha
 simp only [RepL] at ha
 obtain ⟨v0,vs1,rfl,hv0,v1,vs2,rfl,hv1,rfl⟩:=ha
 obtain ⟨us,hB,hk,hown,hl,hc,hp⟩:=arr_now (e:=e) (k:=1) (xs:=xs.map fun x=>LV.int .i64 (en x)) hm hv0 (by simp [Mem.of]) (by simp)
 simp only [RepV] at hv1
 obtain ⟨cb,rfl,hcb⟩:=hv1
 have hus:=nums_exact en hl
 subst hus
 rw [flat_ints] at hown
 have hlenm:(xs.map fun x=>LV.int .i64 (en x)).length=xs.length:=by simp
 rw [hlenm] at hown hB
 by_cases hx0:xs=[]
 ·subst hx0
  have hy0:ys=[]:=hperm.eq_nil
  subst hy0
  obtain ⟨ad,cp,rfl⟩:=ownsRow_len hown
  refine (AnyF.slices_SortFunc_none { L with } ad cp (.func (.func g) #[] cb.toArray) c.w).mono ?_
  rintro en' w' ⟨rfl,rfl⟩
  exact ⟨_,c,rfl,rfl,hm,by simp only [RepV,RepL]; exact ⟨[],rfl,rfl⟩,Grow.refl _ c⟩
 ·haveI:Inhabited α:=⟨xs.head hx0⟩
  have hxl:0<xs.length:=List.length_pos_iff.2 hx0
  rcases hown.2 with ⟨rfl,h0⟩ | ⟨blk,cp,cur,rfl,_,hg,hnc,hcm,hcs,htk⟩
  ·omega
  ·have hblk : blk < c.w.heap.size := (Array.getElem?_eq_some_iff.1 hg).1
   have hcur:∀ j,j<xs.length→cur[j]?=some (.int .i64 (en xs[j]!)):=by
    intro j hj
    have h1:=congrArg (fun l=>l[j]?) htk
    simp only [List.getElem?_take,Nat.mul_one,List.getElem?_map] at h1
    rw [if_pos hj] at h1
    rw [← Array.getElem?_toList,h1]
    simp [hj]
   have hH:Holds (fun x=>Value.int .i64 (en x)) c.w blk 0 xs.toArray:=by
    intro j hj
    have hj':j<xs.length:=by simpa using hj
    constructor
    ·simp [World.cell?,hg,hcur j hj']
    ·simp [World.frozen?,hg]
   have hcmpL:CmpLays1 P g cb.toArray (fun x=>Value.int .i64 (en x)) cf blk 0 xs.toArray.size c.w:=by
    intro q os dk hdk x y
    obtain ⟨s1,s2,s3,s4,s5⟩:=sw_os (fun x=>Value.int .i64 (en x)) c.w blk q dk os
    have hkp:=sw_keep (fun x=>Value.int .i64 (en x)) c.w blk q dk os
    have hX:c.X blk:=.inr ⟨id,_,hB,by simp [BE.has,Value.ownBlock]⟩
    have hle:c.Le ⟨sortWorld (fun x=>Value.int .i64 (en x)) c.w blk 0 q dk os,fun _=>.none,c.X⟩:=by
     refine ⟨s5,fun b hb hx=>⟨hkp b hb (fun h=>hx (h ▸ hX)),?_⟩⟩
     rintro (h | ⟨_,_,h,_⟩)
     ·exact hx h
     ·cases h
    have hm0:RepM ⟨sortWorld (fun x=>Value.int .i64 (en x)) c.w blk 0 q dk os,fun _=>.none,c.X⟩ Mem.none:=by
     refine ⟨fun _=>by simp [RepE,Mem.none],(fun _ _ _ _ _ h=>by cases h),(fun b ⟨_,_,h,_⟩=>by cases h),fun b hb=>?_⟩
     rcases hb with hb | hb
     ·exact Nat.lt_of_lt_of_le (hm.Olt b hb) s5
     ·exact Nat.lt_of_lt_of_le (hm.own_lt hb) s5
    have hargs:RepL ⟨sortWorld (fun x=>Value.int .i64 (en x)) c.w blk 0 q dk os,fun _=>.none,c.X⟩ ([.int .i64 (en x),.int .i64 (en y)]++cap) ([.int .i64 (en x),.int .i64 (en y)]++cb):=by
     simp only [List.cons_append,List.nil_append,RepL]
     refine ⟨_,_,rfl,by simp [RepV],_,_,rfl,by simp [RepV],RepL.mono hle cap cb (fun j hj=>?_) hcb⟩
     rw [norefL_of_pureL cap hcap] at hj; cases hj
    have hcall:=hcmp x y _ _ hm0 hargs
    have hargsE:(([.int .i64 (en x),.int .i64 (en y)]++cb:List Value)).toArray=#[Value.int .i64 (en x),Value.int .i64 (en y)]++cb.toArray:=by simp
    rw [hargsE] at hcall
    refine hcall.mono ?_
    rintro en' w' ⟨v,c',rfl,rfl,_,hv,hgr⟩
    simp only [RepV] at hv
    refine ⟨by rw [hv],_,_,grow_of hgr.os hgr.tape hgr.output hgr.drawn hgr.size fun b hb=>hgr.keep b hb ?_⟩
    rintro ⟨_,_,h,_⟩
    cases h
   have hS:=Any.slices_SortFunc L (fun x=>Value.int .i64 (en x)) (fun _=>rfl) cf hO g cb.toArray blk 0 cp xs.toArray c.w eg hcmpL hH hblk (by simp; omega)
   simp only [List.size_toArray] at hS
   refine hS.mono ?_
   rintro en' w' ⟨rfl,d',q,os,hP,hSt,rfl⟩
   have hdsz:d'.size=xs.length:=by simpa using hP.1
   have hd':d'.toList=ys:=by
    have hp1:d'.toList.Perm xs:=by
     have:=hP.2.2
     simp only [List.size_toArray,Array.toList_extract,List.extract_eq_take_drop,Nat.sub_zero,List.drop_zero,List.take_length] at this
     rwa [List.take_of_length_le (by simp [hdsz])] at this
    refine sorted_eq (cf:=cf) (hp1.trans hperm.symm) hsort ?_
    rw [List.pairwise_iff_getElem]
    intro i j hi hj hij
    simp only [Array.length_toList] at hi hj
    have:=hSt i j (Nat.zero_le _) hij (by omega)
    simp only [ltOf,decide_eq_false_iff_not] at this
    rw [getElem!_pos d' j hj,getElem!_pos d' i hi] at this
    simpa using this
   obtain ⟨s1,s2,s3,s4,s5⟩:=sw_os (fun x=>Value.int .i64 (en x)) c.w blk q d' os
   have hkp:=sw_keep (fun x=>Value.int .i64 (en x)) c.w blk q d' os
   have hat:=sw_at (fun x=>Value.int .i64 (en x)) c.w blk q d' os hg
   have hyl:ys.length=xs.length:=hperm.length_eq
   obtain ⟨c',hw',hB',hm',hst⟩:=hm.upd (pr:=fun i=>Mem.of [(id,LE.arr e 1 (xs.map fun x=>LV.int .i64 (en x)))] i ≠ .none) id (.arr e 1 (ys.map fun x=>LV.int .i64 (en x))) _ (sortWorld (fun x=>Value.int .i64 (en x)) c.w blk 0 q d' os) s1 s2 s3 s4 s5 
    (fun b hb hn=>hkp b hb fun h=>hn _ hB (by rw [h]; simp [BE.has,Value.ownBlock]))
    (fun b hb=>.inl ⟨_,hB,hb⟩) (by rw [hB]; exact BLe.refl _) (fun _ be0 h=>by rw [hB] at h; cases h; exact .refl _) (by
     intro c1 hc1 hle1 hBl
     simp only [RepE]
     refine ⟨_,ys.map fun x=>Value.int .i64 (en x),by simp only [List.length_map,hyl]; rfl,by decide,?_,nums_rep en ys,?_,?_⟩
     ·rw [flat_ints,List.length_map,hyl,hc1]
      refine ⟨by simp [hyl],.inr ⟨blk,cp,_,rfl,Nat.zero_le _,hat,hnc,hcm,?_,?_⟩⟩
      ·simpa [putCells] using hcs
      ·apply List.ext_getElem?
       intro j
       have hcur':cur.size=cp:=by simpa using hcs
       by_cases hj:j<xs.length
       ·have hj2:j<d'.size:=by omega
        have hj3:j<ys.length:=by omega
        have hyj:d'[j]=ys[j]:=by
         simp only [← hd',Array.getElem_toList]
        rw [List.getElem?_take,if_pos (by omega),Array.getElem?_toList]
        simp only [putCells,Array.getElem?_mapIdx,Nat.zero_le,Nat.zero_add,Nat.sub_zero,true_and]
        rw [Array.getElem?_eq_getElem (by omega)]
        simp [hj2,hyj,hj3]
       ·rw [List.getElem?_take,if_neg (by omega),List.getElem?_eq_none (by simp; omega)]
     ·intro v hv
      obtain ⟨y,_,rfl⟩:=List.mem_map.1 hv
      exact ⟨rfl,fun z hz=>by simp [Value.cells] at hz; subst hz; rfl⟩
     ·exact pure_ints en ys)
   refine ⟨_,c',rfl,hw',?_,by simp only [RepV,RepL]; exact ⟨[],rfl,rfl⟩,hst.grow⟩
   have hme:Mem.put (Mem.of [(id,LE.arr e 1 (xs.map fun x=>LV.int .i64 (en x)))]) id (.arr e 1 (ys.map fun x=>LV.int .i64 (en x)))=Mem.of [(id,LE.arr e 1 (ys.map fun x=>LV.int .i64 (en x)))]:=by
    funext i
    by_cases hi:i=id
    ·subst hi; simp [Mem.put,Mem.of]
    ·simp [Mem.put,Mem.of,hi]
   rwa [hme] at hm' 
end Go.L
set_option linter.unusedVariables false
set_option linter.unusedSimpArgs false
namespace Go.L
open Go.Sort Go.Proofs Go.Shelf

theorem enters_of {P : Program} {g : Nat} (h : ∃ fn, P.funcs[g]? = some fn ∧ (fn.name == "runtime.NumGoroutine") = false ∧ fn.body.isNone = false) (args : Array Value) (w : World) : (callFunc g args).run P w = .ok (.enter g args) w := by
 obtain ⟨fn,h1,h2,h3⟩:=h
 have h2' : ¬ fn.name = "runtime.NumGoroutine" := by simpa using h2
 have h3':¬ fn.body=Option.none:=fun hn=>by rw [hn] at h3; cases h3
 simp [callFunc,h1,h2',h3']
theorem swo_of {xs:List Int} {cf:Int→Int→Int} (h1:∀ x ∈ xs,¬ cf x x<0) (h2:∀ x ∈ xs,∀ y ∈ xs,∀ z ∈ xs,cf x y<0→cf y z<0→cf x z<0) (h3:∀ x ∈ xs,∀ y ∈ xs,∀ z ∈ xs,¬ cf x y<0→¬ cf y z<0→¬ cf x z<0):SWO (ltOf fun a b:{x // x ∈ xs}=>cf a.1 b.1):=by
 constructor
 ·intro x; simp only [ltOf,decide_eq_false_iff_not]; exact h1 x.1 x.2
 ·intro x y z; simp only [ltOf,decide_eq_true_eq]; exact h2 x.1 x.2 y.1 y.2 z.1 z.2
 ·intro x y z; simp only [ltOf,decide_eq_false_iff_not]; exact h3 x.1 x.2 y.1 y.2 z.1 z.2
theorem sortI_ok {P : Program} {ρ : Ren} (L : SlLaysF.n6 P ρ) {f : Nat} (hf : ρ.f 6 = f) {c : Int → Int → Option Int} {xs r : List Int} {g : Nat} {cap : List LV} (hg : ∃ fn, P.funcs[g]? = some fn ∧ (fn.name == "runtime.NumGoroutine") = false ∧ fn.body.isNone = false) (hcap : LV.pureL cap = true)
  (hcmp:∀ x y q,c x y=some q→LCall P g ([.int .i64 x,.int .i64 y]++cap) (Mem.of []) (.int .i64 q) (Mem.of [])) (id e:Nat) (h:sortF c xs=some r) :
  LCall P f [.arr id xs.length,.fn g cap] (Mem.of [(id,.arr e 1 (xs.map (LV.int .i64)))]) (.tup []) (Mem.of [(id,.arr e 1 (r.map (LV.int .i64)))]):=by
 subst hf
 obtain ⟨hp,hn,cf,hc,h1,h2,h3,hs⟩:=sortF_to h
 have hr:∀ x ∈ r,x ∈ xs:=fun x hx=>hp.mem_iff.1 hx
 have key:=sortInts L (fun x:{x // x ∈ xs}=>x.1) (fun a b=>cf a.1 b.1) (swo_of h1 h2 h3) g cap hcap (enters_of hg)
  (fun x y=>hcmp _ _ _ (hc x.1 x.2 y.1 y.2)) (xs.pmap Subtype.mk fun _ h=>h) (r.pmap Subtype.mk hr) (hp.pmap _) ?_ (by simpa using hn) id e
 ·simp only [List.map_pmap,List.pmap_eq_map,List.length_pmap] at key
  exact key
 ·refine (List.pairwise_pmap _).2 ?_
  exact hs.imp fun {a b} h _ _=>h
end Go.L
set_option linter.unusedVariables false
set_option linter.unusedSimpArgs false
namespace Go.L
open Go.Sort Go.Proofs Go.Shelf Go.Lib

end Go.L
set_option linter.unusedVariables false
set_option linter.unusedSimpArgs false
namespace Go.L
section
variable {P:Program} {pr:Nat→Prop} {ev:Operand→LV} {m:Mem} {d:Option Nat} {x y:Operand} {t t' ty:TypeId} {pos:String} {af:Array Edge} {gd:Option (Nat × Bool)} {a b:ByteArray}
end
end Go.L
set_option linter.unusedVariables false
set_option linter.unusedSimpArgs false
namespace Go.L
theorem nesth_of {c:Cx} {e k i o id2 n2 g len:Nat} {os:List (Nat × Nat × Nat)} {xs:List LV} {u v:Value} {bs:List Nat} (h:RepE c (some (.nest e k os xs)) (some (.arr u k len bs))) (hg:u.ownBlock=some g) (hc:c.w.cell? ⟨g,i * k+o,Option.none⟩=some v) (hv:RepV c (.arr id2 n2) v):RepE c (some (.nesth e k os xs i o id2 n2)) (some (.arr u k len bs)):=by
 simp only [RepE] at h ⊢
 obtain ⟨u',vs,bs',h1,h2,h3,h4,h5⟩:=h
 cases h1
 exact ⟨u,vs,bs,rfl,h2,h3,h4,⟨g,v,hg,hc,hv⟩,h5⟩
theorem nesth_to {c:Cx} {e k i o id2 n2:Nat} {os:List (Nat × Nat × Nat)} {xs:List LV} {y:Option BE} (h:RepE c (some (.nesth e k os xs i o id2 n2)) y):RepE c (some (.nest e k os xs)) y∧∃ u bs g v,y=some (.arr u k xs.length bs)∧u.ownBlock=some g∧c.w.cell? ⟨g,i * k+o,Option.none⟩=some v∧RepV c (.arr id2 n2) v:=by
 simp only [RepE] at h ⊢
 obtain ⟨u,vs,bs,h1,h2,h3,h4,⟨g,v,q1,q2,q3⟩,h5⟩:=h
 exact ⟨⟨u,vs,bs,h1,h2,h3,h4,h5⟩,u,bs,g,v,h1,q1,q2,q3⟩
section
variable {P:Program} {N:Nat} {pr:Nat→Prop} {ev:Operand→LV} {m:Mem} {d:Option Nat} {x y:Operand} {t ty:TypeId} {pos:String} {af:Array Edge} {gd:Option (Nat × Bool)} {e0 k id n i o0 id2 e' k':Nat} {os:List (Nat × Nat × Nat)} {xs cs ys:List LV}
theorem ok_takeL (hx:ev x=.eptr id n i o0) (hm:m id=some (.nest e0 k os xs)) (hn:n=xs.length) (hz:xs[i]?=some (.agg cs)) (hc:cs[o0]?=some (.lst k' ys)) (hl:os.lookup o0=some (e',k')) (hid:m id2=.none) (ht:tok P t=true) (ha:tagg P t=false) :
  OpOkR P pr ⟨d,.load t x,ty,pos,af,gd⟩ ev m (.arr id2 ys.length) ((m.put id (.nesth e0 k os (xs.set i (.agg (cs.set o0 .und))) i o0 id2 ys.length)).put id2 (.arr e' k' ys)):=by
 have hne:id ≠ id2:=fun h=>by rw [h,hid] at hm; cases hm
 refine OpOkR.value fun c a hev hM=>?_
 have hv:=hev x (by simp [Op.operands])
 rw [hx] at hv
 have hent:=hM.ent id
 rw [hm] at hent
 obtain ⟨g,cap,cur,v,bp,bs,bq,hB,hg,hcs,hnc,hk,hvk,hv1,hcv,hel,hnd,hgn,hfin⟩:=nest_rep hent hz
 have he:=eptr_now hv hB hn
 obtain ⟨cs',ws,h1,rfl,hC⟩:=hel
 cases h1
 have hcv':(cur.toList.drop (i * k)).take k=ws:=by simpa [Value.cells] using hcv
 obtain ⟨w,cp,cb,cq,g1,rfl,g3,g4⟩:=hC.at hc
 have hcell:=nest_cell hg hcv' g1
 rw [Nat.zero_add] at g3 g4
 unfold CellN at g3
 rw [hl] at g3
 obtain ⟨us,hk',hown,hrl,huc,hpy,rfl⟩:∃ us,0<k'∧c.w.ownsRow 0 e' k' w ys.length (flat us)∧RepL c ys us∧(∀ u ∈ us,u.cells.size=k'∧∀ y ∈ u.cells,y.oneCell'=true)∧LV.pureL ys=true∧cb=w.ownBlock.toList:=by
  rcases g3 with ⟨h,_⟩ | ⟨ys',us,h,q0,q1,q2,q3,q4,q5⟩
  ·cases h
  ·cases h; exact ⟨us,q0,q1,q2,q3,q4,q5⟩
 have hrun:(Instr.loadAt t (a.eval x)).run P c.w=.ok w c.w:=by
  rw [he]
  exact (run_load_cells (cs:=[.und]) (vs:=[w]) (c:=c) ht (by simp [RepL,RepV]) (fun j v hj=>by
   cases j with
   | zero=>simp at hj; subst hj; simpa using hcell
   | succ j=>simp at hj)).2 ha w [] rfl
 have hB2:=hM.fresh hid
 have hsub:∀ b,b ∈ bp++((cp++([]++cq))++bq)→b ∈ bp++((cp++(w.ownBlock.toList++cq))++bq):=fun b hb=>by
  simp only [List.mem_append,List.nil_append] at hb ⊢
  rcases hb with h | (h | h) | h <;> simp [h]
 have hnd':(bp++((cp++([]++cq))++bq)).Nodup:=by
  refine List.Nodup.sublist ?_ hnd
  refine List.Sublist.append (List.Sublist.refl _) (List.Sublist.append (List.Sublist.append (List.Sublist.refl _) ?_) (List.Sublist.refl _))
  exact List.Sublist.append (List.nil_sublist _) (List.Sublist.refl _)
 have hsame:ws.set o0 w=ws:=by
  obtain ⟨hlt,hw⟩:=List.getElem?_eq_some_iff.1 g1
  rw [← hw]; exact List.set_getElem_self hlt
 obtain ⟨c',hw,eb1,eb2,h2,h3⟩:=hM.upd2 (pr:=pr) id id2 hne (.nesth e0 k os (xs.set i (.agg (cs.set o0 .und))) i o0 id2 ys.length) (.arr e' k' ys) (.arr (.slice (some ⟨g,0,.none⟩) xs.length cap) k xs.length (bp++((cp++([]++cq))++bq))) (.arr w k' ys.length []) c.w rfl rfl rfl (Nat.le_refl _) (Nat.le_refl _)
  (fun b _ _ _=>rfl)
  (fun b hb=>by
   rcases hb with hb | hb
   ·rcases hb with hb | hb
    ·exact .inl ⟨_,hB,.inl hb⟩
    ·exact .inl ⟨_,hB,.inr (hsub b hb)⟩
   ·rcases hb with hb | hb
    ·exact .inl ⟨_,hB,.inr (by simp [hb])⟩
    ·cases hb)
  (fun b hb hb2=>by
   have hbw:w.ownBlock=some b:=by
    rcases hb2 with h | h
    ·exact h
    ·cases h
   rcases hb with hb | hb
   ·have:g=b:=by simpa [Value.ownBlock] using hb
    subst this
    exact hgn (by simp [hbw])
   ·have n1:=List.nodup_append.1 hnd
    have n2:=List.nodup_append.1 n1.2.1
    have n3:=List.nodup_append.1 n2.1
    have n4:=List.nodup_append.1 n3.2.1
    have hin:b ∈ w.ownBlock.toList:=by simp [hbw]
    simp only [List.mem_append,List.nil_append] at hb
    rcases hb with h | (h | h) | h
    ·exact n1.2.2 b h b (by simp [hbw]) rfl
    ·exact n3.2.2 b h b (by simp [hbw]) rfl
    ·exact n4.2.2 b hin b h rfl
    ·exact n2.2.2 b (by simp [hbw]) b h rfl)
  (by rw [hB]; exact ⟨_,_,_,rfl,Nat.le_refl _,fun _=>rfl⟩) (by rw [hB2]; trivial) (fun _ be0 h0=>by rw [hB] at h0; cases h0; exact ⟨_,_,_,rfl,Nat.le_refl _,fun _=>rfl⟩) (fun _ be0 h0=>by rw [hB2] at h0; cases h0)
  (fun c' hw hle hble hb2=>by
   refine nesth_of (g:=g) (v:=w) ?_ rfl (by rw [hw]; exact hcell) (by
    simp only [RepV]
    refine ⟨?_,_,_,_,_,hb2,Nat.le_refl _,fun _=>rfl⟩
    obtain ⟨ad,cpp,hww⟩:=ownsRow_len hown
    rw [hww]; rfl)
   refine hfin c' _ (.agg ws.toArray) _ hle ?_ (fun q _=>by rw [hw]) hvk hv1 ⟨_,ws,rfl,rfl,?_⟩ hnd' (fun h=>hgn (by
    simp only [List.mem_append,List.nil_append] at h ⊢
    rcases h with h | h <;> simp [h]))
   ·rw [hw,hg]
    congr 2
    apply Array.toList_inj.1
    simp only [List.toList_toArray]
    rw [← hcv,← List.drop_drop,List.append_assoc,List.take_append_drop,List.take_append_drop]
   ·have:=g4 (c':=c') (x':=.und) (w':=w) (b':=[]) hle (fun r _=>by rw [hw]) (by unfold CellN; rw [hl]; exact .inl ⟨rfl,rfl⟩)
    rw [hsame] at this
    exact this)
  (fun c' hw hle hble=>by
   simp only [RepE]
   exact ⟨w,us,rfl,hk',by rw [hw]; exact hown,RepL.mono hle ys us (fun j hj=>by rw [norefL_of_pureL ys hpy] at hj; cases hj) hrl,huc,hpy⟩)
 refine ⟨w,c',by rw [hw]; simp [execOp,hrun],?_,h2,h3⟩
 simp only [RepV]
 refine ⟨?_,_,_,_,_,eb2,Nat.le_refl _,fun _=>rfl⟩
 obtain ⟨ad,cpp,hww⟩:=ownsRow_len hown
 rw [hww]; rfl
theorem RepM.unlink {c:Cx} (hM:RepM c m) {n2:Nat} (hm:m id=some (.nesth e0 k os xs i o0 id2 n2)) (hz:xs[i]?=some (.agg cs)) (hc:cs[o0]?=some .und) (hl:os.lookup o0=some (e',k')) (hm2:m id2=some (.arr e' k' ys)) (hn2:n2=ys.length) (hpr2:¬ pr id2) :
  ∃ c':Cx,c'.w=c.w∧RepM c' ((m.put id (.nest e0 k os (xs.set i (.agg (cs.set o0 (.lst k' ys)))))).put id2 .dead)∧Step pr c c':=by
 have hne:id ≠ id2:=fun h=>by rw [h,hm2] at hm; cases hm
 have hent0:=hM.ent id
 rw [hm] at hent0
 obtain ⟨hent,uL,bsL,gL,y0,hyL,hgL,hcL,hvy⟩:=nesth_to hent0
 obtain ⟨us,hB2,hk',hown,hrl,huc,hpy⟩:=arr_now hM hvy hm2 hn2
 obtain ⟨g,cap,cur,v,bp,bs,bq,hB,hg,hcs,hnc,hk,hvk,hv1,hcv,hel,hnd,hgn,hfin⟩:=nest_rep hent hz
 obtain ⟨cs',ws,h1,rfl,hC⟩:=hel
 cases h1
 have hwl:ws.length=k:=by simpa [Value.cells] using hvk
 have hcv':(cur.toList.drop (i * k)).take k=ws:=by simpa [Value.cells] using hcv
 obtain ⟨w0,cp,cb,cq,g1,rfl,g3,g4⟩:=hC.at hc
 rw [Nat.zero_add] at g3 g4
 have hcb:cb=[]:=by
  unfold CellN at g3
  rw [hl] at g3
  rcases g3 with ⟨_,h⟩ | ⟨_,_,h,_⟩
  ·exact h
  ·cases h
 subst hcb
 have hw0:w0=y0:=by
  have hcell:=nest_cell hg hcv' g1
  rw [hB] at hyL
  cases hyL
  have:g=gL:=by simpa [Value.ownBlock] using hgL
  subst this
  rw [hcell] at hcL
  exact Option.some.inj hcL
 subst hw0
 have hok:o0<k:=by rw [← hwl]; exact (List.getElem?_eq_some_iff.1 g1).1
 have hi:i<xs.length:=(List.getElem?_eq_some_iff.1 hz).1
 have hik:i * k+k≤cur.size:=by
  have h1:=Nat.mul_le_mul_right k (show i+1≤cap by omega)
  rw [Nat.add_mul,Nat.one_mul] at h1; omega
 have hy1:(w0).oneCell'=true:=by
  obtain ⟨ad,cpp,hww⟩:=ownsRow_len hown
  rw [hww]; rfl
 have hsame:ws.set o0 w0=ws:=by
  obtain ⟨hlt,hw⟩:=List.getElem?_eq_some_iff.1 g1
  rw [← hw]; exact List.set_getElem_self hlt
 -- the block of the slice is not one of the row's
 have hfresh:∀ b,(w0).ownBlock=some b→b ≠ g∧b ∉ bp++((cp++([]++cq))++bq):=fun b hb=>by
  constructor
  ·intro hbg
   exact hne (hM.inj id id2 _ _ b hB hB2 (.inl (by rw [hbg]; rfl)) (.inl hb))
  ·intro hin
   exact hne (hM.inj id id2 _ _ b hB hB2 (.inr hin) (.inl hb))
 have hnd':(bp++((cp++((w0).ownBlock.toList++cq))++bq)).Nodup:=by
  cases hb:(w0).ownBlock with
  | none=>simpa [hb] using hnd
  | some b =>
   have hf:=(hfresh b hb).2
   have hp:(bp++((cp++((some b).toList++cq))++bq)).Perm (b :: (bp++((cp++([]++cq))++bq))):=by
    simp only [Option.toList_some,List.singleton_append,List.nil_append]
    refine (List.Perm.append_left bp ?_).trans (List.perm_middle)
    rw [List.append_assoc,List.append_assoc,List.cons_append]
    exact List.perm_middle
   exact hp.nodup_iff.2 (List.nodup_cons.2 ⟨hf,hnd⟩)
 obtain ⟨c',hw,eb1,eb2,h2,h3⟩:=hM.upd2 (pr:=pr) id id2 hne (.nest e0 k os (xs.set i (.agg (cs.set o0 (.lst k' ys))))) .dead (.arr (.slice (some ⟨g,0,.none⟩) xs.length cap) k xs.length (bp++((cp++((w0).ownBlock.toList++cq))++bq))) (.arr (.slice .none 0 0) k' (ys.length+1) []) c.w rfl rfl rfl (Nat.le_refl _) (Nat.le_refl _)
  (fun b _ _ _=>rfl)
  (fun b hb=>by
   rcases hb with hb | hb
   ·rcases hb with hb | hb
    ·exact .inl ⟨_,hB,.inl hb⟩
    ·simp only [List.mem_append,Option.mem_toList] at hb
     rcases hb with h | (h | h | h) | h
     ·exact .inl ⟨_,hB,.inr (by simp [h])⟩
     ·exact .inl ⟨_,hB,.inr (by simp [h])⟩
     ·exact .inr (.inl ⟨_,hB2,.inl h⟩)
     ·exact .inl ⟨_,hB,.inr (by simp [h])⟩
     ·exact .inl ⟨_,hB,.inr (by simp [h])⟩
   ·rcases hb with hb | hb
    ·simp [Value.ownBlock] at hb
    ·cases hb)
  (fun b _ hb2=>by
   rcases hb2 with hb | hb
   ·simp [Value.ownBlock] at hb
   ·cases hb)
  (by rw [hB]; exact ⟨_,_,_,rfl,Nat.le_refl _,fun _=>rfl⟩) (by rw [hB2]; exact ⟨_,_,_,rfl,by omega,fun h=>by omega⟩) (fun _ be0 h0=>by rw [hB] at h0; cases h0; exact ⟨_,_,_,rfl,Nat.le_refl _,fun _=>rfl⟩) (fun h=>absurd h hpr2)
  (fun c' hw hle hble _=>by
   have hoth:∀ b,b ≠ g→c'.w.heap[b]?=c.w.heap[b]?:=fun b _=>by rw [hw]
   refine hfin c' _ (.agg (ws.set o0 (w0)).toArray) _ hle (by
    rw [hw,hg,hsame]
    congr 2
    apply Array.toList_inj.1
    simp only [List.toList_toArray]
    rw [← hcv,← List.drop_drop,List.append_assoc,List.take_append_drop,List.take_append_drop]) (fun q hq=>hoth q (fun hqg=>hgn (by rw [← hqg]; simp at hq ⊢; rcases hq with h | h <;> simp [h]))) (by simp [Value.cells,hwl]) (fun q hq=>by
    simp only [Value.cells] at hq hv1
    have hq':q ∈ ws.set o0 (w0):=by simpa using hq
    rcases List.mem_or_eq_of_mem_set hq' with h | h
    ·exact hv1 q (by simpa using h)
    ·rw [h]; exact hy1) ⟨_,_,rfl,rfl,?_⟩ hnd' (fun h=>?_)
   ·refine g4 (c':=c') (x':=.lst k' ys) (w':=w0) (b':=(w0).ownBlock.toList) hle (fun r hr=>hoth r (fun hrg=>hgn (by rw [← hrg]; simp at hr ⊢; rcases hr with h | h <;> simp [h]))) ?_
    unfold CellN
    rw [hl]
    exact .inr ⟨ys,us,rfl,hk',ownsRow_same hown (fun b hb=>hoth b (hfresh b hb).1),RepL.mono hle ys us (fun j hj=>by rw [norefL_of_pureL ys hpy] at hj; cases hj) hrl,huc,hpy,rfl⟩
   ·simp only [List.mem_append,Option.mem_toList] at h
    rcases h with h | h | h
    ·exact hgn (by simp [h])
    ·exact (hfresh g h).1 rfl
    ·exact hgn (by simp [h]))
  (fun c' hw hle hble=>by simp only [RepE]; exact ⟨_,_,_,rfl,rfl⟩)
 exact ⟨c',hw,h2,h3⟩
theorem Wk.unlink {e:Env} {n2:Nat} (hm:m id=some (.nesth e0 k os xs i o0 id2 n2)) (hz:xs[i]?=some (.agg cs)) (hc:cs[o0]?=some .und) (hl:os.lookup o0=some (e',k')) (hm2:m id2=some (.arr e' k' ys)) (hn2:n2=ys.length) (hpr2:¬ pr id2) :
  Wk pr e m e ((m.put id (.nest e0 k os (xs.set i (.agg (cs.set o0 (.lst k' ys)))))).put id2 .dead):=by
 intro N c a hrep
 obtain ⟨c',hw,h2,h3⟩:=hrep.mem.unlink (pr:=pr) hm hz hc hl hm2 hn2 hpr2
 exact ⟨c',hw,⟨fun i=>h3.repV (hrep.env i),h2,hrep.size,hrep.defers⟩,h3.grow⟩
end
end Go.L
set_option linter.unusedVariables false
set_option linter.unusedSimpArgs false
namespace Go.L
end Go.L
set_option linter.unusedVariables false
set_option linter.unusedSimpArgs false
namespace Go.L
theorem RepN.split {c:Cx} {os:List (Nat × Nat × Nat)}:∀ {i:Nat} {xs:List LV} {vs:List Value} {bs:List Nat},RepN c os xs vs bs→∃ b1 b2,bs=b1++b2∧RepN c os (xs.take i) (vs.take i) b1∧RepN c os (xs.drop i) (vs.drop i) b2
 | 0,xs,vs,bs,h=>⟨[],bs,rfl,by simp [RepN],by simpa using h⟩
 | i+1,[],vs,bs,h=>by
  simp only [RepN] at h
  obtain ⟨rfl,rfl⟩:=h
  exact ⟨[],[],rfl,by simp [RepN],by simp [RepN]⟩
 | i+1,x :: xs,vs,bs,h=>by
  simp only [RepN] at h
  obtain ⟨v,vs',b1,b2,rfl,rfl,h1,h2⟩:=h
  obtain ⟨c1,c2,rfl,h3,h4⟩:=RepN.split (i:=i) h2
  refine ⟨b1++c1,c2,by simp,?_,by simpa using h4⟩
  simp only [List.take_succ_cons,RepN]
  exact ⟨v,_,b1,c1,rfl,rfl,h1,h3⟩
theorem RepN.app {c:Cx} {os:List (Nat × Nat × Nat)}:∀ {xs ys:List LV} {vs us:List Value} {b1 b2:List Nat},RepN c os xs vs b1→RepN c os ys us b2→RepN c os (xs++ys) (vs++us) (b1++b2)
 | [],ys,vs,us,b1,b2,h,h'=>by
  simp only [RepN] at h
  obtain ⟨rfl,rfl⟩:=h
  simpa using h'
 | x :: xs,ys,vs,us,b1,b2,h,h'=>by
  simp only [RepN] at h
  obtain ⟨v,vs',c1,c2,rfl,rfl,h1,h2⟩:=h
  simp only [List.cons_append,RepN]
  exact ⟨v,vs'++us,c1,c2++b2,rfl,by simp,h1,RepN.app h2 h'⟩
section
variable {P:Program} {N:Nat} {pr:Nat→Prop} {ev:Operand→LV} {m m':Mem} {d:Option Nat} {x y z:Operand} {t ty:TypeId} {pos:String} {af:Array Edge} {gd:Option (Nat × Bool)} {lv:LV} {α β:Type} {f:α→LV} {g:β→LV} {e0 k id n:Nat} {os:List (Nat × Nat × Nat)}
theorem Foot.fresh {o:Oper} {ids:List Nat} {i:Nat} {le:LE} (hids:ids=[i]) (hm:m i=.none) (h:∀ m0:Mem,m0 i=.none→OpOkR P pr o ev m0 lv (m0.put i le)):Foot P pr o ev ids m lv (m.put i le):=by
 subst hids
 refine ⟨fun j hj=>by simp at hj; simp [Mem.put,hj],fun m0 hm0=>?_⟩
 have:=h m0 (by rw [hm0 i (by simp)]; exact hm)
 refine Eq.mp (congrArg _ ?_) this
 funext j
 by_cases hj:j=i <;> simp [Mem.put,hj]
theorem Foot.gone {o:Oper} {ids:List Nat} {i:Nat} {le:LE} {S:List Nat} (hids0:ids=i :: S) (h:∀ m0:Mem,(∀ j,j ∈ i :: S→m0 j=m j)→OpOkR P pr o ev m0 lv (m0.gone i le S)):Foot P pr o ev ids m lv (m.gone i le S):=by
 have hids:∀ j,j ∈ ids ↔ (j=i ∨ j ∈ S):=fun j=>by rw [hids0]; simp
 refine ⟨fun j hj=>?_,fun m0 hm0=>?_⟩
 ·rw [hids] at hj
  simp only [not_or] at hj
  simp [Mem.gone,hj.1,hj.2]
 ·refine Eq.mp (congrArg _ ?_) (h m0 (fun j hj=>hm0 j (by rw [hids0]; exact hj)))
  funext j
  by_cases hj:j ∈ ids
  ·simp only [hj,if_true]
   rw [hids] at hj
   simp only [Mem.gone]
   rcases hj with hj | hj
   ·simp [hj]
   ·by_cases h1:j=i <;> simp [h1,hj]
  ·simp only [hj,if_false]
   rw [hids] at hj
   simp only [not_or] at hj
   simp [Mem.gone,hj.1,hj.2]
end
end Go.L
set_option linter.unusedVariables false
set_option linter.unusedSimpArgs false
namespace Go.L
section
variable {P:Program} {N:Nat} {pr:Nat→Prop} {ev:Operand→LV} {m m':Mem} {d:Option Nat} {x y z:Operand} {t t' ty:TypeId} {pos:String} {af:Array Edge} {gd:Option (Nat × Bool)} {lv:LV} {α β:Type} {f:α→LV} {g:β→LV} {e0 k id n i o0:Nat} {os:List (Nat × Nat × Nat)} {xs cs:List LV}
theorem ok_takeLF {e' k' id2:Nat} {ys:List β} {ls:List LV} (hx:ev x=.eptr id n i o0) (hm:m id=some (.nest e0 k os (ls.set i (.agg cs)))) (hn:n=ls.length) (hz:(ls.set i (.agg cs))[i]?=some (.agg cs)) (hc:cs[o0]?=some (.lst k' (ys.map g))) (hl:os.lookup o0=some (e',k')) (hid:m id2=.none) (ht:tok P t=true) (ha:tagg P t=false) {cs':List LV} (hcs:cs.set o0 .und=cs') :
  OpOkR P pr ⟨d,.load t x,ty,pos,af,gd⟩ ev m (.arr id2 ys.length) ((m.put id (.nesth e0 k os (ls.set i (.agg cs')) i o0 id2 ys.length)).put id2 (.arr e' k' (ys.map g))):=by
 subst hcs
 have:=ok_takeL (pr:=pr) (d:=d) (ty:=ty) (pos:=pos) (af:=af) (gd:=gd) hx hm (by simpa using hn) hz hc hl hid ht ha
 rwa [List.length_map,List.set_set] at this
theorem Wk.unlinkF {e:Env} {n2 e' k' id2:Nat} {ys:List β} {ls:List LV} (hm:m id=some (.nesth e0 k os (ls.set i (.agg cs)) i o0 id2 n2)) (hz:(ls.set i (.agg cs))[i]?=some (.agg cs)) (hc:cs[o0]?=some .und) (hl:os.lookup o0=some (e',k')) (hm2:m id2=some (.arr e' k' (ys.map g))) (hn2:n2=ys.length) (hpr2:¬ pr id2) {cs':List LV} (hcs:cs.set o0 (.lst k' (ys.map g))=cs') :
  Wk pr e m e ((m.put id (.nest e0 k os (ls.set i (.agg cs')))).put id2 .dead):=by
 subst hcs
 have:=Wk.unlink (pr:=pr) (e:=e) hm hz hc hl hm2 (by simpa using hn2) hpr2
 rwa [List.set_set] at this
end
section
variable {P:Program} {pr:Nat→Prop} {ev:Operand→LV} {m:Mem} {α β:Type} [DecidableEq α] {f:α→LV} {g:β→LV}
theorem ok_alI {i id:Nat} {t ty:TypeId} {pos:String} {af:Array Edge} {gd:Option (Nat × Bool)} {z:LV} {cs:List LV} (d0:Nat) (hi:100+d0=id) (hz:tzero P t=some z) (hc:z.cells=cs) (hid:m id=.none):OpOk P pr ⟨some i,.alloc t,ty,pos,af,gd⟩ ev m (.ptr id 0) (m.put id (.box cs)):=by
 subst hi; subst hc
 exact ok_alloc t d0 z rfl hz hid
end
end Go.L
set_option linter.unusedVariables false
set_option linter.unusedSimpArgs false
namespace Go.L
def andI (k:IntKind) (u w:Int):Int:=k.wrap ((BitVec.ofInt k.bits u &&& BitVec.ofInt k.bits w).toNat:Int)
def orI (k:IntKind) (u w:Int):Int:=k.wrap ((BitVec.ofInt k.bits u ||| BitVec.ofInt k.bits w).toNat:Int)
def annI (k:IntKind) (u w:Int):Int:=k.wrap ((BitVec.ofInt k.bits u &&& ~~~ (BitVec.ofInt k.bits w)).toNat:Int)
section
variable {P:Program} {pr:Nat→Prop} {ev:Operand→LV} {m:Mem} {d:Option Nat} {x y:Operand} {t t' ty:TypeId} {pos:String} {af:Array Edge} {gd:Option (Nat × Bool)} {k:IntKind} {u w:Int}
theorem ok_and (hx:ev x=.int k u) (hy:ev y=.int k w):OpOkR P pr ⟨d,.binOp .and t x y t',ty,pos,af,gd⟩ ev m (.int k (andI k u w)) m :=
 OpOkR.value fun c a hev hm=>by
  have h1:=hev x (by simp [Op.operands])
  have h2:=hev y (by simp [Op.operands])
  rw [hx] at h1; rw [hy] at h2
  simp only [RepV] at h1 h2
  refine ⟨.int k (andI k u w),c,?_,by simp [RepV],hm,Step.refl pr c⟩
  simp [execOp,h1,h2,binOp,Op.intBits,andI,eqGuard]
theorem ok_or (hx:ev x=.int k u) (hy:ev y=.int k w):OpOkR P pr ⟨d,.binOp .or t x y t',ty,pos,af,gd⟩ ev m (.int k (orI k u w)) m :=
 OpOkR.value fun c a hev hm=>by
  have h1:=hev x (by simp [Op.operands])
  have h2:=hev y (by simp [Op.operands])
  rw [hx] at h1; rw [hy] at h2
  simp only [RepV] at h1 h2
  refine ⟨.int k (orI k u w),c,?_,by simp [RepV],hm,Step.refl pr c⟩
  simp [execOp,h1,h2,binOp,Op.intBits,orI,eqGuard]
theorem ok_ann (hx:ev x=.int k u) (hy:ev y=.int k w):OpOkR P pr ⟨d,.binOp .andNot t x y t',ty,pos,af,gd⟩ ev m (.int k (annI k u w)) m :=
 OpOkR.value fun c a hev hm=>by
  have h1:=hev x (by simp [Op.operands])
  have h2:=hev y (by simp [Op.operands])
  rw [hx] at h1; rw [hy] at h2
  simp only [RepV] at h1 h2
  refine ⟨.int k (annI k u w),c,?_,by simp [RepV],hm,Step.refl pr c⟩
  simp [execOp,h1,h2,binOp,Op.intBits,annI,eqGuard]
end
end Go.L
set_option linter.unusedVariables false
set_option linter.unusedSimpArgs false
namespace Go.L
section
variable {P:Program} {N:Nat} {pr:Nat→Prop} {ev:Operand→LV} {m m1 m':Mem} {d:Option Nat} {x y z:Operand} {t t' ty:TypeId} {pos:String} {af:Array Edge} {gd:Option (Nat × Bool)} {lv:LV} {α β:Type} {f:α→LV} {g:β→LV} {e0 k id n i o0:Nat} {os:List (Nat × Nat × Nat)} {xs cs:List LV}
abbrev el1 (l:List Int):LV:=.agg [.L l]
def repF (x n:Int):Option (List Int):=if 0≤n∧n≤1000000 then some (List.replicate n.toNat x) else .none
theorem OpOkR.pre {o:Oper} (h:∀ c,RepM c m→∃ c1,c1.w=c.w∧RepM c1 m1∧Step pr c c1) (k:OpOkR P pr o ev m1 lv m'):OpOkR P pr o ev m lv m':=by
 intro c a Q hev hM
 obtain ⟨c1,hw,hM1,hs⟩:=h c hM
 have:=k c1 a Q (fun q hq=>hs.repV (hev q hq)) hM1
 rw [hw] at this
 refine Oper.wp_mono ?_ this
 rintro a' w' ⟨v,c2,h1,h2,h3,h4,h5⟩
 exact ⟨v,c2,h1,h2,h3,h4,hs.trans h5⟩
theorem pre_unlink {n2 e' k' id2:Nat} {ys:List β} {ls:List LV} (hm:m id=some (.nesth e0 k os (ls.set i (.agg cs)) i o0 id2 n2)) (hz:(ls.set i (.agg cs))[i]?=some (.agg cs)) (hc:cs[o0]?=some .und) (hl:os.lookup o0=some (e',k')) (hm2:m id2=some (.arr e' k' (ys.map g))) (hn2:n2=ys.length) (hpr2:¬ pr id2) {cs':List LV} (hcs:cs.set o0 (.lst k' (ys.map g))=cs') :
  ∀ c,RepM c m→∃ c1,c1.w=c.w∧RepM c1 ((m.put id (.nest e0 k os (ls.set i (.agg cs')))).put id2 .dead)∧Step pr c c1:=fun c hM=>by
 subst hcs
 obtain ⟨c',hw,h2,h3⟩:=hM.unlink (pr:=pr) hm hz hc hl hm2 (by simpa using hn2) hpr2
 rw [List.set_set] at h2
 exact ⟨c',hw,h2,h3⟩
theorem ok_callF {f : Nat} {caps args args' : List LV} {xs : List Operand} {ts : Array TypeId} {ml ml' : List (Nat × LE)} (hx : ev x = .fn f caps) (hf : ∃ fn, P.funcs[f]? = some fn ∧ (fn.name == "runtime.NumGoroutine") = false ∧ fn.body.isNone = false) (ha : xs.map ev ++ caps = args) (hs : SubL args args') (hc : LCall P f args' (Mem.of ml) lv (Mem.of ml')) (hm : MemIs m ml) (hnew : ∀ p ∈ ml', (ml.any fun q => q.1 == p.1) = true ∨ m p.1 = .none) (hr : keptRefs (args.map fun x => (0, x)) ml = true) :
  OpOkR P pr ⟨d,.call ⟨.value x,xs.toArray,ts⟩,ty,pos,af,gd⟩ ev m lv (m.over (Mem.of ml')):=by
 subst ha
 obtain ⟨lv0,mc,mc',hcall,h1,h2,h3,h4,hK⟩:=LCall.callL (K:=fun l mm=>l=lv∧mm=m.over (Mem.of ml')) (hc.sub hs) hm hnew hr ⟨rfl,rfl⟩
 obtain ⟨rfl,hmm⟩:=hK
 obtain ⟨fn,hf,hname,hbody⟩:=hf
 intro c a Q hev hM
 have hv:=hev x (by simp [Op.operands,Call.operands])
 rw [hx] at hv
 simp only [RepV] at hv
 obtain ⟨us,he,hl⟩:=hv
 have hxs:RepL c (xs.map ev) (xs.map a.eval):=RepL.of (by simp) fun j p q hp hq=>by
  simp only [List.getElem?_map,Option.map_eq_some_iff] at hp hq
  obtain ⟨z,hz,rfl⟩:=hp
  obtain ⟨z',hz',rfl⟩:=hq
  rw [hz] at hz'; cases hz'
  exact hev z (by simp [Op.operands,Call.operands,List.mem_of_getElem? hz])
 have hrun:(execOp a.eval ⟨d,.call ⟨.value x,xs.toArray,ts⟩,ty,pos,af,gd⟩).run P c.w=.ok (.enter f (xs.map a.eval++us).toArray) c.w:=by
  have e1:Array.map a.eval xs.toArray++us.toArray=(xs.map a.eval++us).toArray:=by
   apply Array.ext'; simp
  have hname' : ¬ fn.name = "runtime.NumGoroutine" := by simpa using hname
  have hbody':¬ fn.body=.none:=fun hn=>by rw [hn] at hbody; cases hbody
  simp [execOp,resolve,Deferred.ofValue,he,invoke,callFunc,hf,hname',hbody',e1]
 unfold Oper.wp
 rw [hrun]
 simp only [Oper.upon]
 refine (hcall.frame (m:=m) h1 h2 h3 h4 pr c _ hM (hxs.append hl)).mono ?_
 rintro en w' ⟨v,c',rfl,rfl,hm',hv',hs⟩
 rw [hmm] at hm'
 exact ⟨v,c',rfl,rfl,hv',hm',hs⟩
theorem ok_mkN1 {x y:Operand} {t ty:TypeId} {pos:String} {af:Array Edge} {g:Option (Nat × Bool)} {d e0 k id:Nat} {os:List (Nat × Nat × Nat)} {n:Int} (hte:telem P t=some e0) (hz:tzero P e0=some .nil) (hrow:trow P e0=true) (hs:tsize P e0=k) (hx:ev x=.int .i64 n) (hy:ev y=.int .i64 n) (h0:0≤n) (hb:n≤549755813888) (hid:m id=.none) (hok:nOk os 0 [LV.nil]=true) :
  OpOkR P pr ⟨some d,.makeSlice t x y,ty,pos,af,g⟩ ev m (.arr id n.toNat) (m.put id (.nest e0 k os (List.replicate n.toNat (.agg (zN os 0 [LV.nil]))))):=by
 have hu:=elem_of hte
 obtain ⟨i,zv,hi,hzv,hzs,hz1,hsz,hby,hts⟩:=row_of hrow
 subst hs
 refine OpOkR.value fun c a hev hm=>?_
 have hvx:=hev x (by simp [Op.operands])
 have hvy:=hev y (by simp [Op.operands])
 rw [hx] at hvx
 rw [hy] at hvy
 simp only [RepV] at hvx hvy
 have hzz:ofV zv=.nil:=by
  simp only [tzero,hi,hzv] at hz
  split at hz
  ·simpa using hz
  ·cases hz
 have hbytes:(i.bytes:Int) * n≤281474976710656:=by
  have h1:(i.bytes:Int) * n≤256 * n:=Int.mul_le_mul_of_nonneg_right (by omega) h0
  omega
 have hrun:=run_make (P:=P) c.w t e0 i zv hu hi hzv .i64 .i64 n n h0 (Int.le_refl _) hbytes (by omega)
 have hB:=hm.fresh hid
 have hzv2:zv=.slice .none 0 0:=by
  have hr:=repV_ofV c zv
  rw [hzz] at hr
  simpa only [RepV] using hr
 have hone:i.size=1:=by rw [← hzs,hzv2]; rfl
 have hac:(Value.agg #[zv]).cells=zv.cells:=by rw [hzv2]; rfl
 have hcells:(madeCells zv.cells (n.toNat * i.size)).toList=flat (List.replicate n.toNat (Value.agg #[zv])):=by
  apply List.ext_getElem?
  intro j
  rw [flat_get hsz (fun v hv=>by rw [List.eq_of_mem_replicate hv,hac]; exact hzs)]
  simp only [Array.getElem?_toList,madeCells,Array.getElem?_map,Array.getElem?_range,List.getElem?_replicate,hzs]
  by_cases hj:j<n.toNat * i.size
  ·have h1:j / i.size<n.toNat:=(Nat.div_lt_iff_lt_mul hsz).2 hj
   have h2:j % i.size<zv.cells.size:=by rw [hzs]; exact Nat.mod_lt _ hsz
   rw [if_pos hj,if_pos h1]
   simp [h2,hac]
  ·have h1:¬ j / i.size<n.toNat:=fun hh=>hj ((Nat.div_lt_iff_lt_mul hsz).1 hh)
   rw [if_neg hj,if_neg h1]
   rfl
 have hsize:(madeCells zv.cells (n.toNat * i.size)).size=n.toNat * i.size:=size_madeCells _ _
 have hel:∀ c':Cx,ElN c' os (.agg (zN os 0 [LV.nil])) (.agg #[zv]) []:=fun c'=>by
  exact ⟨_,[zv],rfl,rfl,RepC.ofNil (by simp only [RepL]; exact ⟨zv,[],rfl,by rw [hzv2]; simp [RepV],rfl⟩) hok⟩
 obtain ⟨c',hw,hb',h2,h3⟩:=hm.upd (pr:=pr) id (.nest e0 (tsize P e0) os (List.replicate n.toNat (.agg (zN os 0 [LV.nil])))) (.arr (.slice (some ⟨c.w.heap.size,0,.none⟩) n.toNat n.toNat) (tsize P e0) n.toNat [])
  (c.w.alloc (.cells (madeCells zv.cells (n.toNat * i.size)) e0)) rfl rfl rfl (Nat.le_refl _) (by simp)
  (fun b hb' _=>hpOld c.w _ b hb') (fun b hb'=>by simp [BE.has,Value.ownBlock] at hb'; exact .inr (by omega)) (by rw [hB]; trivial) (fun _ be0 h0=>by rw [hB] at h0; cases h0)
  (fun c' hw hle hble=>by
   simp only [RepE,hts,List.length_replicate]
   refine ⟨_,List.replicate n.toNat (Value.agg #[zv]),[],rfl,hsz,⟨by rw [flat_length (k:=i.size) (fun v hv=>by rw [List.eq_of_mem_replicate hv,hac]; exact hzs)]; simp,.inr ⟨c.w.heap.size,n.toNat,_,rfl,Nat.zero_le _,by rw [hw]; exact heap_alloc_new c.w _,Nat.le_refl _,by simp only [maxLen]; omega,hsize,?_⟩⟩,RepN.repl (hel c') _,?_,by simp,by simp⟩
   ·rw [List.take_of_length_le (by rw [Array.length_toList,hsize]; exact Nat.le_refl _),hcells]
   ·intro v hv
    rw [List.eq_of_mem_replicate hv]
    rw [hac]; exact ⟨hzs,hz1⟩)
 refine ⟨.slice (some ⟨c.w.heap.size,0,.none⟩) n.toNat n.toNat,c',by rw [hw]; simp [execOp,hvx,hvy,hrun],?_,h2,h3⟩
 simp only [RepV]
 exact ⟨rfl,_,_,_,_,hb',Nat.le_refl _,fun _=>rfl⟩
theorem ok_mk1 {d1:Nat} {z':α} {v:List α} {u:Int} (hte:telem P t=some e0) (hz:tzero P e0=some .nil) (hrow:trow P e0=true) (hs:tsize P e0=k) (hx:ev x=.int .i64 u) (hy:ev y=.int .i64 u) (hv:mkl z' u=some v) (hid:m id=.none) (hok:nOk os 0 [LV.nil]=true) (hfz:f z'=.agg (zN os 0 [LV.nil])) :
  OpOkR P pr ⟨some d1,.makeSlice t x y,ty,pos,af,gd⟩ ev m (.arr id v.length) (m.put id (.nest e0 k os (v.map f))):=by
 unfold mkl at hv
 split at hv
 ·rename_i hb
  cases hv
  have:=ok_mkN1 (pr:=pr) (ty:=ty) (pos:=pos) (af:=af) (g:=gd) (d:=d1) hte hz hrow hs hx hy hb.1 hb.2 hid hok
  rw [List.length_replicate,List.map_replicate,hfz]; exact this
 ·cases hv
theorem RepN.un1 {c:Cx} {os:List (Nat × Nat × Nat)} {f1:α→LV}:∀ {xs:List α} {vs:List Value} {bs:List Nat},RepN c os (xs.map fun x=>.agg [f1 x]) vs bs→∃ us:List Value,vs=us.map (fun u=>Value.agg #[u])∧RepN c os (xs.map fun x=>.agg [f1 x]) (us.map fun u=>Value.agg #[u]) bs
 | [],vs,bs,h=>by simp only [List.map_nil,RepN] at h ⊢; exact ⟨[],h.1,rfl,h.2⟩
 | x :: xs,vs,bs,h=>by
  simp only [List.map_cons,RepN] at h
  obtain ⟨v,vs',b1,b2,rfl,rfl,⟨cs,ws,hcs,rfl,hc⟩,h2⟩:=h
  cases hcs
  obtain ⟨us,rfl,h3⟩:=RepN.un1 h2
  have hc':=hc
  simp only [RepC] at hc
  obtain ⟨w,ws',c1,c2,rfl,rfl,q1,rfl,rfl⟩:=hc
  refine ⟨w :: us,rfl,?_⟩
  simp only [List.map_cons,RepN]
  exact ⟨_,_,_,_,rfl,rfl,⟨_,[w],rfl,rfl,hc'⟩,h3⟩
theorem repL_agg1 {c:Cx} {f1:α→LV}:∀ {xs:List α} {us:List Value},RepL c (xs.map fun x=>.agg [f1 x]) (us.map fun u=>Value.agg #[u])→RepL c (xs.map f1) us
 | [],us,h=>by simp only [List.map_nil,RepL] at h ⊢; simpa using h
 | x :: xs,[],h=>by simp only [List.map_cons,List.map_nil,RepL] at h; obtain ⟨_,_,h,_⟩:=h; cases h
 | x :: xs,u :: us,h=>by
  simp only [List.map_cons,RepL] at h ⊢
  obtain ⟨v,vs',h1,h2,h3⟩:=h
  cases h1
  simp only [RepV,RepL] at h2
  obtain ⟨ws,hw,v,vs2,rfl,h4,rfl⟩:=h2
  have:u=v:=by have:=congrArg (fun z=>match z with | Value.agg q=>q.toList | _=>[]) hw; simpa using this
  subst this
  exact ⟨_,_,rfl,h4,repL_agg1 h3⟩
theorem flat_agg1:∀ (us:List Value),(∀ v ∈ us,v.cells=#[v])→flat (us.map fun u=>Value.agg #[u])=flat us
 | [],_=>rfl
 | u :: us,h=>by
  have ih:=flat_agg1 us fun v hv=>h v (by simp [hv])
  unfold flat at ih ⊢
  rw [List.map_cons,List.flatMap_cons,List.flatMap_cons,ih,h u (by simp)]; rfl
theorem Wk.unnest1 {el:List (Nat × LV)} {ml:List (Nat × LE)} {f1:α→LV} (id e:Nat) (os:List (Nat × Nat × Nat)) (xs:List α) (hid:Mem.of ml id=some (.nest e 1 os (xs.map fun x=>.agg [f1 x]))) (hok:OkF 1 f1) (hsc:∀ x,(f1 x).scalar=true) :
  Wk pr (Env.of el) (Mem.of ml) (Env.of el) ((Mem.of ml).gone id (.arr e 1 (xs.map f1)) []):=by
 intro N c a hrep
 have he:=hrep.mem.ent id
 rw [hid] at he
 simp only [RepE] at he
 obtain ⟨u,vs,bs,hB,hk,hown,hn,hc,hnd,hno⟩:=he
 obtain ⟨us,rfl,hn'⟩:=RepN.un1 hn
 obtain ⟨c',hw,hb,h2,h3⟩:=hrep.mem.updS (pr:=pr) id [] (by simp) (by simp) (by simp) (.arr e 1 (xs.map f1)) (.arr u 1 (xs.map f1).length []) c.w rfl rfl rfl (Nat.le_refl _) (Nat.le_refl _)
  (fun b _ _=>rfl) (fun b hb=>.inl ⟨_,hB,hb.elim .inl (fun h=>by cases h)⟩) (by rw [hB]; exact ⟨_,_,_,rfl,by simp,fun _=>rfl⟩) (fun _ be0 h0=>by rw [hB] at h0; cases h0; exact ⟨_,_,_,rfl,by simp,fun _=>rfl⟩)
  (fun c' hw hle hble hO hown2=>by
   simp only [RepE]
   have hr:RepL c' (xs.map f1) us:=repL_agg1 (hn'.frz hle hw (fun b hb=>by
    have hbo:c.own b:=⟨id,_,hB,.inr hb⟩
    rintro (h | h)
    ·rw [hO] at h; exact hrep.mem.notO b hbo h
    ·rcases hown2 b h with h | ⟨j,be0,q1,q2,q3⟩
     ·rcases h with h | h
      ·exact hno b h hb
      ·cases h
     ·exact q1 (hrep.mem.inj j id be0 _ b q2 hB q3 (.inr hb))))
   have hone:∀ v ∈ us,v.cells=#[v]:=fun v hv=>by
    obtain ⟨j,hj⟩:=List.mem_iff_getElem?.1 hv
    have hlen:=hr.length
    have hlt:j<(xs.map f1).length:=by rw [hlen]; exact (List.getElem?_eq_some_iff.1 hj).1
    obtain ⟨w,hw2,hrw⟩:=hr.get (List.getElem?_eq_getElem hlt)
    rw [hj] at hw2; cases hw2
    rw [List.getElem_map] at hrw
    exact vcells_of_oneCell (oneCell_of_scalar (hsc _) hrw)
   have hflat:flat (us.map fun u=>Value.agg #[u])=flat us:=by
    exact flat_agg1 us hone
   refine ⟨u,us,rfl,by omega,?_,hr,fun v hv=>?_,hok.pureL xs⟩
   ·rw [hw,← hflat]; simpa using hown
   ·have:=hc (.agg #[v]) (List.mem_map.2 ⟨v,hv,rfl⟩)
    rw [hone v hv]
    exact ⟨rfl,fun y hy=>this.2 y hy⟩)
 exact ⟨c',hw,⟨fun i=>h3.repV (hrep.env i),h2,hrep.size,hrep.defers⟩,h3.grow⟩
theorem ok_mkI0 {x y:Operand} {t ty:TypeId} {pos:String} {af:Array Edge} {g:Option (Nat × Bool)} {d e0 k id:Nat} {z:LV} {n:Int} (hte:telem P t=some e0) (hz:tzero P e0=some z) (hrow:trow P e0=true) (hs:tsize P e0=k) (hx:ev x=.int .i64 n) (hy:ev y=.int .i64 n) (h0:0≤n) (hb:n≤549755813888) (hid:m id=.none) (hp:z.pure=true) :
  OpOkR P pr ⟨some d,.makeSlice t x y,ty,pos,af,g⟩ ev m (.arr id n.toNat) (m.put id (.arr e0 k (List.replicate n.toNat z))):=by
 have hu:=elem_of hte
 obtain ⟨i,zv,hi,hzv,hzs,hz1,hsz,hby,hts⟩:=row_of hrow
 subst hs
 refine OpOkR.value fun c a hev hm=>?_
 have hvx:=hev x (by simp [Op.operands])
 have hvy:=hev y (by simp [Op.operands])
 rw [hx] at hvx
 rw [hy] at hvy
 simp only [RepV] at hvx hvy
 have hzz:ofV zv=z:=by
  simp only [tzero,hi,hzv] at hz
  split at hz
  ·simpa using hz
  ·cases hz
 have hbytes:(i.bytes:Int) * n≤281474976710656:=by
  have h1:(i.bytes:Int) * n≤256 * n:=Int.mul_le_mul_of_nonneg_right (by omega) h0
  omega
 have hrun:=run_make (P:=P) c.w t e0 i zv hu hi hzv .i64 .i64 n n h0 (Int.le_refl _) hbytes (by omega)
 have hB:=hm.fresh hid
 have hcells:(madeCells zv.cells (n.toNat * i.size)).toList=flat (List.replicate n.toNat zv):=by
  apply List.ext_getElem?
  intro j
  rw [flat_get hsz (fun v hv=>by rw [List.eq_of_mem_replicate hv]; exact hzs)]
  simp only [Array.getElem?_toList,madeCells,Array.getElem?_map,Array.getElem?_range,List.getElem?_replicate,hzs]
  by_cases hj:j<n.toNat * i.size
  ·have h1:j / i.size<n.toNat:=(Nat.div_lt_iff_lt_mul hsz).2 hj
   have h2:j % i.size<zv.cells.size:=by rw [hzs]; exact Nat.mod_lt _ hsz
   rw [if_pos hj,if_pos h1]
   simp [h2]
  ·have h1:¬ j / i.size<n.toNat:=fun hh=>hj ((Nat.div_lt_iff_lt_mul hsz).1 hh)
   rw [if_neg hj,if_neg h1]
   rfl
 have hsize:(madeCells zv.cells (n.toNat * i.size)).size=n.toNat * i.size:=size_madeCells _ _
 obtain ⟨c',hw,hb',h2,h3⟩:=hm.upd (pr:=pr) id (.arr e0 (tsize P e0) (List.replicate n.toNat z)) (.arr (.slice (some ⟨c.w.heap.size,0,.none⟩) n.toNat n.toNat) (tsize P e0) n.toNat [])
  (c.w.alloc (.cells (madeCells zv.cells (n.toNat * i.size)) e0)) rfl rfl rfl (Nat.le_refl _) (by simp)
  (fun b hb' _=>hpOld c.w _ b hb') (fun b hb'=>by simp [BE.has,Value.ownBlock] at hb'; exact .inr (by omega)) (by rw [hB]; trivial) (fun _ be0 h0=>by rw [hB] at h0; cases h0)
  (fun c' hw hle hble=>by
   simp only [RepE,hts,List.length_replicate]
   refine ⟨_,List.replicate n.toNat zv,rfl,hsz,⟨by rw [flat_length (k:=i.size) (fun v hv=>by rw [List.eq_of_mem_replicate hv]; exact hzs)]; simp,.inr ⟨c.w.heap.size,n.toNat,_,rfl,Nat.zero_le _,by rw [hw]; exact heap_alloc_new c.w _,Nat.le_refl _,by simp only [maxLen]; omega,hsize,?_⟩⟩,?_,?_,?_⟩
   ·rw [List.take_of_length_le (by rw [Array.length_toList,hsize]; exact Nat.le_refl _),hcells]
   ·refine RepL.of (by simp) fun j q r hq hr=>?_
    rw [List.getElem?_replicate] at hq hr
    split at hq
    ·rename_i hj
     rw [if_pos hj] at hr
     cases hq; cases hr; rw [← hzz]; exact repV_ofV c' zv
    ·cases hq
   ·intro v hv
    rw [List.eq_of_mem_replicate hv]
    exact ⟨hzs,hz1⟩
   ·refine pureL_iff.2 fun q hq=>?_
    rw [List.eq_of_mem_replicate hq]; exact hp)
 refine ⟨.slice (some ⟨c.w.heap.size,0,.none⟩) n.toNat n.toNat,c',by rw [hw]; simp [execOp,hvx,hvy,hrun],?_,h2,h3⟩
 simp only [RepV]
 exact ⟨rfl,_,_,_,_,hb',Nat.le_refl _,fun _=>rfl⟩
theorem ok_mkI {d1:Nat} {z:α} {zc:LV} {v:List α} {u:Int} (hte:telem P t=some e0) (hz:tzero P e0=some zc) (hrow:trow P e0=true) (hs:tsize P e0=k) (hx:ev x=.int .i64 u) (hy:ev y=.int .i64 u) (hfz:zc=f z) (hv:mkl z u=some v) (hid:m id=.none) (hp:zc.pure=true) :
  OpOkR P pr ⟨some d1,.makeSlice t x y,ty,pos,af,gd⟩ ev m (.arr id v.length) (m.put id (.arr e0 k (v.map f))):=by
 unfold mkl at hv
 split at hv
 ·rename_i hb
  cases hv
  have:=ok_mkI0 (pr:=pr) (ty:=ty) (pos:=pos) (af:=af) (g:=gd) (d:=d1) hte hz hrow hs hx hy hb.1 hb.2 hid hp
  rw [List.length_replicate,List.map_replicate,← hfz]; exact this
 ·cases hv
theorem Wk.undBx {el:List (Nat × LV)} {ml:List (Nat × LE)} (bid j:Nat) {cs cs':List LV} (hb:Mem.of ml bid=some (.box cs)) (hcs:cs.set j .und=cs') :
  Wk pr (Env.of el) (Mem.of ml) (Env.of el) ((Mem.of ml).put bid (.box cs')):=by
 subst hcs
 intro N c a hrep
 refine ⟨c,rfl,⟨hrep.env,⟨fun i=>?_,hrep.mem.inj,hrep.mem.notO,hrep.mem.Olt⟩,hrep.size,hrep.defers⟩,Grow.refl pr c⟩
 by_cases hi:i=bid
 ·subst hi
  have he:=hrep.mem.ent i
  rw [hb] at he
  simp only [Mem.put,if_true]
  simp only [RepE] at he ⊢
  obtain ⟨b,vs,e,h1,h2,h3,h4⟩:=he
  refine ⟨b,vs,e,by rw [h1,List.length_set],h2,?_,h4⟩
  refine RepL.of (by rw [List.length_set]; exact h3.length) fun q x v hx hv=>?_
  rw [List.getElem?_set] at hx
  split at hx
  ·split at hx
   ·cases hx; simp only [RepV]
   ·cases hx
  ·obtain ⟨w,hw,hr⟩:=h3.get hx
   rw [hv] at hw; cases hw; exact hr
 ·simp only [Mem.put,hi,if_false]; exact hrep.mem.ent i
theorem Foot.put0 {o:Oper} {ids:List Nat} {j:Nat} (hids:ids=[j]) (h:∀ m0:Mem,m0 j=m j→OpOkR P pr o ev m0 lv m0):Foot P pr o ev ids m lv m:=by
 subst hids
 refine ⟨fun _ _=>rfl,fun m0 hm0=>?_⟩
 refine Eq.mp (congrArg _ ?_) (h m0 (hm0 j (by simp)))
 funext q
 by_cases hq:q=j
 ·subst hq; simp [hm0 q (by simp)]
 ·simp [hq]
theorem Foot.put1 {o:Oper} {ids:List Nat} {j:Nat} {le:LE} (hids:ids=[j]) (h:∀ m0:Mem,m0 j=m j→OpOkR P pr o ev m0 lv (m0.put j le)):Foot P pr o ev ids m lv (m.put j le):=by
 subst hids
 refine ⟨fun q hq=>by simp at hq; simp [Mem.put,hq],fun m0 hm0=>?_⟩
 refine Eq.mp (congrArg _ ?_) (h m0 (hm0 j (by simp)))
 funext q
 by_cases hq:q=j <;> simp [Mem.put,hq]
theorem Foot.put2 {o:Oper} {ids:List Nat} {j l:Nat} {le le':LE} (hids:ids=[j,l]) (h:∀ m0:Mem,m0 j=m j→m0 l=m l→OpOkR P pr o ev m0 lv ((m0.put j le).put l le')):Foot P pr o ev ids m lv ((m.put j le).put l le'):=by
 subst hids
 refine ⟨fun q hq=>by simp at hq; simp [Mem.put,hq.1,hq.2],fun m0 hm0=>?_⟩
 refine Eq.mp (congrArg _ ?_) (h m0 (hm0 j (by simp)) (hm0 l (by simp)))
 funext q
 by_cases hq:q=j
 ·by_cases hq2:q=l <;> simp [Mem.put,hq,hq2]
 ·by_cases hq2:q=l <;> simp [Mem.put,hq,hq2]
theorem ok_apA {j el kk:Nat} {xs ys r:List α} (he:telem P t=some el) (hr:trow P el=true) (hs:tsize P el=kk) (hx:ev x=.arr id xs.length) (hm:m id=some (.arr el kk (xs.map f))) (hp:¬ pr id) (hy:ev y=.lst kk (ys.map f)) (hl:app xs ys=some r) :
  OpOk P pr ⟨some j,.call ⟨.builtin .append,#[x,y],#[t,t]⟩,ty,pos,af,gd⟩ ev m (.arr id r.length) (m.put id (.arr el kk (r.map f))):=by
 obtain ⟨lv,m',⟨rfl,rfl⟩,h⟩:=LOp_sound (ro:=[]) (K:=fun lv m'=>lv=.arr id r.length∧m'=m.put id (.arr el kk (r.map f))) (P:=P) (pr:=pr) (o:=⟨some j,.call ⟨.builtin .append,#[x,y],#[t,t]⟩,ty,pos,af,gd⟩) (ev:=ev) (m:=m)
  (oAp (f:=f) he hr hs hx hm hp hy hl ⟨rfl,rfl⟩)
 exact h
end
end Go.L
set_option linter.unusedVariables false
set_option linter.unusedSimpArgs false
namespace Go.L
open Go.Sort Go.Proofs Go.Shelf Go.Lib
def sortS (xs:List Int):Option (List Int):=if xs.length<1000000 then some (xs.mergeSort fun x y=>decide (x≤y)) else .none
theorem sortS_len {xs r:List Int} (h:sortS xs=some r):xs.length=r.length:=by
 unfold sortS at h
 split at h
 ·cases h; simp
 ·cases h
theorem sortS_ok {P:Program} {ρ:Ren} (L:Lays.n189 P ρ) {f:Nat} (hf:ρ.f 189=f) {xs ys:List Int} (id e:Nat) (h:sortS xs=some ys) :
  LCall P f [.arr id xs.length] (Mem.of [(id,.arr e 1 (xs.map (LV.int .i64)))]) (.tup []) (Mem.of [(id,.arr e 1 (ys.map (LV.int .i64)))]):=by
 subst hf
 have hyl:=(sortS_len h).symm
 unfold sortS at h
 split at h
 case isFalse=>cases h
 rename_i hlen
 have hys:(xs.mergeSort fun x y=>decide (x≤y))=ys:=Option.some.inj h
 intro c vs hm ha
 simp only [RepL] at ha
 obtain ⟨v0,vs1,rfl,hv0,rfl⟩:=ha
 obtain ⟨us,hB,hk,hown,hl,hc,hp⟩:=arr_now (e:=e) (k:=1) (xs:=xs.map fun x=>LV.int .i64 x) hm hv0 (by simp [Mem.of]) (by simp)
 have hus:=nums_exact (fun x:Int=>x) hl
 subst hus
 rw [flat_ints (fun x:Int=>x)] at hown
 have hlenm:(xs.map fun x=>LV.int .i64 x).length=xs.length:=by simp
 rw [hlenm] at hown hB
 by_cases hx0:xs=[]
 ·subst hx0
  have hy0:ys=[]:=by rw [← hys]; exact List.mergeSort_nil
  subst hy0
  obtain ⟨ad,cp,rfl⟩:=ownsRow_len hown
  refine (Any.slices_Sort_int_none L ad cp c.w).mono ?_
  rintro en' w' ⟨rfl,rfl⟩
  exact ⟨_,c,rfl,rfl,hm,by simp only [RepV,RepL]; exact ⟨[],rfl,rfl⟩,Grow.refl _ c⟩
 ·have hxl : 0 < xs.length := List.length_pos_iff.2 hx0
  rcases hown.2 with ⟨rfl,h0⟩ | ⟨blk,cp,cur,rfl,_,hg,hnc,hcm,hcs,htk⟩
  ·omega
  ·have hblk : blk < c.w.heap.size := (Array.getElem?_eq_some_iff.1 hg).1
   have hcur:∀ j,j<xs.length→cur[j]?=some (.int .i64 xs[j]!):=by
    intro j hj
    have h1:=congrArg (fun l=>l[j]?) htk
    simp only [List.getElem?_take,Nat.mul_one,List.getElem?_map] at h1
    rw [if_pos hj] at h1
    rw [← Array.getElem?_toList,h1]
    simp [hj]
   have hH:Holds (Value.int .i64) c.w blk 0 xs.toArray:=by
    intro j hj
    have hj':j<xs.length:=by simpa using hj
    constructor
    ·simp [World.cell?,hg,hcur j hj']
    ·simp [World.frozen?,hg]
   refine (Any.slices_Sort_int L blk 0 cp xs c.w hH hblk (by omega)).mono ?_
   rintro en' w' ⟨rfl,q,os,rfl⟩
   rw [hys]
   show ∃ (v:Value) (c':Cx),_∧c'.w=sortWorld (Value.int .i64) c.w blk 0 q ys.toArray os∧_
   obtain ⟨s1,s2,s3,s4,s5⟩:=sw_os (Value.int .i64) c.w blk q ys.toArray os
   have hkp:=sw_keep (Value.int .i64) c.w blk q ys.toArray os
   have hat:=sw_at (Value.int .i64) c.w blk q ys.toArray os hg
   obtain ⟨c',hw',hB',hm',hst⟩:=hm.upd (pr:=fun i=>Mem.of [(id,LE.arr e 1 (xs.map (LV.int .i64)))] i ≠ .none) id (.arr e 1 (ys.map (LV.int .i64))) _ (sortWorld (Value.int .i64) c.w blk 0 q ys.toArray os) s1 s2 s3 s4 s5 
    (fun b hb hn=>hkp b hb fun h=>hn _ hB (by rw [h]; simp [BE.has,Value.ownBlock]))
    (fun b hb=>.inl ⟨_,hB,hb⟩) (by rw [hB]; exact BLe.refl _) (fun _ be0 h=>by rw [hB] at h; cases h; exact .refl _) (by
     intro c1 hc1 hle1 hBl
     simp only [RepE]
     refine ⟨_,ys.map fun x=>Value.int .i64 x,by simp only [List.length_map,hyl]; rfl,by decide,?_,nums_rep (fun x:Int=>x) ys,?_,?_⟩
     ·rw [flat_ints (fun x:Int=>x),List.length_map,hyl,hc1]
      refine ⟨by simp [hyl],.inr ⟨blk,cp,_,rfl,Nat.zero_le _,hat,hnc,hcm,?_,?_⟩⟩
      ·simpa [putCells] using hcs
      ·apply List.ext_getElem?
       intro j
       have hcur':cur.size=cp:=by simpa using hcs
       by_cases hj:j<xs.length
       ·have hj3:j<ys.length:=by omega
        rw [List.getElem?_take,if_pos (by omega),Array.getElem?_toList]
        simp only [putCells,Array.getElem?_mapIdx,Nat.zero_le,Nat.zero_add,Nat.sub_zero,true_and]
        rw [Array.getElem?_eq_getElem (by omega)]
        simp [hj3]
       ·rw [List.getElem?_take,if_neg (by omega),List.getElem?_eq_none (by simp; omega)]
     ·intro v hv
      obtain ⟨y,_,rfl⟩:=List.mem_map.1 hv
      exact ⟨rfl,fun z hz=>by simp [Value.cells] at hz; subst hz; rfl⟩
     ·exact pure_ints (fun x:Int=>x) ys)
   refine ⟨_,c',rfl,hw',?_,by simp only [RepV,RepL]; exact ⟨[],rfl,rfl⟩,hst.grow⟩
   have hme:Mem.put (Mem.of [(id,LE.arr e 1 (xs.map (LV.int .i64)))]) id (.arr e 1 (ys.map (LV.int .i64)))=Mem.of [(id,LE.arr e 1 (ys.map (LV.int .i64)))]:=by
    funext i
    by_cases hi:i=id
    ·subst hi; simp [Mem.put,Mem.of]
    ·simp [Mem.put,Mem.of,hi]
   rwa [hme] at hm'
end Go.L
set_option linter.unusedVariables false
set_option linter.unusedSimpArgs false
namespace Go.L
def pickL {α:Type} (xs:List α) (es:List MapEntry) (seen:Array Nat):List α:=((xs.zip es).filter fun p=>!seen.contains p.2.born).map (·.1)
section
variable {P:Program} {N:Nat} {pr:Nat→Prop} {e:Env} {m:Mem} {α β:Type} {f:α→LV} {g:β→LV}
def LHD (P:Program) (N:Nat) (pr:Nat→Prop) (code:Code) (Q:Exit→Env→Mem→Prop) (e:Env) (m:Mem):Prop :=
 ∀ (c:Cx) (a:Act),Rep N c e m a→code.wp P (fun x a' w'=>∃ e' m',∃ c':Cx,c'.w=w'∧Rep N c' e' m' a'∧Grow pr c c'∧Q x e' m') a c.w
theorem LH.toD {code:Code} {Q:Exit→Env→Mem→Prop} (h:LH P N pr code Q e m):LHD P N pr code Q e m:=by
 obtain ⟨ex,e',m',h1,h2⟩:=h
 intro c a hr
 refine wp_mono (h1 c a hr) ?_
 rintro x a' w' ⟨rfl,c',hw,hr',hg⟩
 exact ⟨e',m',c',hw,hr',hg,h2⟩
theorem LHD.wk {code:Code} {Q:Exit→Env→Mem→Prop} {e':Env} {m':Mem} (hw:Wk pr e m e' m') (h:LHD P N pr code Q e' m'):LHD P N pr code Q e m:=by
 intro c a hr
 obtain ⟨c1,hw1,hr1,hg1⟩:=hw N c a hr
 rw [← hw1]
 refine wp_mono (h c1 a hr1) ?_
 rintro x a' w' ⟨e2,m2,c2,hw2,hr2,hg2,hq⟩
 exact ⟨e2,m2,c2,hw2,hr2,hg1.trans hg2,hq⟩
theorem LHD.seq {x y:Code} {Q:Exit→Env→Mem→Prop} (h:LHD P N pr x (thenQ (LHD P N pr y Q) Q) e m):LHD P N pr (.seq x y) Q e m:=by
 intro c a hr
 refine wp_seq (wp_mono (h c a hr) ?_)
 rintro x a' w' ⟨e',m',c',rfl,hr',hg,hq⟩
 cases x with
 | normal =>
  refine wp_mono (hq c' a' hr') ?_
  rintro x a2 w2 ⟨e2,m2,c2,hw2,hr2,hg2,hq2⟩
  exact ⟨e2,m2,c2,hw2,hr2,hg.trans hg2,hq2⟩
 | exit id=>exact ⟨e',m',c',rfl,hr',hg,hq⟩
 | goto l=>exact ⟨e',m',c',rfl,hr',hg,hq⟩
 | ret=>exact ⟨e',m',c',rfl,hr',hg,hq⟩
 | panic ch=>exact ⟨e',m',c',rfl,hr',hg,hq⟩
 | outgrown=>exact ⟨e',m',c',rfl,hr',hg,hq⟩
theorem LHD.seqT {l:List Oper} {rid:Nat} {yc:Code} {Q:Exit→Env→Mem→Prop} (el:List (Nat × LV)) (ml:List (Nat × LE)) (hd:dstsOk N l=true) (h:SOps P N pr l.toArray l (fun e m=>Wk pr e m (Env.of el) (Mem.of ml)) e m) (hr:LHD P N pr yc Q (Env.of el) (Mem.of ml)):LHD P N pr (.seq (.region rid l.toArray false) yc) Q e m :=
 LHD.seq (LH.toD (LH.loneT el ml hd h hr))
def Iter (f:α→LV) (g:β→LV) (xs:List (α × β)) (r:Nat) (left:List (α × β)) (cur:Option (α × β)) (c:Cx):Prop :=
 ∃ b since seen last es ck,c.O r∧(b<c.w.heap.size∧¬ c.own b)∧c.w.heap[r]?=some (.mapIter (some b) since seen last)∧c.w.heap[b]?=some (.map es ck)∧BornOk es ck∧(∀ x ∈ es.toList,x.born<since)∧since≤last∧since≤ck∧es.toList.length=xs.length ∧
  (∀ (j:Nat) z,xs[j]?=some z→∃ en,es.toList[j]?=some en∧RepV c (f z.1) en.key∧RepV c (g z.2) en.val)∧left=pickL xs es.toList seen ∧
  ∀ z,cur=some z→∃ (seen0:Array Nat) (en:MapEntry) (j:Nat),seen=seen0.push en.born∧last=ck∧xs[j]?=some z∧es.toList[j]?=some en
theorem Iter.grow {xs left:List (α × β)} {r:Nat} {cur:Option (α × β)} {c c':Cx} (hf:∀ z,(f z).pure=true) (hg:∀ z,(g z).pure=true) (h:Iter f g xs r left cur c) (hm:RepM c m) (hgr:Grow pr c c'):Iter f g xs r left cur c':=by
 obtain ⟨b,since,seen,last,es,ck,h1,h2,h3,h4,h5,h6,h7,h7',h8,h9,h10,h11⟩:=h
 have k:∀ q,c.O q→c'.w.heap[q]?=c.w.heap[q]?:=fun q hq=>hgr.keep q (hm.Olt q hq) fun ho=>hm.notO q ho hq
 refine ⟨b,since,seen,last,es,ck,by rw [hgr.O]; exact h1,⟨Nat.lt_of_lt_of_le h2.1 hgr.size,fun ho=>(hgr.own b ho).elim h2.2 fun hl=>absurd h2.1 (Nat.not_lt.2 hl)⟩,(k r h1).trans h3,(hgr.keep b h2.1 h2.2).trans h4,h5,h6,h7,h7',h8,fun j z hz=>?_,h10,h11⟩
 obtain ⟨en,e1,e2,e3⟩:=h9 j z hz
 exact ⟨en,e1,RepV.mono hgr.le _ _ (fun id hid=>by rw [noref_of_pure _ (hf _)] at hid; cases hid) e2,RepV.mono hgr.le _ _ (fun id hid=>by rw [noref_of_pure _ (hg _)] at hid; cases hid) e3⟩
structure GI (pr:Nat→Prop) (S:Nat→Prop) (c0 c:Cx):Prop where
 O:c.O=fun x=>c0.O x ∨ S x
 os:c.w.os=c0.w.os
 tape:c.w.tape=c0.w.tape
 output:c.w.output=c0.w.output
 drawn:c0.w.drawn≤c.w.drawn
 size:c0.w.heap.size≤c.w.heap.size
 keep:∀ b,b<c0.w.heap.size→¬ c0.own b→c.w.heap[b]?=c0.w.heap[b]?
 own:∀ b,c.own b→c0.own b ∨ c0.w.heap.size≤b
 prot:∀ id be,pr id→c0.B id=some be→∃ be',c.B id=some be'∧be.Same be'
theorem GI.grow {S:Nat→Prop} {c0 c c':Cx} (h:GI pr S c0 c) (k:Grow pr c c'):GI pr S c0 c' where
 O:=by rw [k.O,h.O]
 os:=k.os.trans h.os
 tape:=k.tape.trans h.tape
 output:=k.output.trans h.output
 drawn:=Nat.le_trans h.drawn k.drawn
 size:=Nat.le_trans h.size k.size
 keep b hb ho:=(k.keep b (Nat.lt_of_lt_of_le hb h.size) fun hc=>(h.own b hc).elim ho fun hl=>absurd hb (Nat.not_lt.2 hl)).trans (h.keep b hb ho)
 own b hb:=(k.own b hb).elim (h.own b) fun hl=>.inr (Nat.le_trans h.size hl)
 prot id be hp hb:=by
  obtain ⟨be1,h1,h2⟩:=h.prot id be hp hb
  obtain ⟨be2,h3,h4⟩:=k.prot id be1 hp h1
  exact ⟨be2,h3,h2.trans h4⟩
theorem GI.done {S:Nat→Prop} {c0 c:Cx} {a:Act} (h:GI pr S c0 c) (hr:Rep N c e m a):∃ c':Cx,c'.w=c.w∧Rep N c' e m a∧Grow pr c0 c':=by
 let c':Cx:=⟨c.w,c.B,c0.O⟩
 have hO:∀ x,c0.O x→c.O x:=fun x hx=>by rw [h.O]; exact .inl hx
 have hle:c.Le c':=⟨Nat.le_refl _,fun b _ hX=>⟨rfl,fun hX'=>hX (hX'.imp (hO b) (fun q=>q))⟩⟩
 refine ⟨c',rfl,⟨fun i=>RepV.mono hle _ _ (fun id _=>BLe.refl _) (hr.env i),⟨fun id=>RepE.mono hle (fun id=>BLe.refl _) (fun be b _ _=>rfl) (hr.mem.ent id),hr.mem.inj,fun b ho hO'=>hr.mem.notO b ho (hO b hO'),fun b hb=>hr.mem.Olt b (hO b hb)⟩,hr.size,hr.defers⟩,⟨rfl,h.os,h.tape,h.output,h.drawn,h.size,h.keep,h.own,h.prot⟩⟩
end
end Go.L
set_option linter.unusedVariables false
namespace Go.L
open Go.RowKit
abbrev cx0 (w:World):Cx:=⟨w,fun _=>.none,fun _=>False⟩
theorem rpN {c:Cx}:RepL c [] []:=by simp [RepL]
theorem rpC {c:Cx} {x:LV} {v:Value} {xs:List LV} {vs:List Value} (h:RepV c x v) (hr:RepL c xs vs):RepL c (x :: xs) (v :: vs):=by simp only [RepL]; exact ⟨v,vs,rfl,h,hr⟩
theorem rpI {c:Cx} {k:IntKind} {n:Int}:RepV c (.int k n) (.int k n):=by simp [RepV]
theorem noX (w:World) (b:Nat):¬ (cx0 w).X b:=by
 rintro (h | ⟨_,_,h,_⟩)
 ·exact h
 ·cases h
theorem repInts {c:Cx} {k:IntKind}:∀ (zs:List Int),RepL c (zs.map (LV.int k)) (zs.map (Value.int k))
 | []=>by simp [RepL]
 | z :: zs=>rpC rpI (repInts zs)
theorem flatInts {k:IntKind}:∀ (zs:List Int),flat (zs.map (Value.int k))=zs.map (Value.int k)
 | []=>rfl
 | z :: zs=>by
  have:=flatInts (k:=k) zs
  simp only [flat,List.map_cons,List.flatMap_cons,Value.cells] at this ⊢
  rw [this]; rfl
theorem rpR {k:IntKind} {w:World} {a:Option Addr} {len cap:Nat} {zs:List Int} (h:(a=.none∧len=0∧cap=0∧zs=[]) ∨ ∃ x,a=some x∧len≤cap∧cap≤maxLen∧zs.length=cap∧(∀ i,i<zs.length→w.cell? (x.add i)=some (.int k (zs.getD i 0)))∧∀ n ∈ zs,(Lit.int k n).wf=true) :
  RepV (cx0 w) (.lst 1 (List.map (LV.int k) (zs.take len))) (.slice a len cap):=by
 rcases h with ⟨rfl,rfl,rfl,rfl⟩ | ⟨x,rfl,hl,hm,hz,hcell,_⟩
 ·simp only [RepV]
  exact ⟨.none,0,rfl,Nat.le_refl _,fun _=>rfl,rfl,.inl rfl⟩
 ·simp only [RepV]
  have hlen:(List.map (LV.int k) (zs.take len)).length=len:=by simp; omega
  refine ⟨some x,cap,by rw [hlen],by omega,(fun h=>by cases h),pureL_iff.2 fun y hy=>?_,?_⟩
  ·obtain ⟨n,_,rfl⟩:=List.mem_map.1 hy; rfl
  ·by_cases h0:len=0
   ·left; subst h0; simp
   ·right
    obtain ⟨b,off,spot⟩:=x
    have hc:=hcell 0 (by omega)
    have hspot:spot=.none:=by simpa [Addr.add] using World.cell?_spot hc
    subst hspot
    refine ⟨b,off,(zs.take len).map (Value.int k),rfl,?_,noX w b,repInts _,?_,?_⟩
    ·by_cases hlt:b<w.heap.size
     ·exact hlt
     ·have:w.heap[b]?=.none:=by simp; omega
      simp [World.cell?,Addr.add,this] at hc
    ·intro u hu
     obtain ⟨n,_,rfl⟩:=List.mem_map.1 hu
     exact ⟨rfl,fun y hy=>by simp [Value.cells] at hy; subst hy; rfl⟩
    ·rw [flatInts]
     intro j v hv
     simp only [List.getElem?_map,List.getElem?_take] at hv
     split at hv
     ·rename_i hj
      have hj2:j<zs.length:=by omega
      have:=hcell j hj2
      simp [hj2] at hv
      have hadd:(Addr.mk b off .none).add j=Addr.mk b (off+j) .none:=by
       simp only [Addr.add]; split
       ·rename_i h; subst h; rfl
       ·rfl
      rw [hadd] at this
      rw [this,← hv]; simp [hj2]
     ·cases hv
theorem lawWalk {P:Program} {f:Nat} {args:List LV} (h:LCall P f args (Mem.of []) (.bool true) (Mem.of [])) (w:World) (vs:List Value) (ha:RepL (cx0 w) args vs) :
  Calls P f vs.toArray w fun e w'=>e=.returned (.bool true)∧Below w.heap.size w w':=by
 refine (PCall.calls h w vs ha).mono ?_
 rintro en w' ⟨⟨v,c',rfl,rfl,hv⟩,hb⟩
 simp only [RepV] at hv
 subst hv
 exact ⟨rfl,hb⟩
end Go.L
