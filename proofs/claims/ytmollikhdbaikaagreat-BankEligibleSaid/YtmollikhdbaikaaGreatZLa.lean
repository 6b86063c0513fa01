import Derived.Below
import Derived.Orders
import Derived.Deep.MidRow
import Derived.Laws.AppendOwn
import Derived.Laws.AppendOwnNone
import Derived.Laws.StructEq
import Derived.KernelRfl
import Derived.Laws.MakeOwn
import Derived.Laws.OwnMore
import Derived.Great.BuildSlice
import Derived.Deep.LoopGhost
set_option linter.unusedVariables false
set_option linter.unusedSimpArgs false
namespace Go.L
theorem pn (w:World) (o:Obj) (i:Nat) (h:i<w.heap.size):(w.alloc o).heap[i]?=w.heap[i]?:=by
 show (w.heap.push o)[i]?=_
 rw [Array.getElem?_push_lt h,Array.getElem?_eq_getElem h]
inductive LV where
 | eB
 | int (k:IntKind) (n:Int)
 | bool (b:Bool)
 | nil
 | fe
 | ak (k:Nat) (xs:List LV)
 | ag (cs:List LV)
 | arr (id n:Nat)
 | ptr (id o:Nat)
 | bE (id n i o:Nat)
 | agg (cs:List LV)
 | de (vs:List LV)
 | fn (f:Nat) (cap:List LV)
 /-- a slice of GZ the length alone is known -/
 | pL (n:Nat)
 /-- a slice Ih reads as xs,with no room behind,never written -/
 | full (k:Nat) (xs:List LV)
 | str (s:ByteArray)
 /-- the address of an iterator -/
 | it (r:Nat)
 /-- no function -/
 | lZ
 /-- a function with Uj first arguments -/
 | vj (f:Nat) (fs:List LV)
 | mp (id:Nat)
 /-- a slice over a whole row Ih Au turns,behind GZ Au else reads (e: the element type); with false: 'V3 -/
 | aJ (t:Bool) (e k:Nat) (xs:List LV)
 /-- the address of cells of Tn a row; with false: 'Uu -/
 | fI (t:Bool) (cs:List LV)
 deriving Inhabited
inductive LE where
 | box (cs:List LV)
 | arr (e k:Nat) (xs:List LV)
 | map (kt vt:Nat) (es:List (LV × LV))
 /-- a row Uy elements own LJ: os Wb at GZ cells (and the element type and Uj cells of the LJ there) -/
 | nest (e k:Nat) (os:List (Nat × Nat × Nat)) (xs:List LV)
 /-- Tn a row,of GZ the slice at the cell o of the element i is the row id2 (of n2 elements) -/
 | cU (e k:Nat) (os:List (Nat × Nat × Nat)) (xs:List LV) (i o id2 n2:Nat)
 /-- a row Ih WB given UH -/
 | dead
abbrev Mem:=Nat→Option LE
abbrev Env:=Nat→LV
def Mem.none:Mem:=fun _=>Option.none
def Mem.put (m:Mem) (id:Nat) (x:LE):Mem:=fun i=>if i=id then some x else m i
def Env.put (e:Env) (d:Nat) (v:LV):Env:=fun i=>if i=d then v else e i
def Env.fC (e:Env) (d:Option Nat) (v:LV):Env:=match d with | some d=>e.put d v | .none=>e
def Env.of:List (Nat × LV)→Env
 | []=>fun _=>.eB
 | (d,v) :: r=>fun i=>if i=d then v else Env.of r i
def Mem.of:List (Nat × LE)→Mem
 | []=>fun _=>Option.none
 | (d,v) :: r=>fun i=>if i=d then some v else Mem.of r i
mutual
def LV.pure:LV→Bool
 | .ag cs=>LV.bj cs
 | .fI _ cs=>LV.bj cs
 | .arr _ _=>false
 | .ptr _ _=>false
 | .bE _ _ _ _=>false
 | .mp _=>false
 | .agg cs=>LV.bj cs
 | .de cs=>LV.bj cs
 | .fn _ cs=>LV.bj cs
 | .vj _ cs=>LV.bj cs
 | _=>true
def LV.bj:List LV→Bool
 | []=>true
 | x :: xs=>x.pure && LV.bj xs
end
mutual
/-- Q8 the value not P4 of id? -/
def LV.a7 (id:Nat):LV→Bool
 | .ag cs=>LV.cj id cs
 | .fI _ cs=>LV.cj id cs
 | .arr i _=>i != id
 | .ptr i _=>i != id
 | .bE i _ _ _=>i != id
 | .mp i=>i != id
 | .agg cs=>LV.cj id cs
 | .de cs=>LV.cj id cs
 | .fn _ cs=>LV.cj id cs
 | .vj _ cs=>LV.cj id cs
 | _=>true
def LV.cj (id:Nat):List LV→Bool
 | []=>true
 | x :: xs=>x.a7 id && LV.cj id xs
end
def LE.kN (id:Nat):LE→Bool
 | .box cs=>LV.cj id cs
 | .cU _ _ _ _ _ _ id2 _=>id2 != id
 | _=>true
def LV.cells:LV→List LV
 | .agg cs=>cs
 | x=>[x]
def LV.scalar:LV→Bool
 | .eB=>false
 | .agg _=>false
 | .de _=>false
 | _=>true
inductive BE where
 | box (b n:Nat)
 | arr (v:Value) (k len:Nat) (ins:List Nat)
 | mp (b:Nat)
def BE.has:BE→Nat→Prop
 | .box b' _,b=>b'=b
 | .arr v _ _ ins,b=>v.ownBlock=some b ∨ b ∈ ins
 | .mp b',b=>b'=b
def BE.kI:BE→BE→Prop
 | .box b n,y=>y=.box b n
 | .arr u k len _,y=>∃ u' k8 ins,y=.arr u' k k8 ins∧len≤k8∧(len=k8→u'=u)
 | .mp b,y=>y=.mp b
theorem BE.kI.refl (x:BE):x.kI x:=by
 cases x with
 | box _ _=>rfl
 | arr u k len ins=>exact ⟨_,_,_,rfl,Nat.le_refl _,fun _=>rfl⟩
 | mp _=>rfl
theorem BE.kI.trans {x y z:BE} (h:x.kI y) (h':y.kI z):x.kI z:=by
 cases x with
 | box b n=>simp only [BE.kI] at h; subst h; exact h'
 | arr u k len ins=>simp only [BE.kI] at h; obtain ⟨u',k8,k7,rfl,h1,h2⟩:=h; obtain ⟨u2,V2,VY,rfl,h3,h4⟩:=h'; exact ⟨_,_,_,rfl,by omega,fun he=>by rw [h4 (by omega),h2 (by omega)]⟩
 | mp b=>simp only [BE.kI] at h; subst h; exact h'
structure Cx where
 w:World
 B:Nat→Option BE
 O:Nat→Prop
 /-- blocks of rows Ih Au turns,with Uw QJ -/
 Q:Nat→Option Nat
def Cx.own (c:Cx) (b:Nat):Prop:=∃ id be,c.B id=some be∧be.has b
def Cx.U (c:Cx) (b:Nat):Prop:=c.O b ∨ c.Q b ≠ Option.none
def Cx.X (c:Cx) (b:Nat):Prop:=c.U b ∨ c.own b
def flat (vs:List Value):List Value:=vs.flatMap fun v=>v.cells.toList
mutual
def au (c:Cx):LV→Value→Prop
 | .eB,_=>True
 | .int k n,v=>v=.int k n
 | .bool b,v=>v=.bool b
 | .nil,v=>v=.slice Option.none 0 0
 | .pL n,v=>∃ a cap,v=.slice a n cap
 | .lZ,v=>v=.nilFunc
 | .fe,v=>v=.pointer Option.none
 | .ak k xs,v=>∃ a cap,v=.slice a xs.length cap∧xs.length≤cap∧(a=Option.none→cap=0)∧LV.bj xs=true ∧
   (xs=[] ∨ ∃ b off vs,a=some ⟨b,off,Option.none⟩∧b<c.w.heap.size∧¬ c.X b∧aC c xs vs∧(∀ u ∈ vs,u.cells.size=k∧∀ y ∈ u.cells,y.oneCell'=true)∧c.w.rangeAt b off (flat vs))
 | .full k xs,v=>∃ a,v=.slice a xs.length xs.length∧(a=Option.none→xs=[])∧LV.bj xs=true ∧
   (xs=[] ∨ ∃ b off vs,a=some ⟨b,off,Option.none⟩∧b<c.w.heap.size∧¬ c.X b∧aC c xs vs∧(∀ u ∈ vs,u.cells.size=k∧∀ y ∈ u.cells,y.oneCell'=true)∧c.w.rangeAt b off (flat vs))
 | .str s,v=>v=.string s
 | .it r,v=>v=.pointer (some ⟨r,0,Option.none⟩)
 | .ag cs,v=>∃ b off vs,v=.pointer (some ⟨b,off,Option.none⟩)∧b<c.w.heap.size∧¬ c.X b∧aC c cs vs∧(∀ y ∈ vs,y.oneCell'=true)∧c.w.rangeAt b off vs
 | .aJ false _ k xs,v=>∃ a cap,v=.slice a xs.length cap∧xs.length≤cap∧(a=Option.none→cap=0)∧LV.bj xs=true ∧
   (xs=[] ∨ ∃ b off vs,a=some ⟨b,off,Option.none⟩∧b<c.w.heap.size∧¬ c.X b∧aC c xs vs∧(∀ u ∈ vs,u.cells.size=k∧∀ y ∈ u.cells,y.oneCell'=true)∧c.w.rangeAt b off (flat vs))
 | .fI false cs,v=>∃ b off vs,v=.pointer (some ⟨b,off,Option.none⟩)∧b<c.w.heap.size∧¬ c.X b∧aC c cs vs∧(∀ y ∈ vs,y.oneCell'=true)∧c.w.rangeAt b off vs
 | .aJ true e k xs,v=>0<k∧LV.bj xs=true∧∃ vs,c.w.ownsRow 0 e k v xs.length (flat vs)∧aC c xs vs∧(∀ u ∈ vs,u.cells.size=k∧∀ y ∈ u.cells,y.oneCell'=true)∧∀ b,v.ownBlock=some b→c.Q b=some (xs.length * k)
 | .fI true cs,v=>∃ b off vs n,v=.pointer (some ⟨b,off,Option.none⟩)∧c.Q b=some n∧aC c cs vs∧(∀ y ∈ vs,y.oneCell'=true)∧c.w.rangeAt b off vs
 | .arr id n,v=>v.oneCell'=true∧∃ u k len ins,c.B id=some (.arr u k len ins)∧n≤len∧(n=len→v=u)
 | .ptr id o,v=>∃ b n,c.B id=some (.box b n)∧v=.pointer (some ⟨b,o,Option.none⟩)
 | .bE id n i o,v=>v.oneCell'=true∧∃ u k len ins,c.B id=some (.arr u k len ins)∧n≤len∧(n=len→∃ b,u.ownBlock=some b∧v=.pointer (some ⟨b,i * k+o,Option.none⟩))
 | .mp id,v=>∃ b,c.B id=some (.mp b)∧v=.map (some b)
 | .agg cs,v=>∃ vs,v=.agg vs.toArray∧aC c cs vs
 | .de cs,v=>∃ vs,v=.tuple vs.toArray∧aC c cs vs
 | .fn f cs,v=>∃ vs,v=.func (.func f) #[] vs.toArray∧aC c cs vs
 | .vj f cs,v=>∃ vs,v=.func (.func f) vs.toArray #[]∧aC c cs vs
def aC (c:Cx):List LV→List Value→Prop
 | [],vs=>vs=[]
 | x :: xs,vs=>∃ v fH,vs=v :: fH∧au c x v∧aC c xs fH
end
theorem aC.length {c:Cx}:∀ {xs:List LV} {vs:List Value},aC c xs vs→xs.length=vs.length
 | [],vs,h=>by simp [aC] at h; simp [h]
 | x :: xs,vs,h=>by
  simp only [aC] at h
  obtain ⟨v,fH,rfl,_,h'⟩:=h
  simp [h'.length]
theorem aC.get {c:Cx}:∀ {xs:List LV} {vs:List Value},aC c xs vs→∀ {i:Nat} {x:LV},xs[i]?=some x→∃ v,vs[i]?=some v∧au c x v
 | [],vs,h,i,x,hx=>by simp at hx
 | y :: xs,vs,h,i,x,hx=>by
  simp only [aC] at h
  obtain ⟨v,fH,rfl,hv,h'⟩:=h
  cases i with
  | zero=>simp at hx; subst hx; exact ⟨v,by simp,hv⟩
  | succ i=>simp at hx; obtain ⟨u,hu,hr⟩:=h'.get hx; exact ⟨u,by simpa using hu,hr⟩
theorem aC.of {c:Cx}:∀ {xs:List LV} {vs:List Value},xs.length=vs.length→(∀ (i:Nat) x v,xs[i]?=some x→vs[i]?=some v→au c x v)→aC c xs vs
 | [],vs,h,_=>by simp [aC]; exact List.eq_nil_of_length_eq_zero (by simpa using h.symm)
 | x :: xs,[],h,_=>by simp at h
 | x :: xs,v :: vs,h,hr=>by
  simp only [aC]
  exact ⟨v,vs,rfl,hr 0 x v (by simp) (by simp),aC.of (by simpa using h) fun i y u hy hu=>hr (i+1) y u (by simpa using hy) (by simpa using hu)⟩
theorem aC.append {c:Cx} {xs ys:List LV} {vs us:List Value} (h:aC c xs vs) (h':aC c ys us):aC c (xs++ys) (vs++us):=by
 induction xs generalizing vs with
 | nil=>simp [aC] at h; subst h; simpa using h'
 | cons x xs ih =>
  simp only [aC] at h
  obtain ⟨v,fH,rfl,hv,h2⟩:=h
  simp only [List.cons_append,aC]
  exact ⟨v,fH++us,rfl,hv,ih h2⟩
theorem aC.drop {c:Cx} {xs:List LV} {vs:List Value} (h:aC c xs vs) (n:Nat):aC c (xs.drop n) (vs.drop n):=by
 induction n generalizing xs vs with
 | zero=>simpa using h
 | succ n ih =>
  cases xs with
  | nil=>simp [aC] at h; subst h; simp [aC]
  | cons x xs =>
   simp only [aC] at h
   obtain ⟨v,fH,rfl,hv,h2⟩:=h
   simpa using ih h2
theorem aC.take {c:Cx} {xs:List LV} {vs:List Value} (h:aC c xs vs) (n:Nat):aC c (xs.take n) (vs.take n):=by
 induction n generalizing xs vs with
 | zero=>simp [aC]
 | succ n ih =>
  cases xs with
  | nil=>simp [aC] at h; subst h; simp [aC]
  | cons x xs =>
   simp only [aC] at h
   obtain ⟨v,fH,rfl,hv,h2⟩:=h
   simp only [List.take_succ_cons,aC]
   exact ⟨v,_,rfl,hv,ih h2⟩
theorem cH:∀ {xs:List LV},LV.bj xs=true ↔ ∀ x ∈ xs,x.pure=true
 | []=>by simp [LV.bj]
 | x :: xs=>by simp [LV.bj,cH (xs:=xs)]
theorem sW {id:Nat}:∀ {xs:List LV},LV.cj id xs=true ↔ ∀ x ∈ xs,x.a7 id=true
 | []=>by simp [LV.cj]
 | x :: xs=>by simp [LV.cj,sW (xs:=xs)]
mutual
theorem eP {id:Nat}:∀ (x:LV),x.pure=true→x.a7 id=true
 | .eB,_ | .int _ _,_ | .bool _,_ | .nil,_ | .pL _,_ | .full _ _,_ | .str _,_ | .it _,_ | .lZ,_ | .fe,_ | .ak _ _,_ | .aJ _ _ _ _,_=>by simp [LV.a7]
 | .ag cs,h=>by simp only [LV.pure] at h; simp only [LV.a7]; exact ay cs h
 | .fI _ cs,h=>by simp only [LV.pure] at h; simp only [LV.a7]; exact ay cs h
 | .arr _ _,h | .ptr _ _,h | .bE _ _ _ _,h | .mp _,h=>by simp [LV.pure] at h
 | .agg cs,h=>by simp only [LV.pure] at h; simp only [LV.a7]; exact ay cs h
 | .de cs,h=>by simp only [LV.pure] at h; simp only [LV.a7]; exact ay cs h
 | .fn _ cs,h=>by simp only [LV.pure] at h; simp only [LV.a7]; exact ay cs h
 | .vj _ cs,h=>by simp only [LV.pure] at h; simp only [LV.a7]; exact ay cs h
theorem ay {id:Nat}:∀ (xs:List LV),LV.bj xs=true→LV.cj id xs=true
 | [],_=>by simp [LV.cj]
 | x :: xs,h=>by
  simp only [LV.bj,Bool.and_eq_true] at h
  simp only [LV.cj,Bool.and_eq_true]
  exact ⟨eP x h.1,ay xs h.2⟩
end
def jk (x y:Option BE):Prop :=
 match x with
 | .none=>True
 | some (.box b n)=>y=some (.box b n)
 | some (.arr u k len _)=>∃ u' k8 k7,y=some (.arr u' k k8 k7)∧len≤k8∧(len=k8→u'=u)
 | some (.mp b)=>y=some (.mp b)
theorem jk.refl (x:Option BE):jk x x:=by
 unfold jk; split
 ·trivial
 ·rfl
 ·exact ⟨_,_,_,rfl,Nat.le_refl _,fun _=>rfl⟩
 ·rfl
theorem jk.trans {x y z:Option BE} (h:jk x y) (h':jk y z):jk x z:=by
 unfold jk at *
 split
 ·trivial
 ·simp only at h; subst h; exact h'
 ·rename_i u k len ins
  obtain ⟨u',k8,k7,rfl,hl,hu⟩:=h
  obtain ⟨Wh,OS,NU,rfl,iD,E8⟩:=h'
  refine ⟨Wh,OS,NU,rfl,Nat.le_trans hl iD,fun e=>?_⟩
  rw [E8 (by omega),hu (by omega)]
 ·simp only at h; subst h; exact h'
structure Cx.Le (c c':Cx):Prop where
 size:c.w.heap.size≤c'.w.heap.size
 heap:∀ b,b<c.w.heap.size→¬ c.X b→c'.w.heap[b]?=c.w.heap[b]?∧¬ c'.X b
 q:∀ b n,c.Q b=some n→c'.w.heap[b]?=c.w.heap[b]?∧c'.Q b=some n
theorem dX {w w':World} {b off:Nat} {cs:List Value} (h:w.rangeAt b off cs) (hb:w'.heap[b]?=w.heap[b]?):w'.rangeAt b off cs:=by
 intro j v hv
 rw [World.cell?_of_block (w:=w) (a:=⟨b,off+j,Option.none⟩) hb]
 exact h j v hv
theorem dF {w w':World} {base e k n:Nat} {u:Value} {vs:List Value} (h:w.ownsRow base e k u n vs) (hb:∀ b,u.ownBlock=some b→w'.heap[b]?=w.heap[b]?):w'.ownsRow base e k u n vs:=by
 refine ⟨h.1,?_⟩
 rcases h.2 with hn | ⟨g,cap,cur,rfl,h1,h2,rest⟩
 ·exact .inl hn
 ·exact .inr ⟨g,cap,cur,rfl,h1,(hb g rfl).trans h2,rest⟩
mutual
theorem au.mono {c c':Cx} (h:c.Le c'):∀ (x:LV) (v:Value),(∀ id,x.a7 id=false→jk (c.B id) (c'.B id))→au c x v→au c' x v
 | .eB,v,_,hr=>by simp only [au]
 | .int _ _,v,_,hr=>by simpa only [au] using hr
 | .bool _,v,_,hr=>by simpa only [au] using hr
 | .nil,v,_,hr=>by simpa only [au] using hr
 | .pL _,v,_,hr=>by simpa only [au] using hr
 | .str _,v,_,hr=>by simpa only [au] using hr
 | .it _,v,_,hr=>by simpa only [au] using hr
 | .full k xs,v,_,hr=>by
  simp only [au] at hr ⊢
  obtain ⟨a,rfl,hn,hp,hx⟩:=hr
  refine ⟨a,rfl,hn,hp,?_⟩
  rcases hx with hx | ⟨b,off,vs,rfl,hb,hX,hl,hk,fQ⟩
  ·exact .inl hx
  ·obtain ⟨h1,h2⟩:=h.heap b hb hX
   exact .inr ⟨b,off,vs,rfl,Nat.lt_of_lt_of_le hb h.size,h2,aC.mono h xs vs (fun id bC=>by rw [ay xs hp] at bC; cases bC) hl,hk,dX fQ h1⟩
 | .lZ,v,_,hr=>by simpa only [au] using hr
 | .fe,v,_,hr=>by simpa only [au] using hr
 | .ak k xs,v,_,hr=>by
  simp only [au] at hr ⊢
  obtain ⟨a,cap,rfl,mu,hn,hp,hx⟩:=hr
  refine ⟨a,cap,rfl,mu,hn,hp,?_⟩
  rcases hx with hx | ⟨b,off,vs,rfl,hb,hX,hl,hk,fQ⟩
  ·exact .inl hx
  ·obtain ⟨h1,h2⟩:=h.heap b hb hX
   exact .inr ⟨b,off,vs,rfl,Nat.lt_of_lt_of_le hb h.size,h2,aC.mono h xs vs (fun id bC=>by rw [ay xs hp] at bC; cases bC) hl,hk,dX fQ h1⟩
 | .ag cs,v,hB,hr=>by
  simp only [au] at hr ⊢
  obtain ⟨b,off,vs,rfl,hb,hX,hl,hk,fQ⟩:=hr
  obtain ⟨h1,h2⟩:=h.heap b hb hX
  exact ⟨b,off,vs,rfl,Nat.lt_of_lt_of_le hb h.size,h2,aC.mono h cs vs (fun id bC=>hB id (by simpa only [LV.a7] using bC)) hl,hk,dX fQ h1⟩
 | .aJ true e k xs,v,hB,hr=>by
  simp only [au] at hr ⊢
  obtain ⟨h0,hp,vs,h1,hl,hk,hq⟩:=hr
  exact ⟨h0,hp,vs,dF h1 (fun b hb=>(h.q b _ (hq b hb)).1),aC.mono h xs vs (fun id bC=>by rw [ay xs hp] at bC; cases bC) hl,hk,fun b hb=>(h.q b _ (hq b hb)).2⟩
 | .fI true cs,v,hB,hr=>by
  simp only [au] at hr ⊢
  obtain ⟨b,off,vs,n,rfl,hq,hl,hk,fQ⟩:=hr
  exact ⟨b,off,vs,n,rfl,(h.q b n hq).2,aC.mono h cs vs (fun id bC=>hB id (by simpa only [LV.a7] using bC)) hl,hk,dX fQ (h.q b n hq).1⟩
 | .aJ false e k xs,v,_,hr=>by
  simp only [au] at hr ⊢
  obtain ⟨a,cap,rfl,mu,hn,hp,hx⟩:=hr
  refine ⟨a,cap,rfl,mu,hn,hp,?_⟩
  rcases hx with hx | ⟨b,off,vs,rfl,hb,hX,hl,hk,fQ⟩
  ·exact .inl hx
  ·obtain ⟨h1,h2⟩:=h.heap b hb hX
   exact .inr ⟨b,off,vs,rfl,Nat.lt_of_lt_of_le hb h.size,h2,aC.mono h xs vs (fun id bC=>by rw [ay xs hp] at bC; cases bC) hl,hk,dX fQ h1⟩
 | .fI false cs,v,hB,hr=>by
  simp only [au] at hr ⊢
  obtain ⟨b,off,vs,rfl,hb,hX,hl,hk,fQ⟩:=hr
  obtain ⟨h1,h2⟩:=h.heap b hb hX
  exact ⟨b,off,vs,rfl,Nat.lt_of_lt_of_le hb h.size,h2,aC.mono h cs vs (fun id bC=>hB id (by simpa only [LV.a7] using bC)) hl,hk,dX fQ h1⟩
 | .arr id n,v,hB,hr=>by
  simp only [au] at hr ⊢
  obtain ⟨h1,u,k,len,ins,hu,hn,hv⟩:=hr
  have:=hB id (by simp [LV.a7])
  rw [hu] at this
  obtain ⟨u',k8,k7,E8,hl,he⟩:=this
  refine ⟨h1,u',k,k8,k7,E8,Nat.le_trans hn hl,fun e=>?_⟩
  rw [he (by omega)]; exact hv (by omega)
 | .ptr id o,v,hB,hr=>by
  simp only [au] at hr ⊢
  obtain ⟨b,n,hu,hv⟩:=hr
  have:=hB id (by simp [LV.a7])
  rw [hu] at this
  exact ⟨b,n,this,hv⟩
 | .bE id n i o,v,hB,hr=>by
  simp only [au] at hr ⊢
  obtain ⟨h1,u,k,len,ins,hu,hn,hv⟩:=hr
  have:=hB id (by simp [LV.a7])
  rw [hu] at this
  obtain ⟨u',k8,k7,E8,hl,he⟩:=this
  refine ⟨h1,u',k,k8,k7,E8,Nat.le_trans hn hl,fun e=>?_⟩
  rw [he (by omega)]; exact hv (by omega)
 | .mp id,v,hB,hr=>by
  simp only [au] at hr ⊢
  obtain ⟨b,hu,hv⟩:=hr
  have:=hB id (by simp [LV.a7])
  rw [hu] at this
  exact ⟨b,this,hv⟩
 | .agg cs,v,hB,hr=>by
  simp only [au] at hr ⊢
  obtain ⟨vs,rfl,hl⟩:=hr
  exact ⟨vs,rfl,aC.mono h cs vs (fun id bC=>hB id (by simpa only [LV.a7] using bC)) hl⟩
 | .de cs,v,hB,hr=>by
  simp only [au] at hr ⊢
  obtain ⟨vs,rfl,hl⟩:=hr
  exact ⟨vs,rfl,aC.mono h cs vs (fun id bC=>hB id (by simpa only [LV.a7] using bC)) hl⟩
 | .fn f cs,v,hB,hr=>by
  simp only [au] at hr ⊢
  obtain ⟨vs,rfl,hl⟩:=hr
  exact ⟨vs,rfl,aC.mono h cs vs (fun id bC=>hB id (by simpa only [LV.a7] using bC)) hl⟩
 | .vj f cs,v,hB,hr=>by
  simp only [au] at hr ⊢
  obtain ⟨vs,rfl,hl⟩:=hr
  exact ⟨vs,rfl,aC.mono h cs vs (fun id bC=>hB id (by simpa only [LV.a7] using bC)) hl⟩
theorem aC.mono {c c':Cx} (h:c.Le c'):∀ (xs:List LV) (vs:List Value),(∀ id,LV.cj id xs=false→jk (c.B id) (c'.B id))→aC c xs vs→aC c' xs vs
 | [],vs,_,hr=>by simpa only [aC] using hr
 | x :: xs,vs,hB,hr=>by
  simp only [aC] at hr ⊢
  obtain ⟨v,fH,rfl,hv,hl⟩:=hr
  refine ⟨v,fH,rfl,au.mono h x v (fun id bC=>hB id (by simp [LV.cj,bC])) hv,aC.mono h xs fH (fun id bC=>hB id (by simp [LV.cj,bC])) hl⟩
end
theorem xB {c:Cx} {t:Bool} {e k:Nat} {xs:List LV} {v:Value} (h:au c (.aJ t e k xs) v):v.oneCell'=true:=by
 cases t
 ·simp only [au] at h; obtain ⟨_,_,rfl,_⟩:=h; rfl
 ·simp only [au] at h; obtain ⟨_,_,_,h,_⟩:=h; rcases h.2 with ⟨rfl,_⟩ | ⟨_,_,_,rfl,_⟩ <;> rfl
theorem vT {c:Cx} {t:Bool} {cs:List LV} {v:Value} (h:au c (.fI t cs) v):v.oneCell'=true:=by
 cases t
 ·simp only [au] at h; obtain ⟨_,_,_,rfl,_⟩:=h; rfl
 ·simp only [au] at h; obtain ⟨_,_,_,_,rfl,_⟩:=h; rfl
theorem eF {c:Cx} {x:LV} {v:Value} (hs:x.scalar=true) (h:au c x v):v.oneCell'=true:=by
 cases x
 case aJ=>exact xB h
 case fI=>exact vT h
 all_goals simp only [LV.scalar,au,Bool.false_eq_true] at hs h
 case int=>subst h; rfl
 case bool=>subst h; rfl
 case nil=>subst h; rfl
 case fe=>subst h; rfl
 case ak=>obtain ⟨_,_,rfl,_⟩:=h; rfl
 case ag=>obtain ⟨_,_,_,rfl,_⟩:=h; rfl
 case arr=>exact h.1
 case ptr=>obtain ⟨_,_,_,rfl⟩:=h; rfl
 case bE=>exact h.1
 case fn=>obtain ⟨_,rfl,_⟩:=h; rfl
 case vj=>obtain ⟨_,rfl,_⟩:=h; rfl
 case pL=>obtain ⟨_,_,rfl⟩:=h; rfl
 case full=>obtain ⟨_,rfl,_⟩:=h; rfl
 case str=>subst h; rfl
 case it=>subst h; rfl
 case lZ=>subst h; rfl
 case mp=>obtain ⟨_,_,rfl⟩:=h; rfl
theorem lG {x:LV} (hs:x.scalar=true):x.cells=[x]:=by
 cases x <;> simp_all [LV.scalar,LV.cells]
theorem dm {v:Value} (h:v.oneCell'=true):v.cells=#[v]:=by
 cases v <;> simp_all [Value.oneCell',Value.cells]
theorem au.cellsOf {c:Cx} {x:LV} {v:Value} (h:au c x v) (hs:x.cells.all LV.scalar=true):aC c x.cells v.cells.toList∧∀ y ∈ v.cells,y.oneCell'=true:=by
 by_cases hx:x.scalar=true
 ·have h1:=eF hx h
  rw [lG hx,dm h1]
  simp [aC,h,h1]
 ·cases x <;> simp [LV.scalar,LV.cells] at hx hs
  case agg cs =>
   simp only [au] at h
   obtain ⟨vs,rfl,hl⟩:=h
   simp only [LV.cells,Value.cells]
   refine ⟨by simpa using hl,fun y hy=>?_⟩
   obtain ⟨i,hi⟩:=List.mem_iff_getElem?.1 (by simpa using hy:y ∈ vs)
   have hlen:=hl.length
   have dN:i<cs.length:=by rw [hlen]; exact (List.getElem?_eq_some_iff.1 hi).1
   obtain ⟨u,hu,VF⟩:=hl.get (List.getElem?_eq_getElem dN)
   rw [hi] at hu; cases hu
   exact eF (hs _ (List.getElem_mem dN)) VF
end Go.L
namespace Go.L
def rT (c:Cx) (e k:Nat) (x:LV) (v:Value) (bs:List Nat):Prop :=
 (x=.eB∧bs=[]) ∨ ∃ ys us,x=.ak k ys∧0<k∧c.w.ownsRow 0 e k v ys.length (flat us)∧aC c ys us∧(∀ u ∈ us,u.cells.size=k∧∀ y ∈ u.cells,y.oneCell'=true)∧LV.bj ys=true∧bs=v.ownBlock.toList
def fq (c:Cx) (os:List (Nat × Nat × Nat)) (o:Nat) (x:LV) (v:Value) (bs:List Nat):Prop :=
 match os.lookup o with
 | some (e,k)=>rT c e k x v bs
 | .none=>au c x v∧x.pure=true∧bs=[]
def il (c:Cx) (os:List (Nat × Nat × Nat)):Nat→List LV→List Value→List Nat→Prop
 | _,[],ws,bs=>ws=[]∧bs=[]
 | o,x :: xs,ws,bs=>∃ w D0 b1 b2,ws=w :: D0∧bs=b1++b2∧fq c os o x w b1∧il c os (o+1) xs D0 b2
def JK (c:Cx) (os:List (Nat × Nat × Nat)) (x:LV) (v:Value) (bs:List Nat):Prop:=∃ cs ws,x=.agg cs∧v=.agg ws.toArray∧il c os 0 cs ws bs
def dJ (c:Cx) (os:List (Nat × Nat × Nat)):List LV→List Value→List Nat→Prop
 | [],vs,bs=>vs=[]∧bs=[]
 | x :: xs,vs,bs=>∃ v fH b1 b2,vs=v :: fH∧bs=b1++b2∧JK c os x v b1∧dJ c os xs fH b2
def zy (es:Array MapEntry) (ck:Nat):Prop:=(es.toList.map (·.born)).Nodup∧∀ x ∈ es.toList,x.born<ck
def br (c:Cx):Option LE→Option BE→Prop
 | .none,y=>y=.none
 | some (.box cs),y=>∃ b vs e,y=some (.box b cs.length)∧c.w.heap[b]?=some (.cells vs.toArray e (0,0))∧aC c cs vs∧∀ v ∈ vs,v.oneCell'=true
 | some (.arr e k xs),y=>∃ u vs,y=some (.arr u k xs.length [])∧0<k∧c.w.ownsRow 0 e k u xs.length (flat vs)∧aC c xs vs∧(∀ v ∈ vs,v.cells.size=k∧∀ y ∈ v.cells,y.oneCell'=true)∧LV.bj xs=true
 | some (.map kt vt es),y=>∃ b jn clock,y=some (.mp b)∧c.w.heap[b]?=some (.map jn clock)∧aC c (es.map (·.1)) (jn.toList.map (·.key))∧aC c (es.map (·.2)) (jn.toList.map (·.val))∧LV.bj (es.map (·.1))=true∧LV.bj (es.map (·.2))=true∧(es.map (·.1)).Nodup∧zy jn clock
 | some (.nest e k os xs),y=>∃ u vs bs,y=some (.arr u k xs.length bs)∧0<k∧c.w.ownsRow 0 e k u xs.length (flat vs)∧dJ c os xs vs bs∧(∀ v ∈ vs,v.cells.size=k∧∀ y ∈ v.cells,y.oneCell'=true)∧bs.Nodup∧∀ b,u.ownBlock=some b→b ∉ bs
 | some (.cU e k os xs i o id2 n2),y=>∃ u vs bs,y=some (.arr u k xs.length bs)∧0<k∧c.w.ownsRow 0 e k u xs.length (flat vs)∧dJ c os xs vs bs∧(∃ g v,u.ownBlock=some g∧c.w.cell? ⟨g,i * k+o,Option.none⟩=some v∧au c (.arr id2 n2) v)∧(∀ v ∈ vs,v.cells.size=k∧∀ y ∈ v.cells,y.oneCell'=true)∧bs.Nodup∧∀ b,u.ownBlock=some b→b ∉ bs
 | some .dead,y=>∃ u k len,y=some (.arr u k len [])∧u.ownBlock=Option.none
theorem ux {w w':World} {g:Nat} (h:w'.heap[g]?=w.heap[g]?) (o:Nat):w'.cell? ⟨g,o,Option.none⟩=w.cell? ⟨g,o,Option.none⟩:=by simp [World.cell?,h]
theorem rT.mono {c c':Cx} (hle:c.Le c') {e k:Nat} {x:LV} {v:Value} {bs:List Nat} (hh:∀ b ∈ bs,c'.w.heap[b]?=c.w.heap[b]?) (h:rT c e k x v bs):rT c' e k x v bs:=by
 rcases h with h | ⟨ys,us,h1,h0,h2,h3,h4,h5,h6⟩
 ·exact .inl h
 ·refine .inr ⟨ys,us,h1,h0,dF h2 (fun b hb=>hh b (by rw [h6,hb]; simp)),aC.mono hle ys us (fun id bC=>by rw [ay ys h5] at bC; cases bC) h3,h4,h5,h6⟩
theorem rT.lt {c:Cx} {e k:Nat} {x:LV} {v:Value} {bs:List Nat} (h:rT c e k x v bs):∀ b ∈ bs,b<c.w.heap.size:=by
 rcases h with ⟨_,rfl⟩ | ⟨ys,us,h1,h0,h2,h3,h4,h5,rfl⟩
 ·simp
 ·intro b hb
  have:v.ownBlock=some b:=by simpa using hb
  exact (h2.lt b this).2
theorem fq.mono {c c':Cx} (hle:c.Le c') {os:List (Nat × Nat × Nat)} {o:Nat} {x:LV} {v:Value} {bs:List Nat} (hh:∀ b ∈ bs,c'.w.heap[b]?=c.w.heap[b]?) (h:fq c os o x v bs):fq c' os o x v bs:=by
 unfold fq at *
 split
 ·rename_i e k he
  rw [he] at h
  exact rT.mono hle hh h
 ·rename_i he
  rw [he] at h
  exact ⟨au.mono hle x v (fun id bC=>by rw [eP x h.2.1] at bC; cases bC) h.1,h.2⟩
theorem fq.lt {c:Cx} {os:List (Nat × Nat × Nat)} {o:Nat} {x:LV} {v:Value} {bs:List Nat} (h:fq c os o x v bs):∀ b ∈ bs,b<c.w.heap.size:=by
 unfold fq at h
 split at h
 ·exact rT.lt h
 ·rw [h.2.2]; simp
theorem il.mono {c c':Cx} (hle:c.Le c') {os:List (Nat × Nat × Nat)}:∀ {o:Nat} {xs:List LV} {ws:List Value} {bs:List Nat},(∀ b ∈ bs,c'.w.heap[b]?=c.w.heap[b]?)→il c os o xs ws bs→il c' os o xs ws bs
 | _,[],_,_,_,h=>by simpa only [il] using h
 | o,x :: xs,ws,bs,hh,h=>by
  simp only [il] at h ⊢
  obtain ⟨w,D0,b1,b2,rfl,rfl,h1,h2⟩:=h
  exact ⟨w,D0,b1,b2,rfl,rfl,h1.mono hle (fun b hb=>hh b (by simp [hb])),il.mono hle (fun b hb=>hh b (by simp [hb])) h2⟩
theorem il.lt {c:Cx} {os:List (Nat × Nat × Nat)}:∀ {o:Nat} {xs:List LV} {ws:List Value} {bs:List Nat},il c os o xs ws bs→∀ b ∈ bs,b<c.w.heap.size
 | _,[],_,_,h=>by simp only [il] at h; rw [h.2]; simp
 | o,x :: xs,ws,bs,h=>by
  simp only [il] at h
  obtain ⟨w,D0,b1,b2,rfl,rfl,h1,h2⟩:=h
  intro b hb
  rcases List.mem_append.1 hb with hb | hb
  ·exact h1.lt b hb
  ·exact il.lt h2 b hb
theorem dJ.mono {c c':Cx} (hle:c.Le c') {os:List (Nat × Nat × Nat)}:∀ {xs:List LV} {vs:List Value} {bs:List Nat},(∀ b ∈ bs,c'.w.heap[b]?=c.w.heap[b]?)→dJ c os xs vs bs→dJ c' os xs vs bs
 | [],_,_,_,h=>by simpa only [dJ] using h
 | x :: xs,vs,bs,hh,h=>by
  simp only [dJ] at h ⊢
  obtain ⟨v,fH,b1,b2,rfl,rfl,⟨cs,ws,rfl,hv,h1⟩,h2⟩:=h
  exact ⟨v,fH,b1,b2,rfl,rfl,⟨cs,ws,rfl,hv,h1.mono hle (fun b hb=>hh b (by simp [hb]))⟩,dJ.mono hle (fun b hb=>hh b (by simp [hb])) h2⟩
theorem dJ.lt {c:Cx} {os:List (Nat × Nat × Nat)}:∀ {xs:List LV} {vs:List Value} {bs:List Nat},dJ c os xs vs bs→∀ b ∈ bs,b<c.w.heap.size
 | [],_,_,h=>by simp only [dJ] at h; rw [h.2]; simp
 | x :: xs,vs,bs,h=>by
  simp only [dJ] at h
  obtain ⟨v,fH,b1,b2,rfl,rfl,⟨cs,ws,rfl,hv,h1⟩,h2⟩:=h
  intro b hb
  rcases List.mem_append.1 hb with hb | hb
  ·exact h1.lt b hb
  ·exact dJ.lt h2 b hb
theorem dJ.length {c:Cx} {os:List (Nat × Nat × Nat)}:∀ {xs:List LV} {vs:List Value} {bs:List Nat},dJ c os xs vs bs→xs.length=vs.length
 | [],_,_,h=>by simp only [dJ] at h; simp [h.1]
 | x :: xs,vs,bs,h=>by
  simp only [dJ] at h
  obtain ⟨v,fH,b1,b2,rfl,rfl,_,h2⟩:=h
  simp [dJ.length h2]
structure bU (c:Cx) (m:Mem):Prop where
 gr:∀ id,br c (m id) (c.B id)
 inj:∀ id Ui be ey b,c.B id=some be→c.B Ui=some ey→be.has b→ey.has b→id=Ui
 jG:∀ b,c.own b→¬ c.O b
 o3:∀ b,c.O b→b<c.w.heap.size
 cN:∀ b,c.Q b ≠ .none→¬ c.O b∧¬ c.own b∧b<c.w.heap.size
theorem br.lt {c:Cx} {x:Option LE} {y:Option BE} (h:br c x y) {be:BE} {b:Nat} (hy:y=some be) (hb:be.has b):b<c.w.heap.size:=by
 match x with
 | .none=>simp [br] at h; rw [h] at hy; cases hy
 | some (.box cs) =>
  simp only [br] at h
  obtain ⟨b',vs,e,rfl,hh,_⟩:=h
  cases hy
  simp only [BE.has] at hb
  subst hb
  exact (Array.getElem?_eq_some_iff.1 hh).1
 | some (.arr e k xs) =>
  simp only [br] at h
  obtain ⟨u,vs,rfl,hk,bd,_⟩:=h
  cases hy
  have hT:u.ownBlock=some b:=by simpa [BE.has] using hb
  exact (bd.lt b hT).2
 | some (.nest e k os xs) =>
  simp only [br] at h
  obtain ⟨u,vs,bs,rfl,hk,bd,hn,_⟩:=h
  cases hy
  rcases hb with hb | hb
  ·exact (bd.lt b hb).2
  ·exact hn.lt b hb
 | some (.cU e k os xs i o id2 n2) =>
  simp only [br] at h
  obtain ⟨u,vs,bs,rfl,hk,bd,hn,_⟩:=h
  cases hy
  rcases hb with hb | hb
  ·exact (bd.lt b hb).2
  ·exact hn.lt b hb
 | some .dead =>
  simp only [br] at h
  obtain ⟨u,k,len,rfl,hu⟩:=h
  cases hy
  rcases hb with hb | hb
  ·rw [hu] at hb; cases hb
  ·cases hb
 | some (.map kt vt es) =>
  simp only [br] at h
  obtain ⟨b',jn,ck,rfl,hh,_⟩:=h
  cases hy
  simp only [BE.has] at hb
  subst hb
  exact (Array.getElem?_eq_some_iff.1 hh).1
theorem bU.kP {c:Cx} {m:Mem} (h:bU c m) {b:Nat} (ho:c.own b):b<c.w.heap.size:=by
 obtain ⟨id,be,h1,h2⟩:=ho
 exact (h.gr id).lt h1 h2
theorem bU.fresh {c:Cx} {m:Mem} (h:bU c m) {id:Nat} (hm:m id=.none):c.B id=.none:=by
 have:=h.gr id
 rw [hm] at this
 exact this
abbrev dj:Nat:=1
def gM (c c':Cx):Prop:=∀ b n,c.Q b=some n→c'.w.heap[b]?=c.w.heap[b]?∧c'.Q b=some n
theorem gM.refl (c:Cx):gM c c:=fun _ _ h=>⟨rfl,h⟩
theorem gM.trans {a b c:Cx} (h:gM a b) (k:gM b c):gM a c:=fun x n hx=>⟨(k x n (h x n hx).2).1.trans (h x n hx).1,(k x n (h x n hx).2).2⟩
structure Grow (pr:Nat→Prop) (c c':Cx):Prop where
 O:c'.O=c.O
 os:c'.w.os=c.w.os
 tape:c'.w.tape=c.w.tape
 output:c'.w.output=c.w.output
 drawn:c.w.drawn≤c'.w.drawn
 size:c.w.heap.size≤c'.w.heap.size
 jr:∀ b,b<c.w.heap.size→¬ c.own b→(c.Q b=.none ∨ ¬ pr dj)→c'.w.heap[b]?=c.w.heap[b]?
 q:¬ pr dj→∀ b n,c.Q b=some n→c'.Q b=some n
 qn:∀ b,c'.Q b ≠ .none→c.Q b ≠ .none ∨ c.own b ∨ c.w.heap.size≤b
 own:∀ b,c'.own b→c.own b ∨ c.w.heap.size≤b
 AB:∀ id be,pr id→c.B id=some be→∃ ey,c'.B id=some ey∧be.kI ey
theorem Grow.refl (pr:Nat→Prop) (c:Cx):Grow pr c c :=
 ⟨rfl,rfl,rfl,rfl,Nat.le_refl _,Nat.le_refl _,fun _ _ _ _=>rfl,fun _ _ _ h=>h,fun _ h=>.inl h,fun _ h=>.inl h,fun _ be _ h=>⟨be,h,.refl be⟩⟩
theorem Grow.trans {pr:Nat→Prop} {a b c:Cx} (h:Grow pr a b) (k:Grow pr b c):Grow pr a c where
  O:=k.O.trans h.O
  os:=k.os.trans h.os
  tape:=k.tape.trans h.tape
  output:=k.output.trans h.output
  drawn:=Nat.le_trans h.drawn k.drawn
  size:=Nat.le_trans h.size k.size
  jr:=fun x hx ho hq=>(k.jr x (Nat.lt_of_lt_of_le hx h.size) (fun hb=>(h.own x hb).elim ho (fun hs=>absurd hx (by omega))) (hq.imp (fun h0=>by
    cases nS:b.Q x with
    | none=>rfl
    | some n => rcases h.qn x (by rw [nS]; simp) with h1 | h1 | h1
                · exact absurd h0 h1
                · exact absurd h1 ho
                · omega) (fun h0=>h0))).trans (h.jr x hx ho hq)
  q:=fun hp x n hx=>k.q hp x n (h.q hp x n hx)
  qn:=fun x hx=>(k.qn x hx).elim (h.qn x) fun h'=>h'.elim (fun ho=>(h.own x ho).elim (fun h2=>.inr (.inl h2)) (fun h2=>.inr (.inr h2))) (fun hs=>.inr (.inr (Nat.le_trans h.size hs)))
  own:=fun x hx=>(k.own x hx).elim (h.own x) (fun hs=>.inr (Nat.le_trans h.size hs))
  AB:=fun id be hp hb=>by
    obtain ⟨Qn,h1,h2⟩:=h.AB id be hp hb
    obtain ⟨Bj,h3,h4⟩:=k.AB id Qn hp h1
    exact ⟨Bj,h3,h2.trans h4⟩
theorem Grow.le {pr:Nat→Prop} {c c':Cx} (h:Grow pr c c') (hq:gM c c'):c.Le c' where
 size:=h.size
 heap:=fun b hb hX=>⟨h.jr b hb (fun ho=>hX (.inr ho)) (.inl (by
  cases hx:c.Q b with
  | none=>rfl
  | some n=>exact absurd (.inl (.inr (by rw [hx]; simp))) hX)),fun zQ=>by
  rcases zQ with (hO | hQ) | ho
  ·rw [h.O] at hO; exact hX (.inl (.inl hO))
  ·rcases h.qn b hQ with h1 | h1 | h1
   ·exact hX (.inl (.inr h1))
   ·exact hX (.inr h1)
   ·omega
  ·rcases h.own b ho with ho | hs
   ·exact hX (.inr ho)
   ·omega⟩
 q:=hq
theorem Grow.keeps {pr:Nat→Prop} {c c':Cx} (h:Grow pr c c') (hp:¬ pr dj) {m:Mem} (hm:bU c m):gM c c':=fun b n hb=>by
 have:=hm.cN b (by rw [hb]; simp)
 exact ⟨h.jr b this.2.2 this.2.1 (.inr hp),h.q hp b n hb⟩
structure Step (pr:Nat→Prop) (c c':Cx):Prop where
 grow:Grow pr c c'
 ble:∀ id,jk (c.B id) (c'.B id)
 q:gM c c'
theorem Step.refl (pr:Nat→Prop) (c:Cx):Step pr c c:=⟨.refl pr c,fun _=>.refl _,.refl c⟩
theorem Step.trans {pr:Nat→Prop} {a b c:Cx} (h:Step pr a b) (k:Step pr b c):Step pr a c:=⟨h.grow.trans k.grow,fun id=>(h.ble id).trans (k.ble id),h.q.trans k.q⟩
theorem Step.le {pr:Nat→Prop} {c c':Cx} (h:Step pr c c'):c.Le c':=h.grow.le h.q
theorem Step.wg {pr:Nat→Prop} {c c':Cx} (h:Step pr c c') {x:LV} {v:Value} (hr:au c x v):au c' x v:=au.mono h.le x v (fun id _=>h.ble id) hr
theorem Step.PX {pr:Nat→Prop} {c c':Cx} (h:Step pr c c') {x:List LV} {v:List Value} (hr:aC c x v):aC c' x v:=aC.mono h.le x v (fun id _=>h.ble id) hr
theorem br.mono {c c':Cx} (hle:c.Le c') (hB:∀ id,jk (c.B id) (c'.B id)) {x:Option LE} {y:Option BE} (hh:∀ be b,y=some be→be.has b→c'.w.heap[b]?=c.w.heap[b]?) (h:br c x y):br c' x y:=by
 match x with
 | .none=>simpa only [br] using h
 | some (.box cs) =>
  simp only [br] at h ⊢
  obtain ⟨b,vs,e,rfl,h1,h2,h3⟩:=h
  exact ⟨b,vs,e,rfl,(hh _ b rfl rfl).trans h1,aC.mono hle cs vs (fun id _=>hB id) h2,h3⟩
 | some (.arr e k xs) =>
  simp only [br] at h ⊢
  obtain ⟨u,vs,rfl,h0,h1,h2,h3⟩:=h
  exact ⟨u,vs,rfl,h0,dF h1 (fun b hb=>hh _ b rfl (.inl hb)),aC.mono hle xs vs (fun id _=>hB id) h2,h3⟩
 | some (.nest e k os xs) =>
  simp only [br] at h ⊢
  obtain ⟨u,vs,bs,rfl,h0,h1,h2,h3⟩:=h
  exact ⟨u,vs,bs,rfl,h0,dF h1 (fun b hb=>hh _ b rfl (.inl hb)),h2.mono hle (fun b hb=>hh _ b rfl (.inr hb)),h3⟩
 | some (.cU e k os xs i o id2 n2) =>
  simp only [br] at h ⊢
  obtain ⟨u,vs,bs,rfl,h0,h1,h2,⟨g,v,q1,q2,q3⟩,h3⟩:=h
  exact ⟨u,vs,bs,rfl,h0,dF h1 (fun b hb=>hh _ b rfl (.inl hb)),h2.mono hle (fun b hb=>hh _ b rfl (.inr hb)),⟨g,v,q1,(ux (hh _ g rfl (.inl q1)) _).trans q2,au.mono hle (.arr id2 n2) v (fun id _=>hB id) q3⟩,h3⟩
 | some .dead=>simpa only [br] using h
 | some (.map kt vt es) =>
  simp only [br] at h ⊢
  obtain ⟨b,jn,ck,rfl,h1,h2,h3,h4⟩:=h
  exact ⟨b,jn,ck,rfl,(hh _ b rfl rfl).trans h1,aC.mono hle _ _ (fun id _=>hB id) h2,aC.mono hle _ _ (fun id _=>hB id) h3,h4⟩
theorem bU.A9 {pr:Nat→Prop} {c:Cx} {m:Mem} (h:bU c m) (id:Nat) (le:LE) (be:BE) (w':World)
  (DO:w'.os=c.w.os) (pt:w'.tape=c.w.tape) (ov:w'.output=c.w.output) (xd:c.w.drawn≤w'.drawn) (fh:c.w.heap.size≤w'.heap.size)
  (gl:∀ b,b<c.w.heap.size→(∀ di,c.B id=some di→¬ di.has b)→w'.heap[b]?=c.w.heap[b]?)
  (hblk:∀ b,be.has b→(∃ di,c.B id=some di∧di.has b) ∨ c.w.heap.size≤b)
  (hle:jk (c.B id) (some be)) (lX:pr id→∀ di,c.B id=some di→di.kI be)
  (im:∀ c':Cx,c'.w=w'→c.Le c'→(∀ i,jk (c.B i) (c'.B i))→br c' (some le) (some be)) :
  ∃ c':Cx,c'.w=w'∧c'.B id=some be∧bU c' (m.put id le)∧Step pr c c':=by
 let c':Cx:=⟨w',fun i=>if i=id then some be else c.B i,c.O,c.Q⟩
 have bd:∀ b,c'.own b→c.own b ∨ c.w.heap.size≤b:=by
  rintro b ⟨i,ey,h1,h2⟩
  by_cases hi:i=id
  ·simp only [c',hi,if_true] at h1
   cases h1
   rcases hblk b h2 with ⟨di,h3,h4⟩ | hs
   ·exact .inl ⟨id,di,h3,h4⟩
   ·exact .inr hs
  ·simp only [c',hi,if_false] at h1
   exact .inl ⟨i,ey,h1,h2⟩
 have jx:Grow pr c c':=by
  refine ⟨rfl,DO,pt,ov,xd,fh,fun b hb ho _=>gl b hb (fun di h0 h1=>ho ⟨id,di,h0,h1⟩),fun _ _ _ h=>h,fun _ h=>.inl h,bd,fun i ey hp hb=>?_⟩
  by_cases hi:i=id
  ·subst hi; exact ⟨be,by simp only [c',if_true],lX hp ey hb⟩
  ·exact ⟨ey,by simp only [c',hi,if_false]; exact hb,.refl ey⟩
 have lI:gM c c':=fun b n hb=>by
  have hn:=h.cN b (by rw [hb]; simp)
  exact ⟨gl b hn.2.2 (fun di h0 h1=>hn.2.1 ⟨id,di,h0,h1⟩),hb⟩
 have lW:=jx.le lI
 have dw:∀ i,jk (c.B i) (c'.B i):=by
  intro i
  by_cases hi:i=id
  ·subst hi; simpa only [c',if_true] using hle
  ·simp only [c',hi,if_false]; exact jk.refl _
 refine ⟨c',rfl,by simp [c'],⟨fun i=>?_,?_,?_,?_,fun b hb=>⟨(h.cN b hb).1,fun ho=>(bd b ho).elim (h.cN b hb).2.1 (fun hs=>by have:=(h.cN b hb).2.2; omega),Nat.lt_of_lt_of_le (h.cN b hb).2.2 fh⟩⟩,jx,dw,lI⟩
 ·by_cases hi:i=id
  ·subst hi; simp only [c',Mem.put,if_true]; exact im c' rfl lW dw
  ·simp only [Mem.put,hi,if_false]
   have:c'.B i=c.B i:=by simp [c',hi]
   rw [this]
   refine (h.gr i).mono lW dw fun ey b hb qz=>?_
   refine gl b ((h.gr i).lt hb qz) fun di h0 h1=>?_
   exact hi (h.inj i id ey di b hb h0 qz h1)
 ·intro i i' b1 b2 b h1 h2 h3 h4
  by_cases hi:i=id <;> by_cases gV:i'=id
  ·rw [hi,gV]
  ·simp only [c',hi,if_true] at h1
   simp only [c',gV,if_false] at h2
   cases h1
   rcases hblk b h3 with ⟨di,h5,h6⟩ | hs
   ·rw [hi]; exact h.inj id i' di b2 b h5 h2 h6 h4
   ·have:=(h.gr i').lt h2 h4; omega
  ·simp only [c',hi,if_false] at h1
   simp only [c',gV,if_true] at h2
   cases h2
   rcases hblk b h4 with ⟨di,h5,h6⟩ | hs
   ·rw [gV]; exact h.inj i id b1 di b h1 h5 h3 h6
   ·have:=(h.gr i).lt h1 h3; omega
  ·simp only [c',hi,if_false] at h1
   simp only [c',gV,if_false] at h2
   exact h.inj i i' b1 b2 b h1 h2 h3 h4
 ·intro b ho hO
  rcases bd b ho with ho | hs
  ·exact h.jG b ho hO
  ·have:=h.o3 b hO; omega
 ·intro b hO; exact Nat.lt_of_lt_of_le (h.o3 b hO) fh
theorem bU.ext {pr:Nat→Prop} {c:Cx} {m:Mem} (h:bU c m) (w':World)
  (DO:w'.os=c.w.os) (pt:w'.tape=c.w.tape) (ov:w'.output=c.w.output) (xd:c.w.drawn≤w'.drawn) (fh:c.w.heap.size≤w'.heap.size)
  (gl:∀ b,b<c.w.heap.size→w'.heap[b]?=c.w.heap[b]?) :
  bU ⟨w',c.B,c.O,c.Q⟩ m∧Step pr c ⟨w',c.B,c.O,c.Q⟩:=by
 have jx:Grow pr c ⟨w',c.B,c.O,c.Q⟩:=⟨rfl,DO,pt,ov,xd,fh,fun b hb _ _=>gl b hb,fun _ _ _ h=>h,fun _ h=>.inl h,fun b ho=>.inl ho,fun _ be _ hb=>⟨be,hb,.refl be⟩⟩
 have lI:gM c ⟨w',c.B,c.O,c.Q⟩:=fun b n hb=>⟨gl b (h.cN b (by rw [hb]; simp)).2.2,hb⟩
 refine ⟨⟨fun i=>?_,h.inj,h.jG,fun b hO=>Nat.lt_of_lt_of_le (h.o3 b hO) fh,fun b hb=>⟨(h.cN b hb).1,(h.cN b hb).2.1,Nat.lt_of_lt_of_le (h.cN b hb).2.2 fh⟩⟩,jx,fun i=>jk.refl _,lI⟩
 exact (h.gr i).mono (jx.le lI) (fun i=>jk.refl _) fun be b hb qz=>gl b ((h.gr i).lt hb qz)
theorem bU.O1 {c:Cx} {m:Mem} (h:bU c m) {b:Nat} (hb:c.w.heap.size≤b):¬ c.X b:=by
 rintro ((hO | hQ) | ho)
 ·have:=h.o3 b hO; omega
 ·have:=(h.cN b hQ).2.2; omega
 ·have:=h.kP ho; omega
def aP (P:Program) (f:Nat) (args:List LV) (m:Mem) (lv:LV) (m':Mem):Prop :=
 ∀ (c:Cx) (vs:List Value),bU c m→aC c args vs →
  Calls P f vs.toArray c.w fun en w'=>∃ v c',en=.returned v∧c'.w=w'∧bU c' m'∧au c' lv v∧Grow (fun id=>m id ≠ .none) c c'
def Mem.over (m mc:Mem):Mem:=fun i=>match mc i with | some x=>some x | .none=>m i
theorem aP.frame {P:Program} {f:Nat} {args:List LV} {mc mf m:Mem} {lv:LV} (h:aP P f args mc lv mf)
  (ox:∀ id,mc id ≠ .none→m id=mc id) (ra:∀ id,mc id=.none→mf id ≠ .none→m id=.none)
  (hargs:∀ id,LV.cj id args=false→mc id ≠ .none) (vI:mc dj=.none) (pe:∀ id le,mc id=some le→∀ j,le.kN j=false→mc j ≠ .none)
  (pr:Nat→Prop) (c:Cx) (vs:List Value) (hm:bU c m) (ha:aC c args vs) :
  Calls P f vs.toArray c.w fun en w'=>∃ v c',en=.returned v∧c'.w=w'∧bU c' (m.over mf)∧au c' lv v∧Step pr c c':=by
 classical
 let c0:Cx:=⟨c.w,fun id=>if mc id=.none then .none else c.B id,fun b=>c.O b ∨ ∃ id be,mc id=.none∧c.B id=some be∧be.has b,c.Q⟩
 have hX:∀ b,c0.X b ↔ c.X b:=by
  intro b
  constructor
  ·rintro (((hO | ⟨id,be,_,h2,h3⟩) | hQ) | ⟨id,be,h2,h3⟩)
   ·exact .inl (.inl hO)
   ·exact .inr ⟨id,be,h2,h3⟩
   ·exact .inl (.inr hQ)
   ·by_cases hi:mc id=.none
    ·simp [c0,hi] at h2
    ·simp only [c0,hi,if_false] at h2; exact .inr ⟨id,be,h2,h3⟩
  ·rintro ((hO | hQ) | ⟨id,be,h2,h3⟩)
   ·exact .inl (.inl (.inl hO))
   ·exact .inl (.inr hQ)
   ·by_cases hi:mc id=.none
    ·exact .inl (.inl (.inr ⟨id,be,hi,h2,h3⟩))
    ·exact .inr ⟨id,be,by simp [c0,hi,h2],h3⟩
 have lW:c.Le c0:=⟨Nat.le_refl _,fun b _ hx=>⟨rfl,fun nS=>hx ((hX b).1 nS)⟩,fun _ _ h=>⟨rfl,h⟩⟩
 have Bs:∀ id,mc id ≠ .none→jk (c.B id) (c0.B id):=fun id hi=>by simp only [c0,hi,if_false]; exact jk.refl _
 have ph : bU c0 mc := by
  refine ⟨fun id=>?_,?_,?_,?_,fun b hb=>⟨?_,?_,(hm.cN b hb).2.2⟩⟩
  ·by_cases hi:mc id=.none
   ·rw [hi]; simp [br,c0,hi]
   ·have he:=hm.gr id
    rw [ox id hi] at he
    have hb:c0.B id=c.B id:=by simp [c0,hi]
    rw [hb]
    cases hx:mc id with
    | none=>exact absurd hx hi
    | some le =>
     rw [hx] at he
     cases le with
     | box cs =>
      simp only [br] at he ⊢
      obtain ⟨b,us,e,h1,h2,h3,h4⟩:=he
      exact ⟨b,us,e,h1,h2,aC.mono lW cs us (fun j hj=>Bs j (pe id _ hx j hj)) h3,h4⟩
     | arr e k xs =>
      simp only [br] at he ⊢
      obtain ⟨u,us,h1,h0,h2,h3,h4,h5⟩:=he
      exact ⟨u,us,h1,h0,h2,aC.mono lW xs us (fun j hj=>by rw [ay xs h5] at hj; cases hj) h3,h4,h5⟩
     | nest e k os xs =>
      simp only [br] at he ⊢
      obtain ⟨u,us,bs,h1,h0,h2,h3,h4⟩:=he
      exact ⟨u,us,bs,h1,h0,h2,h3.mono lW (fun b _=>rfl),h4⟩
     | cU e k os xs i o id2 n2 =>
      simp only [br] at he ⊢
      obtain ⟨u,us,bs,h1,h0,h2,h3,⟨ws,v,q1,q2,q3⟩,h4⟩:=he
      exact ⟨u,us,bs,h1,h0,h2,h3.mono lW (fun b _=>rfl),⟨ws,v,q1,q2,au.mono lW (.arr id2 n2) v (fun j hj=>Bs j (pe id _ hx j hj)) q3⟩,h4⟩
     | dead=>simpa only [br] using he
     | map kt vt es =>
      simp only [br] at he ⊢
      obtain ⟨b,jn,ck,h1,h2,h3,h4,h5,h6,h7⟩:=he
      exact ⟨b,jn,ck,h1,h2,aC.mono lW _ _ (fun j hj=>by rw [ay _ h5] at hj; cases hj) h3,aC.mono lW _ _ (fun j hj=>by rw [ay _ h6] at hj; cases hj) h4,h5,h6,h7⟩
  ·intro i i' be ey b h1 h2 h3 h4
   by_cases hi:mc i=.none
   ·simp [c0,hi] at h1
   ·by_cases gV:mc i'=.none
    ·simp [c0,gV] at h2
    ·simp only [c0,hi,gV,if_false] at h1 h2; exact hm.inj i i' be ey b h1 h2 h3 h4
  ·rintro b ⟨id,be,h1,h2⟩ hO
   by_cases hi:mc id=.none
   ·simp [c0,hi] at h1
   ·simp only [c0,hi,if_false] at h1
    rcases hO with hO | ⟨j,ey,h3,h4,h5⟩
    ·exact hm.jG b ⟨id,be,h1,h2⟩ hO
    ·have:=hm.inj id j be ey b h1 h4 h2 h5
     subst this; exact hi h3
  ·rintro b (hO | ⟨j,ey,h3,h4,h5⟩)
   ·exact hm.o3 b hO
   ·exact hm.kP ⟨j,ey,h4,h5⟩
  ·rintro (hO | ⟨j,ey,h3,h4,h5⟩)
   ·exact (hm.cN b hb).1 hO
   ·exact (hm.cN b hb).2.1 ⟨j,ey,h4,h5⟩
  ·rintro ⟨id,be,h1,h2⟩
   by_cases hi:mc id=.none
   ·simp [c0,hi] at h1
   ·simp only [c0,hi,if_false] at h1; exact (hm.cN b hb).2.1 ⟨id,be,h1,h2⟩
 have U1:aC c0 args vs:=aC.mono lW args vs (fun id bC=>Bs id (hargs id bC)) ha
 refine (h c0 vs ph U1).mono ?_
 rintro en w' ⟨v,c1,rfl,rfl,iv,kz,hg⟩
 have EP:∀ id,mc id ≠ .none→∃ be ey,c.B id=some be∧c1.B id=some ey∧be.kI ey:=by
  intro id hi
  have he:=ph.gr id
  cases hx:mc id with
  | none=>exact absurd hx hi
  | some le =>
   have hb:c0.B id=c.B id:=by simp [c0,hi]
   cases Hy:c0.B id with
   | none=>rw [hx,Hy] at he; cases le <;> simp [br] at he
   | some be =>
    obtain ⟨ey,h1,h2⟩:=hg.AB id be hi Hy
    exact ⟨be,ey,by rw [← hb]; exact Hy,h1,h2⟩
 have sD:∀ id,mc id ≠ .none→mf id ≠ .none:=by
  intro id hi gV
  have he:=iv.gr id
  rw [gV] at he
  simp only [br] at he
  obtain ⟨be,ey,_,h2,_⟩:=EP id hi
  rw [he] at h2; cases h2
 have L9:∀ id be,c.B id=some be→mc id=.none→mf id=.none:=by
  intro id be hb hi
  by_cases gV:mf id=.none
  ·exact gV
  ·have:=hm.fresh (ra id hi gV); rw [this] at hb; cases hb
 have Kx:¬ (fun id=>mc id ≠ .none) dj:=fun h'=>h' vI
 have M5:gM c0 c1:=hg.keeps Kx ph
 let c':Cx:=⟨c1.w,fun id=>if mf id=.none then c.B id else c1.B id,c.O,c1.Q⟩
 have zQ : ∀ b, c'.X b ↔ c1.X b := by
  intro b
  constructor
  ·rintro ((hO | hQ) | ⟨id,be,h2,h3⟩)
   ·exact .inl (.inl (by rw [hg.O]; exact .inl hO))
   ·exact .inl (.inr hQ)
   ·by_cases hi:mf id=.none
    ·simp only [c',hi,if_true] at h2
     have hn:mc id=.none:=by
      cases hx:mc id with
      | none=>rfl
      | some le=>exact absurd hi (sD id (by simp [hx]))
     exact .inl (.inl (by rw [hg.O]; exact .inr ⟨id,be,hn,h2,h3⟩))
    ·simp only [c',hi,if_false] at h2; exact .inr ⟨id,be,h2,h3⟩
  ·rintro ((hO | hQ) | ⟨id,be,h2,h3⟩)
   ·rw [hg.O] at hO
    rcases hO with hO | ⟨id,be,h1,h2,h3⟩
    ·exact .inl (.inl hO)
    ·exact .inr ⟨id,be,by simp [c',L9 id be h2 h1,h2],h3⟩
   ·exact .inl (.inr hQ)
   ·refine .inr ⟨id,be,?_,h3⟩
    have:mf id ≠ .none:=fun hn=>by have:=iv.fresh hn; rw [this] at h2; cases h2
    simp [c',this,h2]
 have Aa:c1.Le c':=⟨Nat.le_refl _,fun b _ hx=>⟨rfl,fun nS=>hx ((zQ b).1 nS)⟩,fun _ _ h=>⟨rfl,h⟩⟩
 have Ht:∀ id,jk (c1.B id) (c'.B id):=by
  intro id
  by_cases hi:mf id=.none
  ·rw [iv.fresh hi]; trivial
  ·simp only [c',hi,if_false]; exact jk.refl _
 have IE:∀ id be,c.B id=some be→∃ ey,c'.B id=some ey∧be.kI ey:=by
  intro id be hb
  by_cases hi:mf id=.none
  ·exact ⟨be,by simp [c',hi,hb],.refl be⟩
  ·simp only [c',hi,if_false]
   by_cases hc:mc id=.none
   ·have:=L9 id be hb hc; exact absurd this hi
   ·obtain ⟨Qn,ey,h1,h2,h3⟩:=EP id hc
    rw [hb] at h1; cases h1
    exact ⟨ey,h2,h3⟩
 have uE:∀ b,c0.own b→c.own b:=by
  rintro b ⟨id,be,h1,h2⟩
  by_cases hi:mc id=.none
  ·simp [c0,hi] at h1
  ·simp only [c0,hi,if_false] at h1; exact ⟨id,be,h1,h2⟩
 have jx:Grow pr c c':=by
  refine ⟨rfl,hg.os,hg.tape,hg.output,hg.drawn,hg.size,fun b hb ho _=>hg.jr b hb ?_ (.inr Kx),fun _ b n hb=>(M5 b n hb).2,fun b hb=>(hg.qn b hb).elim .inl (fun h=>h.elim (fun h=>.inr (.inl (uE b h))) (fun h=>.inr (.inr h))),?_,fun id be _ hb=>IE id be hb⟩
  ·rintro ⟨id,be,h1,h2⟩
   by_cases hi:mc id=.none
   ·simp [c0,hi] at h1
   ·simp only [c0,hi,if_false] at h1; exact ho ⟨id,be,h1,h2⟩
  ·rintro b ⟨id,be,h1,h2⟩
   by_cases hi:mf id=.none
   ·simp only [c',hi,if_true] at h1; exact .inl ⟨id,be,h1,h2⟩
   ·simp only [c',hi,if_false] at h1
    rcases hg.own b ⟨id,be,h1,h2⟩ with ⟨j,ey,h3,h4⟩ | hs
    ·by_cases hj:mc j=.none
     ·simp [c0,hj] at h3
     ·simp only [c0,hj,if_false] at h3; exact .inl ⟨j,ey,h3,h4⟩
    ·exact .inr hs
 have dw:∀ id,jk (c.B id) (c'.B id):=by
  intro id
  cases hb:c.B id with
  | none=>trivial
  | some be =>
   obtain ⟨ey,h1,h2⟩:=IE id be hb
   rw [h1]
   cases be with
   | box b n=>simp only [BE.kI] at h2; subst h2; exact jk.refl _
   | arr u k len ins=>simp only [BE.kI] at h2; obtain ⟨u',k8,k7,rfl,h3,h4⟩:=h2; exact ⟨_,_,_,rfl,h3,h4⟩
   | mp b=>simp only [BE.kI] at h2; subst h2; exact jk.refl _
 have lI:gM c c':=fun b n hb=>M5 b n hb
 refine ⟨v,c',rfl,rfl,⟨fun id=>?_,?_,?_,?_,fun b hb=>⟨?_,?_,(iv.cN b hb).2.2⟩⟩,au.mono Aa lv v (fun id _=>Ht id) kz,jx,dw,lI⟩
 ·by_cases hi:mf id=.none
  ·have hb:c'.B id=c.B id:=by simp [c',hi]
   have RP:m.over mf id=m id:=by simp [Mem.over,hi]
   rw [RP,hb]
   refine (hm.gr id).mono (jx.le lI) dw fun be b h1 h2=>?_
   refine hg.jr b ((hm.gr id).lt h1 h2) ?_ (.inr Kx)
   rintro ⟨j,ey,h3,h4⟩
   by_cases hj:mc j=.none
   ·simp [c0,hj] at h3
   ·simp only [c0,hj,if_false] at h3
    have:=hm.inj id j be ey b h1 h3 h2 h4
    subst this
    exact absurd hi (sD id hj)
  ·have hb:c'.B id=c1.B id:=by simp [c',hi]
   cases hx:mf id with
   | none=>exact absurd hx hi
   | some le =>
    have RP:m.over mf id=mf id:=by simp [Mem.over,hx]
    rw [RP,hb]
    exact (iv.gr id).mono Aa Ht fun _ _ _ _=>rfl
 ·intro i i' be ey b h1 h2 h3 h4
  by_cases hi:mf i=.none <;> by_cases gV:mf i'=.none
  ·simp only [c',hi,gV,if_true] at h1 h2; exact hm.inj i i' be ey b h1 h2 h3 h4
  ·simp only [c',hi,if_true] at h1
   simp only [c',gV,if_false] at h2
   refine absurd ?_ (iv.jG b ⟨i',ey,h2,h4⟩)
   rw [hg.O]
   refine .inr ⟨i,be,?_,h1,h3⟩
   cases hx:mc i with
   | none=>rfl
   | some le=>exact absurd hi (sD i (by simp [hx]))
  ·simp only [c',hi,if_false] at h1
   simp only [c',gV,if_true] at h2
   refine absurd ?_ (iv.jG b ⟨i,be,h1,h3⟩)
   rw [hg.O]
   refine .inr ⟨i',ey,?_,h2,h4⟩
   cases hx:mc i' with
   | none=>rfl
   | some le=>exact absurd gV (sD i' (by simp [hx]))
  ·simp only [c',hi,gV,if_false] at h1 h2; exact iv.inj i i' be ey b h1 h2 h3 h4
 ·rintro b ⟨id,be,h1,h2⟩ hO
  by_cases hi:mf id=.none
  ·simp only [c',hi,if_true] at h1; exact hm.jG b ⟨id,be,h1,h2⟩ hO
  ·simp only [c',hi,if_false] at h1; exact iv.jG b ⟨id,be,h1,h2⟩ (by rw [hg.O]; exact .inl hO)
 ·intro b hO; exact Nat.lt_of_lt_of_le (hm.o3 b hO) hg.size
 ·intro hO; exact (iv.cN b hb).1 (by rw [hg.O]; exact .inl hO)
 ·rintro ⟨id,be,h1,h2⟩
  by_cases hi:mf id=.none
  ·simp only [c',hi,if_true] at h1
   have hn:mc id=.none:=by
    cases hx:mc id with
    | none=>rfl
    | some le=>exact absurd hi (sD id (by simp [hx]))
   exact (iv.cN b hb).1 (by rw [hg.O]; exact .inr ⟨id,be,hn,h1,h2⟩)
  ·simp only [c',hi,if_false] at h1; exact (iv.cN b hb).2.1 ⟨id,be,h1,h2⟩
def Cx.OQ (c' c:Cx):Prop:=c'.O=c.O∧c'.Q=c.Q
theorem Cx.OQ.refl (c:Cx):c.OQ c:=⟨rfl,rfl⟩
theorem Cx.OQ.U {c' c:Cx} (h:c'.OQ c) {b:Nat} (hb:c'.U b):c.U b:=by unfold Cx.U at *; rw [h.1,h.2] at hb; exact hb
theorem Cx.sub_le {c c':Cx} (hw:c'.w=c.w) (hO:c'.OQ c) (bd:∀ b,c'.own b→c.own b):c.Le c' :=
 ⟨by rw [hw]; exact Nat.le_refl _,fun b _ hx=>⟨by rw [hw],fun nS=>hx (nS.imp hO.U (bd b))⟩,fun b n hb=>⟨by rw [hw],by rw [hO.2]; exact hb⟩⟩
theorem Cx.mE {pr:Nat→Prop} {c c':Cx} (hw:c'.w=c.w) (hO:c'.OQ c) (bd:∀ b,c'.own b→c.own b) (hp:∀ id be,pr id→c.B id=some be→∃ ey,c'.B id=some ey∧be.kI ey):Grow pr c c' :=
 ⟨hO.1,by rw [hw],by rw [hw],by rw [hw],by rw [hw]; exact Nat.le_refl _,by rw [hw]; exact Nat.le_refl _,fun b _ _ _=>by rw [hw],fun _ b n hb=>by rw [hO.2]; exact hb,fun b hb=>.inl (by rw [hO.2] at hb; exact hb),fun b ho=>.inl (bd b ho),hp⟩
theorem Grow.sub {pr:Nat→Prop} {c c1 c':Cx} (h:Grow pr c c1) (hw:c'.w=c1.w) (hO:c'.OQ c1) (bd:∀ b,c'.own b→c1.own b) (hp:∀ id be,pr id→c.B id=some be→∃ ey,c'.B id=some ey∧be.kI ey):Grow pr c c' :=
 ⟨hO.1.trans h.O,by rw [hw]; exact h.os,by rw [hw]; exact h.tape,by rw [hw]; exact h.output,by rw [hw]; exact h.drawn,by rw [hw]; exact h.size,fun b hb ho hq=>by rw [hw]; exact h.jr b hb ho hq,fun hp b n hb=>by rw [hO.2]; exact h.q hp b n hb,fun b hb=>h.qn b (by rw [hO.2] at hb; exact hb),fun b ho=>h.own b (bd b ho),hp⟩
theorem bU.nq {c c':Cx} {m:Mem} (h:bU c m) (hw:c'.w=c.w) (hO:c'.OQ c) (bd:∀ b,c'.own b→c.own b):∀ b,c'.Q b ≠ .none→¬ c'.O b∧¬ c'.own b∧b<c'.w.heap.size:=fun b hb=>by
 rw [hO.2] at hb; rw [hO.1,hw]
 exact ⟨(h.cN b hb).1,fun ho=>(h.cN b hb).2.1 (bd b ho),(h.cN b hb).2.2⟩
theorem bU.Uo {c c':Cx} {m:Mem} (h:bU c m) (hO:c'.OQ c) (fh:c.w.heap.size≤c'.w.heap.size) (bd:∀ b,c'.own b→c.own b ∨ c.w.heap.size≤b):∀ b,c'.Q b ≠ .none→¬ c'.O b∧¬ c'.own b∧b<c'.w.heap.size:=fun b hb=>by
 rw [hO.2] at hb; rw [hO.1]
 exact ⟨(h.cN b hb).1,fun ho=>(bd b ho).elim (h.cN b hb).2.1 (fun hs=>by have:=(h.cN b hb).2.2; omega),Nat.lt_of_lt_of_le (h.cN b hb).2.2 fh⟩
theorem bU.Fx {c c':Cx} {m:Mem} (h:bU c m) (hO:c'.OQ c) (gl:∀ b,b<c.w.heap.size→¬ c.own b→c'.w.heap[b]?=c.w.heap[b]?):gM c c':=fun b n hb=>by
 have hn:=h.cN b (by rw [hb]; simp)
 exact ⟨gl b hn.2.2 hn.2.1,by rw [hO.2]; exact hb⟩
theorem bU.Tc {c:Cx} {m:Mem} (h:bU c m) {b:Nat} (hb:c.own b):¬ c.U b:=fun hu=>hu.elim (h.jG b hb) (fun hq=>(h.cN b hq).2.1 hb)
end Go.L
namespace Go.L
def tsize (P:Program) (t:TypeId):Nat:=((P.info? t).map (·.size)).getD 0
def tagg (P:Program) (t:TypeId):Bool:=match P.underlying t with | some (.struct _)=>true | some (.array _ _)=>true | _=>false
def tok (P:Program) (t:TypeId):Bool:=(P.info? t).isSome && (P.underlying t).isSome
def telem (P:Program) (t:TypeId):Option Nat:=match P.underlying t with | some (.slice e)=>some e | _=>.none
def tfield (P:Program) (t:TypeId) (f:Nat):Option (Nat × Nat):=match P.underlying t with | some (.struct fs)=>(fs[f]?).map fun x=>(x.offset,x.type) | _=>.none
def yW (P:Program) (t:TypeId):Bool:=match P.underlying t with | some .bool=>true | _=>false
def tint (P:Program) (t:TypeId):Option IntKind:=match P.underlying t with | some (.int k)=>some k | _=>.none
def gy (P:Program) (t:TypeId):Bool:=match P.info? t with
 | some i=>(match i.zero with | some z=>z.cells.size == i.size && z.cells.all (·.oneCell') | .none=>false) && decide (0<i.size) && decide (i.bytes≤256)
 | .none=>false
def ug:Value→LV
 | .int k n=>.int k n
 | .bool b=>.bool b
 | .slice .none 0 0=>.nil
 | .pointer .none=>.fe
 | .nilFunc=>.lZ
 | .string s=>.str s
 | _=>.eB
def DW:Value→LV
 | .agg cs=>.agg (cs.toList.map ug)
 | v=>ug v
def tzero (P:Program) (t:TypeId):Option LV:=match P.info? t with
 | some i=>(match i.zero with | some z=>if z.cells.all (·.oneCell') then some (DW z) else .none | .none=>.none)
 | .none=>.none
def tbuild (P:Program) (t:TypeId):Bool:=match P.underlying t with
 | some (.struct fields)=>(fields.toList.mapM (fun f=>(P.info? f.type).map fun i=>(f.offset,i.size))).isSome
 | _=>false
def cZ (e:Env):Operand→LV
 | .tmp t=>e t
 | .const v=>DW v
 | .global _=>.eB
 | .func f=>.fn f []
def rep (cs:List LV) (o:Nat) (ns:List LV):List LV:=cs.take o++ns++cs.drop (o+ns.length)
def jV:LV→Option Value
 | .int k n=>some (.int k n)
 | .bool b=>some (.bool b)
 | _=>.none
def ef:List LV→Option (List Value)
 | []=>some []
 | x :: xs=>match jV x,ef xs with | some v,some vs=>some (v :: vs) | _,_=>.none
def oZ (P:Program) (t:TypeId) (xs ys:List LV) (b:Bool):Prop :=
 P.eqGuardType P.depth t=false∧∃ vs us,ef xs=some vs∧ef ys=some us∧∀ w,(Op.equal t (.agg vs.toArray) (.agg us.toArray)).run P w=.ok b w
def loadC (P:Program) (t:TypeId) (cs:List LV) (K:LV→Prop):Prop :=
 tok P t=true∧if tagg P t=true then tsize P t≤cs.length∧K (.agg (cs.take (tsize P t))) else match cs with | x :: _=>K x | []=>False
def oz (op:BinOp) (k:IntKind) (a b:Int) (K:LV→Prop):Prop :=
 match op with
 | .add=>K (.int k (k.wrap (a+b)))
 | .sub=>K (.int k (k.wrap (a - b)))
 | .mul=>K (.int k (k.wrap (a * b)))
 | .quo=>b ≠ 0∧K (.int k (k.wrap (a.tdiv b)))
 | .rem=>b ≠ 0∧K (.int k (a.tmod b))
 | .eql=>K (.bool (a == b))
 | .neq=>K (.bool (a != b))
 | .lss=>K (.bool (decide (a<b)))
 | .leq=>K (.bool (decide (a≤b)))
 | .gtr=>K (.bool (decide (a > b)))
 | .geq=>K (.bool (decide (a ≥ b)))
 | _=>False
def lN (P:Program) (t:TypeId):List LV→List (Nat × LV)→Option (List LV)
 | cs,[]=>some cs
 | cs,(i,x) :: r=>match tfield P t i with
  | some (off,ft)=>if x.cells.length=tsize P ft∧off+x.cells.length≤cs.length∧tok P ft=true∧x.cells.all LV.scalar=true then lN P t (rep cs off x.cells) r else .none
  | .none=>.none
def yK (y:LV) (o:Nat) (x:LV):Option LV :=
 match y with
 | .agg cs=>if o+x.cells.length≤cs.length∧cs.all LV.scalar=true then some (.agg (rep cs o x.cells)) else .none
 | _=>if o=0∧x.scalar=true∧y.scalar=true then some x else .none
def Bd (P:Program) (f:Nat) (args:List LV) (m:Mem) (K:LV→Mem→Prop):Prop :=
 ∃ lv mc mf,aP P f args mc lv mf∧(∀ id,mc id ≠ .none→m id=mc id)∧(∀ id,mc id=.none→mf id ≠ .none→m id=.none) ∧
  (∀ id,LV.cj id args=false→mc id ≠ .none)∧mc dj=.none∧(∀ id le,mc id=some le→∀ j,le.kN j=false→mc j ≠ .none)∧K lv (m.over mf)
def Src (k:Nat) (y:LV) (ys:List LV):Prop:=y=.ak k ys ∨ (y=.nil∧ys=[]) ∨ ∃ t e,y=.aJ t e k ys
def qE (k:Nat) (xs:List LV):Prop:=∀ x ∈ xs,x.pure=true∧x.cells.length=k∧x.cells.all LV.scalar=true
def LOp (P:Program) (pr:Nat→Prop) (ro:List Nat) (o:Oper) (ev:Operand→LV) (m:Mem) (K:LV→Mem→Prop):Prop :=
 match o.op with
 | .move x=>K (ev x) m
 | .assign x=>K (ev x) m
 | .pick c a b=>match ev c with | .bool t=>K (if t then ev a else ev b) m | _=>False
 | .alloc t=>match tzero P t,o.dst with
  | some z,some d=>m (100+d)=.none∧K (.ptr (100+d) 0) (m.put (100+d) (.box z.cells))
  | _,_=>False
 | .box _ x=>match o.dst with
  | some d=>(ev x).cells.all LV.scalar=true ∧
   if ro.contains d=true then K (.ag (ev x).cells) m
   else m (100+d)=.none∧K (.ptr (100+d) 0) (m.put (100+d) (.box (ev x).cells))
  | .none=>False
 | .build t parts=>tbuild P t=true∧match tzero P t with
  | some (.agg z)=>match lN P t z (parts.toList.map fun p=>(p.1,ev p.2)) with
   | some cs=>K (.agg cs) m
   | .none=>False
  | _=>False
 | .buildSlice t len parts=>match telem P t with
  | some e=>gy P e=true∧len * tsize P e≤16777216∧parts.toList.map (·.1)=List.range len∧qE (tsize P e) (parts.toList.map fun p=>ev p.2)∧K (.ak (tsize P e) (parts.toList.map fun p=>ev p.2)) m
  | .none=>False
 | .load t a=>match ev a with
  | .ag cs=>loadC P t cs fun lv=>K lv m
  | .ptr id o=>match m id with
   | some (.box cs)=>o≤cs.length∧loadC P t (cs.drop o) fun lv=>K lv m
   | _=>False
  | .bE id n i o=>match m id with
   | some (.arr _ _ xs)=>n=xs.length∧∃ x,xs[i]?=some x∧x.cells.all LV.scalar=true∧o≤x.cells.length∧loadC P t (x.cells.drop o) fun lv=>K lv m
   | _=>False
  | _=>False
 | .store t a x=>(ev x).cells.all LV.scalar=true∧tok P t=true∧tsize P t=(ev x).cells.length∧match ev a with
  | .ptr id o=>match m id with
   | some (.box cs)=>o+(ev x).cells.length≤cs.length∧K .eB (m.put id (.box (rep cs o (ev x).cells)))
   | _=>False
  | .bE id n i o=>match m id with
   | some (.arr e k xs)=>n=xs.length∧LV.bj (ev x).cells=true∧∃ y z,xs[i]?=some y∧yK y o (ev x)=some z∧K .eB (m.put id (.arr e k (xs.set i z)))
   | _=>False
  | _=>False
 | .nilCheck x=>match ev x with
  | .ptr _ _=>K (ev x) m
  | .ag _=>K (ev x) m
  | .bE id n _ _=>(match m id with | some (.arr _ _ xs)=>n=xs.length | _=>False)∧K (ev x) m
  | .fn _ _=>K (ev x) m
  | _=>False
 | .binOp op t x y _=>match ev x,ev y with
  | .int k a,.int k' b=>k=k'∧oz op k a b fun lv=>K lv m
  | .bool a,.bool b=>yW P t=true∧(match op with | .eql=>K (.bool (a == b)) m | .neq=>K (.bool (!(a == b))) m | _=>False)
  | .agg xs,.agg ys=>∃ b,oZ P t xs ys b∧(match op with | .eql=>K (.bool b) m | .neq=>K (.bool (!b)) m | _=>False)
  | _,_=>False
 | .unOp op _ x=>match op,ev x with
  | .not,.bool b=>K (.bool (!b)) m
  | .neg,.int k n=>K (.int k (k.wrap (0 - n))) m
  | _,_=>False
 | .convert s t x=>tok P s=true∧match tint P t,ev x with
  | some k,.int _ n=>K (.int k (k.wrap n)) m
  | _,_=>False
 | .slice t x lo hi mx=>(telem P t).isSome=true∧tok P ((telem P t).getD 0)=true∧mx=.none∧match ev x with
  | .ak k xs=>some k=(telem P t).map (tsize P)∧∃ l h:Nat,(match lo with | .none=>l=0 | some y=>ev y=.int .i64 l)∧(match hi with | .none=>h=xs.length | some y=>ev y=.int .i64 h) ∧
    l≤h∧h≤xs.length∧K (.ak k ((xs.take h).drop l)) m
  | .nil=>(match lo with | .none=>True | some y=>ev y=.int .i64 0)∧(match hi with | .none=>True | some y=>ev y=.int .i64 0)∧K .nil m
  | _=>False
 | .fieldAddr t x f=>match tfield P t f with
  | some (off,ft)=>tok P ft=true∧tsize P ft ≠ 0∧match ev x with
   | .ag cs=>off≤cs.length∧K (.ag (cs.drop off)) m
   | .ptr id o=>K (.ptr id (o+off)) m
   | .bE id n i o=>(match m id with | some (.arr _ _ xs)=>n=xs.length | _=>False)∧K (.bE id n i (o+off)) m
   | _=>False
  | .none=>False
 | .field t x f=>match tfield P t f,ev x with
  | some (off,ft),.agg cs=>off≤cs.length∧loadC P ft (cs.drop off) fun lv=>K lv m
  | _,_=>False
 | .indexAddr t x i=>match telem P t,ev x,ev i with
  | some e,.ak k xs,.int _ n=>tok P e=true∧k=tsize P e∧0≤n∧∃ y,xs[n.toNat]?=some y∧y.cells.all LV.scalar=true∧K (.ag y.cells) m
  | some e,.arr id l,.int _ n=>match m id with
   | some (.arr _ k xs)=>tok P e=true∧l=xs.length∧k=tsize P e∧0≤n∧n<l∧K (.bE id l n.toNat 0) m
   | _=>False
  | _,_,_=>False
 | .extract t i=>match ev t with
  | .de vs=>∃ v,vs[i]?=some v∧K v m
  | _=>False
 | .makeFunc f first cap=>match f with
  | .func f=>first=#[]∧K (.fn f (cap.toList.map ev)) m
  | _=>False
 | .makeSlice t l c=>match telem P t,tzero P ((telem P t).getD 0),ev l,ev c,o.dst with
  | some e,some z,.int .i64 n,.int .i64 n',some d=>n=n'∧0≤n∧n≤549755813888∧gy P e=true∧z.pure=true∧m (100+d)=.none ∧
    K (.arr (100+d) n.toNat) (m.put (100+d) (.arr e (tsize P e) (List.replicate n.toNat z)))
  | _,_,_,_,_=>False
 | .call c=>match c.callee with
  | .builtin .len=>match c.args.toList,c.argTypes.toList with
   | [x],[t]=>(telem P t).isSome=true∧match ev x with
    | .ak _ xs=>K (.int .i64 xs.length) m
    | .nil=>K (.int .i64 0) m
    | .arr id n=>(match m id with | some (.arr _ _ xs)=>n=xs.length | _=>False)∧K (.int .i64 n) m
    | _=>False
   | _,_=>False
  | .builtin .append=>match c.args.toList,c.argTypes.toList with
   | [x, y], [t, t'] => t = t' ∧ match telem P t with
    | some e=>gy P e=true∧∃ ys,Src (tsize P e) (ev y) ys∧match ev x with
     | .arr id n=>¬ pr id∧match m id with
      | some (.arr e' k xs)=>e'=e∧k=tsize P e∧n=xs.length∧xs.length+ys.length≤549755813888∧K (.arr id (n+ys.length)) (m.put id (.arr e k (xs++ys)))
      | _=>False
     | .nil=>match o.dst with
      | some d=>m (100+d)=.none∧ys.length≤549755813888∧K (.arr (100+d) ys.length) (m.put (100+d) (.arr e (tsize P e) ys))
      | .none=>False
     | _=>False
    | .none=>False
   | _,_=>False
  | .value x=>match ev x with
   | .fn f cap => (∃ fn, P.funcs[f]? = some fn ∧ (fn.name == "runtime.NumGoroutine") = false ∧ fn.body.isNone = false) ∧ Bd P f (c.args.toList.map ev ++ cap) m K
   | _=>False
  | _=>False
 | _=>False
def Be (P:Program) (pr:Nat→Prop) (ro:List Nat) (ops:Array Oper) (o:Oper) (K:Env→Mem→Prop) (e:Env) (m:Mem):Prop :=
 match o.guard with
 | .none=>LOp P pr ro o (cZ e) m fun lv m'=>K (e.fC o.dst lv) m'
 | some (j,want)=>match (ops[j]?).bind (·.dst) with
  | some g=>match e g with
   | .bool t=>if t=want then LOp P pr ro o (cZ e) m fun lv m'=>K (e.fC o.dst lv) m' else K (e.fC o.dst (.de [])) m
   | .de []=>K (e.fC o.dst (.de [])) m
   | _=>False
  | .none=>False
def cd (P:Program) (pr:Nat→Prop) (o:Oper) (ev:Operand→LV) (m:Mem) (lv:LV) (m':Mem):Prop :=
 ∀ (c:Cx) (a:Act) (Q:Exit→Act→World→Prop),(∀ x,au c (ev x) (a.eval x))→bU c m →
  o.wp P a c.w (fun a' w'=>∃ v c',a'=a.put o.dst v∧c'.w=w'∧au c' lv v∧bU c' m'∧Step pr c c') Q
end Go.L
namespace Go.L
section lists
theorem gh (v:Value) (vs:List Value):flat (v :: vs)=v.cells.toList++flat vs:=rfl
theorem eD (vs us:List Value):flat (vs++us)=flat vs++flat us:=by simp [flat]
theorem dt {k:Nat}:∀ {vs:List Value},(∀ v ∈ vs,v.cells.size=k)→(flat vs).length=vs.length * k
 | [],_=>by simp [flat]
 | v :: vs,h=>by
  rw [gh,List.length_append,dt (k:=k) (fun u hu=>h u (by simp [hu])),List.length_cons,Array.length_toList,h v (by simp),Nat.add_mul,Nat.one_mul,Nat.add_comm]
theorem fM {k:Nat} {vs:List Value} (h:∀ v ∈ vs,v.cells.size=k) {i:Nat} {u:Value} (hu:vs[i]?=some u) :
  flat vs=flat (vs.take i)++(u.cells.toList++flat (vs.drop (i+1)))∧(flat (vs.take i)).length=i * k:=by
 have hi:i<vs.length:=(List.getElem?_eq_some_iff.1 hu).1
 have he:vs[i]=u:=(List.getElem?_eq_some_iff.1 hu).2
 constructor
 ·rw [← gh,← he,← List.drop_eq_getElem_cons hi,← eD,List.take_append_drop]
 ·rw [dt (k:=k) (fun v hv=>h v (List.mem_of_mem_take hv)),List.length_take,Nat.min_eq_left (by omega)]
theorem ia {w:World} {b off:Nat} {l1 l2 l3:List Value} (h:w.rangeAt b off (l1++(l2++l3))):w.rangeAt b (off+l1.length) l2:=by
 intro j v hv
 have hj:j<l2.length:=(List.getElem?_eq_some_iff.1 hv).1
 have:=h (l1.length+j) v (by rw [List.getElem?_append_right (by omega)]; simp [List.getElem?_append_left hj,hv])
 rw [Nat.add_assoc]; exact this
theorem fm {w:World} {b off:Nat} {l:List Value} (h:w.rangeAt b off l) (n:Nat):w.rangeAt b (off+n) (l.drop n):=by
 intro j v hv
 rw [List.getElem?_drop] at hv
 rw [Nat.add_assoc]; exact h (n+j) v hv
theorem wa {w:World} {b off:Nat} {l:List Value} (h:w.rangeAt b off l) (n:Nat):w.rangeAt b off (l.take n):=by
 intro j v hv
 refine h j v ?_
 rw [List.getElem?_take] at hv
 split at hv
 ·exact hv
 ·cases hv
theorem qH (w:World) (vs:List Value) (t:TypeId):(w.alloc (.cells vs.toArray t)).rangeAt w.heap.size 0 vs:=by
 intro j v hv
 rw [World.cell?_alloc_new]
 simpa using hv
theorem mz {w:World} {b:Nat} {vs:List Value} {e:TypeId} {fr:Nat × Nat} (h:w.heap[b]?=some (.cells vs.toArray e fr)):w.rangeAt b 0 vs:=by
 intro j v hv
 simp [World.cell?,h,hv]
theorem cR {w:World} {e k n:Nat} {u:Value} {vs:List Value} (h:w.ownsRow 0 e k u n vs) {b:Nat} (hb:u.ownBlock=some b):w.rangeAt b 0 vs:=by
 intro j v hv
 have:=h.cells hb j v hv
 rw [Addr.add_mid] at this
 exact this
end lists
theorem tg {xs:List LV} (h:LV.bj xs=true) (n:Nat):LV.bj (xs.drop n)=true :=
 cH.2 fun x hx=>cH.1 h x (List.mem_of_mem_drop hx)
theorem th {xs:List LV} (h:LV.bj xs=true) (n:Nat):LV.bj (xs.take n)=true :=
 cH.2 fun x hx=>cH.1 h x (List.mem_of_mem_take hx)
theorem jJ {xs ys:List LV} (h:LV.bj xs=true) (h':LV.bj ys=true):LV.bj (xs++ys)=true :=
 cH.2 fun x hx=>(List.mem_append.1 hx).elim (cH.1 h x) (cH.1 h' x)
theorem p9 (c:Cx) (v:Value):au c (ug v) v:=by
 unfold ug
 split <;> simp [au]
theorem p8 (c:Cx):∀ (vs:List Value),aC c (vs.map ug) vs
 | []=>by simp [aC]
 | v :: vs=>by simp only [List.map_cons,aC]; exact ⟨v,vs,rfl,p9 c v,p8 c vs⟩
theorem pK (c:Cx) (v:Value):au c (DW v) v:=by
 unfold DW
 split
 ·rename_i cs; simp only [au]; exact ⟨cs.toList,by simp,p8 c _⟩
 ·exact p9 c v
theorem Av (v:Value):(ug v).cells=[ug v]:=by
 unfold ug
 split <;> rfl
theorem mA (c:Cx) (z:Value):aC c (DW z).cells z.cells.toList:=by
 unfold DW
 split
 ·rename_i cs; simp only [LV.cells,Value.cells]; exact p8 c _
 ·rename_i h
  rw [Av]
  have:z.cells=#[z]:=by cases z <;> simp_all [Value.cells]
  rw [this]
  simp only [aC]
  exact ⟨z,[],rfl,p9 c z,rfl⟩
section ops
variable {P:Program} {pr:Nat→Prop} {o:Oper} {ev:Operand→LV} {m m':Mem} {lv:LV}
theorem cd.value (h:∀ (c:Cx) (a:Act),(∀ x,au c (ev x) (a.eval x))→bU c m→∃ v c',(execOp a.eval o).run P c.w=.ok (.value v) c'.w∧au c' lv v∧bU c' m'∧Step pr c c'):cd P pr o ev m lv m':=by
 intro c a Q bw hm
 obtain ⟨v,c',hr,h1,h2,h3⟩:=h c a bw hm
 unfold Oper.wp
 rw [hr]
 exact ⟨v,c',rfl,rfl,h1,h2,h3⟩
theorem cd.same (h:∀ (c:Cx) (a:Act),(∀ x,au c (ev x) (a.eval x))→bU c m→∃ v,(execOp a.eval o).run P c.w=.ok (.value v) c.w∧au c lv v):cd P pr o ev m lv m :=
 cd.value fun c a bw hm=>let ⟨v,hr,h1⟩:=h c a bw hm; ⟨v,c,hr,h1,hm,Step.refl pr c⟩
theorem BL (x:Operand) (ho:o.op=.move x ∨ o.op=.assign x):cd P pr o ev m (ev x) m :=
 cd.same fun c a bw _=>⟨a.eval x,by rcases ho with ho | ho <;> simp [execOp,ho],bw x⟩
theorem HY (x y z:Operand) (t:Bool) (ho:o.op=.pick x y z) (hx:ev x=.bool t):cd P pr o ev m (if t then ev y else ev z) m :=
 cd.same fun c a bw _=>by
  have h:=bw x
  rw [hx] at h
  simp only [au] at h
  refine ⟨if t then a.eval y else a.eval z,?_,?_⟩
  ·simp [execOp,ho,h,asBool]
  ·cases t
   ·exact bw z
   ·exact bw y
theorem BI {c:Cx} {m:Mem} (hm:bU c m) (id:Nat) (bC:m id=.none) (cs:List LV) (vs:List Value) (t:TypeId) (hl:aC c cs vs) (h1:∀ v ∈ vs,v.oneCell'=true) :
  ∃ c':Cx,c'.w=c.w.alloc (.cells vs.toArray t)∧au c' (.ptr id 0) (.pointer (some ⟨c.w.heap.size,0,.none⟩))∧bU c' (m.put id (.box cs))∧Step pr c c':=by
 have hB:=hm.fresh bC
 obtain ⟨c',hw,hb,h2,h3⟩:=hm.A9 (pr:=pr) id (.box cs) (.box c.w.heap.size cs.length) (c.w.alloc (.cells vs.toArray t)) rfl rfl rfl (Nat.le_refl _) (by simp)
  (fun b hb _=>pn c.w _ b hb) (fun b hb=>by simp [BE.has] at hb; exact .inr (by omega)) (by rw [hB]; trivial) (fun _ di h0=>by rw [hB] at h0; cases h0)
  (fun c' hw hle dw=>by
   simp only [br]
   exact ⟨c.w.heap.size,vs,t,rfl,by rw [hw]; exact heap_alloc_new c.w _,aC.mono hle cs vs (fun id _=>dw id) hl,h1⟩)
 exact ⟨c',hw,by simp only [au]; exact ⟨_,_,hb,rfl⟩,h2,h3⟩
theorem xA (t:TypeId) (d:Nat) (z:LV) (ho:o.op=.alloc t) (hz:tzero P t=some z) (bC:m (100+d)=.none):cd P pr o ev m (.ptr (100+d) 0) (m.put (100+d) (.box z.cells)) :=
 cd.value fun c a bw hm=>by
  unfold tzero at hz
  split at hz
  ·rename_i i hi
   split at hz
   ·rename_i zv DU
    split at hz
    ·rename_i lT
     cases hz
     have Kt:∀ v ∈ zv.cells.toList,v.oneCell'=true:=fun v hv=>(Array.all_eq_true_iff_forall_mem.1 lT) v (by simpa using hv)
     obtain ⟨c',hw,hr,h2,h3⟩:=BI (pr:=pr) hm (100+d) bC (DW zv).cells zv.cells.toList t (mA c zv) Kt
     refine ⟨_,c',?_,hr,h2,h3⟩
     rw [hw]
     simp [execOp,ho,Instr.alloc,zeroValue,typeInfo,hi,DU,newVar,newRow]
    ·cases hz
   ·cases hz
  ·cases hz
theorem Lm (t:TypeId) (x:Operand) (d:Nat) (ho:o.op=.box t x) (hs:(ev x).cells.all LV.scalar=true) (bC:m (100+d)=.none):cd P pr o ev m (.ptr (100+d) 0) (m.put (100+d) (.box (ev x).cells)) :=
 cd.value fun c a bw hm=>by
  obtain ⟨hl,h1⟩:=(bw x).cellsOf hs
  obtain ⟨c',hw,hr,h2,h3⟩:=BI (pr:=pr) hm (100+d) bC (ev x).cells (a.eval x).cells.toList t hl (fun v hv=>h1 v (by simpa using hv))
  refine ⟨_,c',?_,hr,h2,h3⟩
  rw [hw]
  simp [execOp,ho,Instr.box,newVar,newRow]
theorem CV (t:TypeId) (x:Operand) (ho:o.op=.box t x) (hs:(ev x).cells.all LV.scalar=true):cd P pr o ev m (.ag (ev x).cells) m :=
 cd.value fun c a bw hm=>by
  obtain ⟨hl,h1⟩:=(bw x).cellsOf hs
  obtain ⟨h2,h3⟩:=hm.ext (pr:=pr) (c.w.alloc (.cells (a.eval x).cells.toList.toArray t)) rfl rfl rfl (Nat.le_refl _) (by simp) (fun b hb=>pn c.w _ b hb)
  refine ⟨.pointer (some ⟨c.w.heap.size,0,.none⟩),_,by simp [execOp,ho,Instr.box,newVar,newRow],?_,h2,h3⟩
  simp only [au]
  refine ⟨c.w.heap.size,0,(a.eval x).cells.toList,rfl,by simp,?_,h3.PX hl,fun v hv=>h1 v (by simpa using hv),qH c.w _ t⟩
  exact hm.O1 (Nat.le_refl _)
theorem fW {w:World} {t:TypeId} {b off:Nat} {cs:List LV} {vs:List Value} {c:Cx} (ht:tok P t=true) (hl:aC c cs vs) (hr:w.rangeAt b off vs) :
  (tagg P t=true→tsize P t≤cs.length→(Instr.loadAt t (.pointer (some ⟨b,off,.none⟩))).run P w=.ok (.agg (vs.take (tsize P t)).toArray) w) ∧
  (tagg P t=false→∀ v fH,vs=v :: fH→(Instr.loadAt t (.pointer (some ⟨b,off,.none⟩))).run P w=.ok v w):=by
 unfold tok at ht
 cases hi:P.info? t with
 | none=>simp [hi] at ht
 | some i =>
  cases hu:P.underlying t with
  | none=>simp [hu] at ht
  | some d =>
   constructor
   ·intro hg hs
    have eY:tsize P t=i.size:=by simp [tsize,hi]
    refine run_loadAt_mid w b off t _ d (wa hr _) hu ?_ ?_
    ·simp only [tagg,hu] at hg
     cases d <;> simp_all
    ·simp only [hi,Option.map_some,List.length_take,eY]
     rw [eY,hl.length] at hs
     rw [Nat.min_eq_left hs]
   ·intro hg v fH he
    subst he
    have hc:w.cell? ⟨b,off,.none⟩=some v:=by simpa using hr 0 v (by simp)
    have EB:(isAgg t).run P w=.ok false w:=by
     unfold isAgg
     rw [Sem.run_bind,run_underlying hu w]
     simp only [tagg,hu] at hg
     cases d <;> simp_all
    simp [Instr.loadAt,Instr.sureAddr,loadVar,Sem.run_bind,EB,hc]
theorem gQ {t:TypeId} {cs:List LV} {K:LV→Prop} (h:loadC P t cs K) :
  ∃ lv,K lv∧∀ (c:Cx) (b off:Nat) (vs:List Value),aC c cs vs→c.w.rangeAt b off vs→∃ v,(Instr.loadAt t (.pointer (some ⟨b,off,.none⟩))).run P c.w=.ok v c.w∧au c lv v:=by
 obtain ⟨ht,h⟩:=h
 by_cases hg:tagg P t=true
 ·rw [if_pos hg] at h
  refine ⟨_,h.2,fun c b off vs hl hr=>?_⟩
  refine ⟨_,(fW ht hl hr).1 hg h.1,?_⟩
  simp only [au]
  exact ⟨_,rfl,hl.take _⟩
 ·rw [if_neg hg] at h
  match cs,h with
  | x :: cs,h =>
   refine ⟨x,h,fun c b off vs hl hr=>?_⟩
   have iD:=hl
   simp only [aC] at iD
   obtain ⟨v,fH,rfl,hv,_⟩:=iD
   exact ⟨v,(fW ht hl hr).2 (by simpa using hg) v fH rfl,hv⟩
theorem oH {t:TypeId} {x:Operand} (ho:o.op=.load t x)
  (h:∀ (c:Cx) (a:Act),(∀ x,au c (ev x) (a.eval x))→bU c m→∃ b off,a.eval x=.pointer (some ⟨b,off,.none⟩)∧∃ v,(Instr.loadAt t (.pointer (some ⟨b,off,.none⟩))).run P c.w=.ok v c.w∧au c lv v):cd P pr o ev m lv m :=
 cd.same fun c a bw hm=>by
  obtain ⟨b,off,hx,v,hr,hv⟩:=h c a bw hm
  exact ⟨v,by simp [execOp,ho,hx,hr],hv⟩
end ops
end Go.L
namespace Go.L
section ops
variable {P:Program} {pr:Nat→Prop} {o:Oper} {ev:Operand→LV} {m m':Mem} {lv:LV}
theorem iV {c:Cx} {m:Mem} (hm:bU c m) {id:Nat} {cs:List LV} (h:m id=some (.box cs)):∃ b vs e,c.B id=some (.box b cs.length)∧c.w.heap[b]?=some (.cells vs.toArray e (0,0))∧aC c cs vs∧∀ v ∈ vs,v.oneCell'=true:=by
 have:=hm.gr id
 rw [h] at this
 simp only [br] at this
 exact this
theorem jS {c:Cx} {m:Mem} (hm:bU c m) {id:Nat} {e k:Nat} {xs:List LV} (h:m id=some (.arr e k xs)):∃ u vs,c.B id=some (.arr u k xs.length [])∧0<k∧c.w.ownsRow 0 e k u xs.length (flat vs)∧aC c xs vs∧(∀ v ∈ vs,v.cells.size=k∧∀ y ∈ v.cells,y.oneCell'=true)∧LV.bj xs=true:=by
 have:=hm.gr id
 rw [h] at this
 simp only [br] at this
 exact this
theorem Hq {c:Cx} {m:Mem} (hm:bU c m) {id n i off e k:Nat} {xs:List LV} {v:Value} (hv:au c (.bE id n i off) v) (bC:m id=some (.arr e k xs)) (hn:n=xs.length) {x:LV} (hx:xs[i]?=some x) (hs:x.cells.all LV.scalar=true) (ho:off≤x.cells.length) :
  ∃ b vs,v=.pointer (some ⟨b,i * k+off,.none⟩)∧aC c (x.cells.drop off) vs∧c.w.rangeAt b (i * k+off) vs:=by
 obtain ⟨u,vs,hB,hk,bd,hl,hc,hp⟩:=jS hm bC
 simp only [au] at hv
 obtain ⟨_,u',k',len,k7,iq,hle,hv⟩:=hv
 rw [hB] at iq
 cases iq
 obtain ⟨b,hb,rfl⟩:=hv hn
 obtain ⟨y,hy,Np⟩:=hl.get hx
 obtain ⟨h1,h2⟩:=fM (k:=k) (fun v hv=>(hc v hv).1) hy
 have fQ:=cR bd hb
 rw [h1] at fQ
 have:=ia fQ
 rw [h2] at this
 simp only [Nat.zero_add] at this
 exact ⟨b,_,rfl,(Np.cellsOf hs).1.drop off,fm this off⟩
theorem AY {t:TypeId} {x:Operand} {K:LV→Mem→Prop} (ho:o.op=.load t x) (h:LOp P pr [] o ev m K):∃ lv m',K lv m'∧cd P pr o ev m lv m':=by
 simp only [LOp,ho] at h
 cases hx:ev x <;> simp only [hx] at h
 case ag cs =>
  obtain ⟨lv,hK,hr⟩:=gQ h
  refine ⟨lv,m,hK,oH ho fun c a bw hm=>?_⟩
  have hv:=bw x
  rw [hx] at hv
  simp only [au] at hv
  obtain ⟨b,off,vs,he,_,_,hl,_,fQ⟩:=hv
  exact ⟨b,off,he,hr c b off vs hl fQ⟩
 case ptr id off =>
  cases hm:m id with
  | none=>simp [hm] at h
  | some le =>
   cases le with
   | map _ _ _=>simp [hm] at h
   | nest _ _ _ _=>simp [hm] at h
   | cU _ _ _ _ _ _ _ _=>simp [hm] at h
   | dead=>simp [hm] at h
   | arr e k xs=>simp [hm] at h
   | box cs =>
    simp only [hm] at h
    obtain ⟨lv,hK,hr⟩:=gQ h.2
    refine ⟨lv,m,hK,oH ho fun c a bw hM=>?_⟩
    obtain ⟨b,vs,e,hB,hh,hl,h1⟩:=iV hM hm
    have hv:=bw x
    rw [hx] at hv
    simp only [au] at hv
    obtain ⟨b',n,iq,he⟩:=hv
    rw [hB] at iq
    cases iq
    have fQ:=fm (mz hh) off
    simp only [Nat.zero_add] at fQ
    exact ⟨b,off,he,hr c b off _ (hl.drop off) fQ⟩
 case bE id n i off =>
  cases hm:m id with
  | none=>simp [hm] at h
  | some le =>
   cases le with
   | map _ _ _=>simp [hm] at h
   | nest _ _ _ _=>simp [hm] at h
   | cU _ _ _ _ _ _ _ _=>simp [hm] at h
   | dead=>simp [hm] at h
   | box cs=>simp [hm] at h
   | arr e k xs =>
    simp only [hm] at h
    obtain ⟨hn,y,hy,hs,HG,h⟩:=h
    obtain ⟨lv,hK,hr⟩:=gQ h
    refine ⟨lv,m,hK,oH ho fun c a bw hM=>?_⟩
    have hv:=bw x
    rw [hx] at hv
    obtain ⟨b,vs,he,hl,fQ⟩:=Hq hM hv hm hn hy hs HG
    exact ⟨b,_,he,hr c b _ vs hl fQ⟩
theorem iR {w:World} {t:TypeId} {b off:Nat} {cur:Array Value} {e:TypeId} {v:Value} (ht:tok P t=true) (hs:tsize P t=v.cells.size) (hh:w.heap[b]?=some (.cells cur e (0,0))) (hl:off+v.cells.size≤cur.size) (h1:∀ y ∈ v.cells,y.oneCell'=true) :
  (Instr.storeAt t (.pointer (some ⟨b,off,.none⟩)) v).run P w=.ok () (w.setRow b (cur.toList.take off++v.cells.toList++cur.toList.drop (off+v.cells.toList.length)).toArray):=by
 unfold tok at ht
 cases hi:P.info? t with
 | none=>simp [hi] at ht
 | some i =>
  have eY:v.cells.size=i.size:=by rw [← hs]; simp [tsize,hi]
  have ko:=run_storeCells_at (P:=P) b off e v.cells.toList 0 cur w hh (by simpa using hl) (fun y hy=>h1 y (by simpa using hy))
  simp only [Nat.add_zero] at ko
  simp [Instr.storeAt,Instr.sureAddr,storeVar,sizeOf,typeInfo,hi,eY,ko]
theorem cd.skip (h:∀ (c:Cx) (a:Act),(∀ x,au c (ev x) (a.eval x))→bU c m→∃ c',(execOp a.eval o).run P c.w=.ok .skip c'.w∧bU c' m'∧Step pr c c'):cd P pr o ev m .eB m':=by
 intro c a Q bw hm
 obtain ⟨c',hr,h2,h3⟩:=h c a bw hm
 unfold Oper.wp
 rw [hr]
 exact ⟨undef,c',rfl,rfl,by simp [au],h2,h3⟩
theorem AS {cs ns:List LV} {off:Nat} (h:off+ns.length≤cs.length):(rep cs off ns).length=cs.length:=by
 simp [rep]; omega
theorem yU {t:TypeId} {x y:Operand} {K:LV→Mem→Prop} (ho:o.op=.store t x y) (h:LOp P pr [] o ev m K):∃ lv m',K lv m'∧cd P pr o ev m lv m':=by
 simp only [LOp,ho] at h
 obtain ⟨wC,Nw,Ny,h⟩:=h
 cases hx:ev x <;> simp only [hx] at h
 case ptr id off =>
  cases hm:m id with
  | none=>simp [hm] at h
  | some le =>
   cases le with
   | map _ _ _=>simp [hm] at h
   | nest _ _ _ _=>simp [hm] at h
   | cU _ _ _ _ _ _ _ _=>simp [hm] at h
   | dead=>simp [hm] at h
   | arr e k xs=>simp [hm] at h
   | box cs =>
    simp only [hm] at h
    obtain ⟨HG,hK⟩:=h
    refine ⟨_,_,hK,cd.skip fun c a bw hM=>?_⟩
    obtain ⟨b,vs,e,hB,hh,hl,h1⟩:=iV hM hm
    have hv:=bw x
    rw [hx] at hv
    simp only [au] at hv
    obtain ⟨b',n,iq,he⟩:=hv
    rw [hB] at iq
    cases iq
    obtain ⟨DS,ue⟩:=(bw y).cellsOf wC
    have hlen:(ev y).cells.length=(a.eval y).cells.size:=by rw [DS.length]; simp
    have ll:=hl.length
    have dD:=iR (P:=P) (t:=t) (v:=a.eval y) (off:=off) Nw (by rw [Ny,hlen]) hh (by simp; omega) ue
    obtain ⟨c',hw,hb,h2,h3⟩:=hM.A9 (pr:=pr) id (.box (rep cs off (ev y).cells)) (.box b cs.length)
     (c.w.setRow b (vs.toArray.toList.take off++(a.eval y).cells.toList++vs.toArray.toList.drop (off+(a.eval y).cells.toList.length)).toArray) rfl rfl rfl (Nat.le_refl _) (by simp)
     (fun b' hT ep=>setRow_other _ _ _ _ (fun e=>ep _ hB (by rw [e]; exact rfl)))
     (fun b' hT=>.inl ⟨_,hB,hT⟩) (by rw [hB]; exact jk.refl _) (fun _ di h0=>by rw [hB] at h0; cases h0; exact .refl _)
     (fun c' hw hle dw=>by
      simp only [br]
      refine ⟨b,_,e,by rw [AS HG],by rw [hw]; exact setRow_heap c.w b _ _ e _ hh,?_,?_⟩
      ·refine aC.mono hle _ _ (fun id _=>dw id) ?_
       unfold rep
       rw [DS.length]
       simp only [List.toList_toArray]
       exact ((hl.take off).append DS).append (hl.drop _)
      ·intro v hv
       simp only [List.toList_toArray,List.mem_append] at hv
       rcases hv with (hv | hv) | hv
       ·exact h1 v (List.mem_of_mem_take hv)
       ·exact ue v (by simpa using hv)
       ·exact h1 v (List.mem_of_mem_drop hv))
    refine ⟨c',?_,h2,h3⟩
    rw [hw]
    simp [execOp,ho,he,dD]
 case bE id n i off =>
  cases hm:m id with
  | none=>simp [hm] at h
  | some le =>
   cases le with
   | map _ _ _=>simp [hm] at h
   | nest _ _ _ _=>simp [hm] at h
   | cU _ _ _ _ _ _ _ _=>simp [hm] at h
   | dead=>simp [hm] at h
   | box cs=>simp [hm] at h
   | arr e k xs =>
    simp only [hm] at h
    obtain ⟨hn,hp,z,z',hz,iE,hK⟩:=h
    refine ⟨_,_,hK,cd.skip fun c a bw hM=>?_⟩
    obtain ⟨u,vs,hB,hk,bd,hl,hc,Nj⟩:=jS hM hm
    have hv:=bw x
    rw [hx] at hv
    simp only [au] at hv
    obtain ⟨_,u',k',len,k7,iq,xk,hv⟩:=hv
    rw [hB] at iq
    cases iq
    obtain ⟨b,hb,he⟩:=hv hn
    obtain ⟨y',QH,Np⟩:=hl.get hz
    have hi:i<xs.length:=(List.getElem?_eq_some_iff.1 hz).1
    have Ww:y'.cells.size=k:=(hc y' (List.mem_of_getElem? QH)).1
    obtain ⟨DS,ue⟩:=(bw y).cellsOf wC
    have hlen:(ev y).cells.length=(a.eval y).cells.size:=by rw [DS.length]; simp
    obtain ⟨v',Sq,KS,TZ,SU⟩:∃ v',au c z' v'∧v'.cells.toList=y'.cells.toList.take off++(a.eval y).cells.toList++y'.cells.toList.drop (off+(a.eval y).cells.toList.length)∧off+(a.eval y).cells.size≤y'.cells.size∧z'.pure=true:=by
     unfold yK at iE
     split at iE
     ·rename_i cs
      split at iE
      ·rename_i EF
       cases iE
       simp only [au] at Np ⊢
       obtain ⟨zs,rfl,SX⟩:=Np
       refine ⟨.agg (zs.take off++(a.eval y).cells.toList++zs.drop (off+(a.eval y).cells.toList.length)).toArray,⟨_,rfl,?_⟩,by simp [Value.cells],?_,?_⟩
       ·unfold rep
        rw [DS.length]
        exact ((SX.take off).append DS).append (SX.drop _)
       ·have h5:=SX.length
        have h6:=EF.1
        show off+(a.eval y).cells.size≤zs.toArray.size
        simp only [List.size_toArray]; omega
       ·have Ub:LV.bj cs=true:=by have:=cH.1 Nj _ (List.mem_of_getElem? hz); simpa [LV.pure] using this
        simp only [LV.pure,rep]
        exact jJ (jJ (th Ub _) hp) (tg Ub _)
      ·cases iE
     ·split at iE
      ·rename_i EF
       obtain ⟨rfl,DR,SS⟩:=EF
       cases iE
       have h1:=eF DR (bw y)
       have h2:=eF SS Np
       refine ⟨a.eval y,bw y,?_,?_,?_⟩
       ·rw [dm h1,dm h2]; simp
       ·rw [dm h1,dm h2]; simp
       ·rw [lG DR] at hp; simpa [LV.bj] using hp
      ·cases iE
    obtain ⟨M8,ow⟩:=bd
    rcases ow with ⟨rfl,h0⟩ | ⟨g,cap,cur,rfl,vD,hg,kf,zi,hcs,wD⟩
    ·omega
    ·simp only [Value.ownBlock,Option.some.injEq] at hb
     subst hb
     have Kj:i * k+k≤xs.length * k:=by
      have:=Nat.mul_le_mul_right k (show i+1≤xs.length by omega)
      rw [Nat.add_mul,Nat.one_mul] at this; exact this
     have TS:xs.length * k≤cap * k:=Nat.mul_le_mul_right k kf
     have xg:i * k+off+(a.eval y).cells.size≤cur.size:=by omega
     have dD:=iR (P:=P) (t:=t) (v:=a.eval y) (off:=i * k+off) Nw (by rw [Ny,hlen]) hg xg ue
     obtain ⟨f1,f2⟩:=fM (k:=k) (fun v hv=>(hc v hv).1) QH
     have nh:=hl.length
     have M4:i<vs.length:=by omega
     have ra:flat (vs.set i v')=(flat vs).take (i * k+off)++(a.eval y).cells.toList++(flat vs).drop (i * k+off+(a.eval y).cells.toList.length):=by
      have e1:vs.set i v'=vs.take i++v' :: vs.drop (i+1):=by rw [List.set_eq_take_append_cons_drop,if_pos M4]
      rw [e1,eD,gh,KS,f1,← f2]
      have e2:(a.eval y).cells.toList.length=(a.eval y).cells.size:=by simp
      have e3:y'.cells.toList.length=y'.cells.size:=by simp
      rw [List.take_length_add_append,Nat.add_assoc (flat (vs.take i)).length,List.drop_length_add_append,List.take_append_of_le_length (by omega),List.drop_append_of_le_length (by omega)]
      simp
     have Kc:(cur.toList.take (i * k+off)++(a.eval y).cells.toList++cur.toList.drop (i * k+off+(a.eval y).cells.toList.length)).take (xs.length * k)=flat (vs.set i v'):=by
      rw [ra,← wD]
      have e2:(a.eval y).cells.toList.length=(a.eval y).cells.size:=by simp
      have e4:cur.toList.length=cur.size:=by simp
      apply List.ext_getElem?
      intro j
      simp only [List.getElem?_take,List.getElem?_append,List.length_append,List.length_take,List.getElem?_drop,e2,e4]
      repeat' split
      all_goals first | rfl | omega | (congr 1; omega) | skip
     obtain ⟨c',hw,hT,h2,h3⟩:=hM.A9 (pr:=pr) id (.arr e k (xs.set i z')) (.arr (.slice (some ⟨g,0,.none⟩) xs.length cap) k xs.length [])
      (c.w.setRow g (cur.toList.take (i * k+off)++(a.eval y).cells.toList++cur.toList.drop (i * k+off+(a.eval y).cells.toList.length)).toArray) rfl rfl rfl (Nat.le_refl _) (by simp)
      (fun b' hT ep=>setRow_other _ _ _ _ (fun e=>ep _ hB (.inl (by rw [e]; rfl))))
      (fun b' hT=>.inl ⟨_,hB,hT⟩) (by rw [hB]; exact jk.refl _) (fun _ di h0=>by rw [hB] at h0; cases h0; exact .refl _)
      (fun c' hw hle dw=>by
       simp only [br,List.length_set]
       refine ⟨.slice (some ⟨g,0,.none⟩) xs.length cap,vs.set i v',rfl,hk,⟨?_,.inr ⟨g,cap,_,rfl,vD,by rw [hw]; exact setRow_heap c.w g _ _ e _ hg,kf,zi,?_,?_⟩⟩,?_,?_,?_⟩
       ·rw [ra]
        have e2:(a.eval y).cells.toList.length=(a.eval y).cells.size:=by simp
        simp only [List.length_append,List.length_take,List.length_drop,List.length_set,M8,e2]
        omega
       ·have e2:(a.eval y).cells.toList.length=(a.eval y).cells.size:=by simp
        simp only [List.size_toArray,List.length_append,List.length_take,List.length_drop,Array.length_toList]
        omega
       ·exact Kc
       ·refine aC.mono hle _ _ (fun id _=>dw id) (aC.of (by simpa using nh) fun j x' w' nS He=>?_)
        by_cases hj:j=i
        ·subst hj
         simp only [List.getElem?_set_self hi,Option.some.injEq] at nS
         simp only [List.getElem?_set_self M4,Option.some.injEq] at He
         subst nS; subst He; exact Sq
        ·rw [List.getElem?_set_ne (Ne.symm hj)] at nS He
         obtain ⟨LU,NB,RY⟩:=hl.get nS
         rw [He] at NB; cases NB; exact RY
       ·intro v hv
        rcases List.mem_or_eq_of_mem_set hv with hv | hv
        ·exact hc v hv
        ·subst hv
         have eY:v.cells.size=k:=by
          have:=congrArg List.length KS
          have e2:(a.eval y).cells.toList.length=(a.eval y).cells.size:=by simp
          simp only [List.length_append,List.length_take,List.length_drop,Array.length_toList] at this
          omega
         refine ⟨eY,fun y0 HN=>?_⟩
         have K4:y0 ∈ v.cells.toList:=by simpa using HN
         rw [KS] at K4
         simp only [List.mem_append] at K4
         rcases K4 with (hq | hq) | hq
         ·exact (hc y' (List.mem_of_getElem? QH)).2 y0 (by simpa using List.mem_of_mem_take hq)
         ·exact ue y0 (by simpa using hq)
         ·exact (hc y' (List.mem_of_getElem? QH)).2 y0 (by simpa using List.mem_of_mem_drop hq)
       ·refine cH.2 fun x' nS=>?_
        rcases List.mem_or_eq_of_mem_set nS with nS | nS
        ·exact cH.1 Nj x' nS
        ·subst nS; exact SU)
     refine ⟨c',?_,h2,h3⟩
     rw [hw]
     simp [execOp,ho,he,dD]
end ops
end Go.L
namespace Go.L
section ops
variable {P:Program} {pr:Nat→Prop} {o:Oper} {ev:Operand→LV} {m m':Mem} {lv:LV} {K:LV→Mem→Prop}
theorem gf {c:Cx} {m:Mem} (hm:bU c m) {id n e k:Nat} {xs:List LV} {v:Value} (hv:au c (.arr id n) v) (bC:m id=some (.arr e k xs)) (hn:n=xs.length) :
  ∃ vs,c.B id=some (.arr v k xs.length [])∧0<k∧c.w.ownsRow 0 e k v xs.length (flat vs)∧aC c xs vs∧(∀ v ∈ vs,v.cells.size=k∧∀ y ∈ v.cells,y.oneCell'=true)∧LV.bj xs=true:=by
 obtain ⟨u,vs,hB,hk,bd,hl,hc,Nj⟩:=jS hm bC
 simp only [au] at hv
 obtain ⟨_,u',k',len,k7,iq,xk,hv⟩:=hv
 rw [hB] at iq
 cases iq
 have:=hv hn
 subst this
 exact ⟨vs,hB,hk,bd,hl,hc,Nj⟩
theorem du {w:World} {e k n:Nat} {v:Value} {vs:List Value} (h:w.ownsRow 0 e k v n vs):∃ a cap,v=.slice a n cap:=by
 rcases h.2 with ⟨rfl,rfl⟩ | ⟨g,cap,cur,rfl,_⟩
 ·exact ⟨_,_,rfl⟩
 ·exact ⟨_,_,rfl⟩
theorem tI {x:Operand} (ho:o.op=.nilCheck x) (h:LOp P pr [] o ev m K):∃ lv m',K lv m'∧cd P pr o ev m lv m':=by
 simp only [LOp,ho] at h
 cases hx:ev x <;> simp only [hx] at h
 case ptr id off =>
  refine ⟨_,_,h,cd.same fun c a bw hm=>?_⟩
  have hv:=bw x
  rw [hx] at hv
  have uG:=hv
  simp only [au] at uG
  obtain ⟨b,n,_,he⟩:=uG
  exact ⟨a.eval x,by simp [execOp,ho,he],hv⟩
 case ag cs =>
  refine ⟨_,_,h,cd.same fun c a bw hm=>?_⟩
  have hv:=bw x
  rw [hx] at hv
  have uG:=hv
  simp only [au] at uG
  obtain ⟨b,off,vs,he,_⟩:=uG
  exact ⟨a.eval x,by simp [execOp,ho,he],hv⟩
 case bE id n i off =>
  obtain ⟨hn,hK⟩:=h
  refine ⟨_,_,hK,cd.same fun c a bw hm=>?_⟩
  have hv:=bw x
  rw [hx] at hv
  cases bC:m id with
  | none=>simp [bC] at hn
  | some le =>
   cases le with
   | map _ _ _=>simp [bC] at hn
   | nest _ _ _ _=>simp [bC] at hn
   | cU _ _ _ _ _ _ _ _=>simp [bC] at hn
   | dead=>simp [bC] at hn
   | box cs=>simp [bC] at hn
   | arr e k xs =>
    simp only [bC] at hn
    obtain ⟨u,vs,hB,_⟩:=jS hm bC
    have uG:=hv
    simp only [au] at uG
    obtain ⟨_,u',k',len,k7,iq,xk,uG⟩:=uG
    rw [hB] at iq
    cases iq
    obtain ⟨b,_,he⟩:=uG hn
    exact ⟨a.eval x,by simp [execOp,ho,he],hv⟩
 case fn f cap =>
  refine ⟨_,_,h,cd.same fun c a bw hm=>?_⟩
  have hv:=bw x
  rw [hx] at hv
  have uG:=hv
  simp only [au] at uG
  obtain ⟨vs,he,_⟩:=uG
  exact ⟨a.eval x,by simp [execOp,ho,he],hv⟩
theorem oe {c:Cx}:∀ {xs:List LV} {vs us:List Value},ef xs=some us→aC c xs vs→vs=us
 | [],vs,us,h,hr=>by simp [ef] at h; simp [aC] at hr; rw [hr,h]
 | x :: xs,vs,us,h,hr=>by
  simp only [aC] at hr
  obtain ⟨v,fH,rfl,hv,tZ⟩:=hr
  simp only [ef] at h
  split at h
  ·rename_i v0 QP h1 h2
   cases h
   rw [oe h2 tZ]
   cases x <;> simp [jV] at h1 <;> simp only [au] at hv <;> subst h1 <;> subst hv <;> rfl
  ·cases h
theorem yQ {op:BinOp} {t t':TypeId} {x y:Operand} (ho:o.op=.binOp op t x y t') (h:LOp P pr [] o ev m K):∃ lv m',K lv m'∧cd P pr o ev m lv m':=by
 simp only [LOp,ho] at h
 cases hx:ev x <;> simp only [hx] at h
 case int k a =>
  cases hy:ev y <;> simp only [hy] at h
  case int k' b =>
   obtain ⟨rfl,h⟩:=h
   have guard:∀ w,(eqGuard op t x y (.int k a) (.int k b)).run P w=.ok () w:=by
    intro w; unfold eqGuard; cases op <;> simp
   have key:∀ lv,(∀ w,(binOp op t (.int k a) (.int k b)).run P w=.ok lv w)→∀ l:LV,(∀ c,au c l lv)→cd P pr o ev m l m:=by
    intro lv hr l hl
    refine cd.same fun c ac bw hm=>?_
    have pw:=bw x
    have oX:=bw y
    rw [hx] at pw
    rw [hy] at oX
    simp only [au] at pw oX
    refine ⟨lv,?_,hl c⟩
    simp [execOp,ho,pw,oX,guard,hr]
   cases op <;> simp only [oz] at h
   case add=>exact ⟨_,_,h,key (.int k (k.wrap (a+b))) (fun w=>by simp [binOp,Op.intArith]) _ (fun c=>by simp [au])⟩
   case sub=>exact ⟨_,_,h,key (.int k (k.wrap (a - b))) (fun w=>by simp [binOp,Op.intArith]) _ (fun c=>by simp [au])⟩
   case mul=>exact ⟨_,_,h,key (.int k (k.wrap (a * b))) (fun w=>by simp [binOp,Op.intArith]) _ (fun c=>by simp [au])⟩
   case quo=>exact ⟨_,_,h.2,key (.int k (k.wrap (a.tdiv b))) (fun w=>by simp [binOp,Op.intDiv,h.1]) _ (fun c=>by simp [au])⟩
   case rem=>exact ⟨_,_,h.2,key (.int k (a.tmod b)) (fun w=>by simp [binOp,Op.intDiv,h.1]) _ (fun c=>by simp [au])⟩
   case eql=>exact ⟨_,_,h,key (.bool (a == b)) (fun w=>by simp [binOp,Op.intCmp]) _ (fun c=>by simp [au])⟩
   case neq=>exact ⟨_,_,h,key (.bool (a != b)) (fun w=>by simp [binOp,Op.intCmp]) _ (fun c=>by simp [au])⟩
   case lss=>exact ⟨_,_,h,key (.bool (decide (a<b))) (fun w=>by simp [binOp,Op.intCmp]) _ (fun c=>by simp [au])⟩
   case leq=>exact ⟨_,_,h,key (.bool (decide (a≤b))) (fun w=>by simp [binOp,Op.intCmp]) _ (fun c=>by simp [au])⟩
   case gtr=>exact ⟨_,_,h,key (.bool (decide (a > b))) (fun w=>by simp [binOp,Op.intCmp]) _ (fun c=>by simp [au])⟩
   case geq=>exact ⟨_,_,h,key (.bool (decide (a ≥ b))) (fun w=>by simp [binOp,Op.intCmp]) _ (fun c=>by simp [au])⟩
 case bool a =>
  cases hy:ev y <;> simp only [hy] at h
  case bool b =>
   obtain ⟨ht,h⟩:=h
   have hu:P.underlying t=some .bool:=by
    unfold yW at ht
    split at ht
    ·assumption
    ·cases ht
   have guard:∀ w,(eqGuard op t x y (.bool a) (.bool b)).run P w=.ok () w:=by
    intro w; unfold eqGuard; cases op <;> simp
   have key:∀ lv,(∀ w,(binOp op t (.bool a) (.bool b)).run P w=.ok lv w)→∀ l:LV,(∀ c,au c l lv)→cd P pr o ev m l m:=by
    intro lv hr l hl
    refine cd.same fun c ac bw hm=>?_
    have pw:=bw x
    have oX:=bw y
    rw [hx] at pw
    rw [hy] at oX
    simp only [au] at pw oX
    refine ⟨lv,?_,hl c⟩
    simp [execOp,ho,pw,oX,guard,hr]
   have heq:∀ w,(Op.equal t (.bool a) (.bool b)).run P w=.ok (a == b) w:=fun w=>run_equalIn_bool' w 9999 t a b hu
   cases op <;> simp only [] at h
   case eql=>exact ⟨_,_,h,key (.bool (a == b)) (fun w=>by simp [binOp,heq]) _ (fun c=>by simp [au])⟩
   case neq=>exact ⟨_,_,h,key (.bool (!(a == b))) (fun w=>by simp [binOp,heq]) _ (fun c=>by simp [au])⟩
 case agg xs =>
  cases hy:ev y <;> simp only [hy] at h
  case agg ys =>
   obtain ⟨b,⟨Ve,us,ws,Fb,VQ,heq⟩,h⟩:=h
   have guard:∀ w,(eqGuard op t x y (.agg us.toArray) (.agg ws.toArray)).run P w=.ok () w:=by
    intro w; unfold eqGuard; cases op <;> simp [Ve]
   have key:∀ lv,(∀ w,(binOp op t (.agg us.toArray) (.agg ws.toArray)).run P w=.ok lv w)→∀ l:LV,(∀ c,au c l lv)→cd P pr o ev m l m:=by
    intro lv hr l hl
    refine cd.same fun c ac bw hm=>?_
    have pw:=bw x
    have oX:=bw y
    rw [hx] at pw
    rw [hy] at oX
    simp only [au] at pw oX
    obtain ⟨vs1,pw,ec⟩:=pw
    obtain ⟨vs2,oX,fz⟩:=oX
    rw [oe Fb ec] at pw
    rw [oe VQ fz] at oX
    refine ⟨lv,?_,hl c⟩
    simp [execOp,ho,pw,oX,guard,hr]
   cases op <;> simp only [] at h
   case eql=>exact ⟨_,_,h,key (.bool b) (fun w=>by simp [binOp,heq]) _ (fun c=>by simp [au])⟩
   case neq=>exact ⟨_,_,h,key (.bool (!b)) (fun w=>by simp [binOp,heq]) _ (fun c=>by simp [au])⟩
theorem AZ {op:UnOp} {t:TypeId} {x:Operand} (ho:o.op=.unOp op t x) (h:LOp P pr [] o ev m K):∃ lv m',K lv m'∧cd P pr o ev m lv m':=by
 simp only [LOp,ho] at h
 cases op <;> cases hx:ev x <;> simp only [hx] at h
 case neg.int k n =>
   refine ⟨_,_,h,cd.same fun c a bw hm=>?_⟩
   have hv:=bw x
   rw [hx] at hv
   simp only [au] at hv
   exact ⟨_,by simp [execOp,ho,hv,Op.unary,Op.intArith]; rfl,by simp [au]⟩
 case not.bool b =>
   refine ⟨_,_,h,cd.same fun c a bw hm=>?_⟩
   have hv:=bw x
   rw [hx] at hv
   simp only [au] at hv
   exact ⟨_,by simp [execOp,ho,hv,Op.unary]; rfl,by simp [au]⟩
theorem uk {s t:TypeId} {x:Operand} (ho:o.op=.convert s t x) (h:LOp P pr [] o ev m K):∃ lv m',K lv m'∧cd P pr o ev m lv m':=by
 simp only [LOp,ho] at h
 obtain ⟨hs,h⟩:=h
 cases ht:tint P t <;> simp only [ht] at h
 case some k =>
  cases hx:ev x <;> simp only [hx] at h
  case int k' n =>
   refine ⟨_,_,h,cd.same fun c a bw hm=>?_⟩
   have hv:=bw x
   rw [hx] at hv
   simp only [au] at hv
   have hu:P.underlying t=some (.int k):=by
    unfold tint at ht
    split at ht
    ·cases ht; assumption
    ·cases ht
   unfold tok at hs
   cases Fb:P.underlying s with
   | none=>simp [Fb] at hs
   | some d =>
    refine ⟨.int k (k.wrap n),?_,by simp [au]⟩
    simp [execOp,ho,hv,convert,run_underlying hu,run_underlying Fb,Conv.intToInt]
theorem rr {t:TypeId} {x:Operand} {f:Nat} (ho:o.op=.fieldAddr t x f) (h:LOp P pr [] o ev m K):∃ lv m',K lv m'∧cd P pr o ev m lv m':=by
 simp only [LOp,ho] at h
 cases ng:tfield P t f <;> simp only [ng] at h
 case some q =>
  obtain ⟨off,ft⟩:=q
  simp only at h
  obtain ⟨gv,eY,h⟩:=h
  obtain ⟨fs,fd,hu,Bv,rfl,rfl⟩:∃ fs fd,P.underlying t=some (.struct fs)∧fs[f]?=some fd∧fd.offset=off∧fd.type=ft:=by
   unfold tfield at ng
   split at ng
   ·rename_i fs hu
    cases hf:fs[f]? with
    | none=>simp [hf] at ng
    | some fd=>simp [hf] at ng; exact ⟨fs,fd,hu,hf,ng.1,ng.2⟩
   ·cases ng
  have dD:∀ (w:World) (b q:Nat),(Instr.fieldAt t (.pointer (some ⟨b,q,.none⟩)) f).run P w=.ok (.pointer (some ⟨b,q+fd.offset,.none⟩)) w:=by
   intro w b q
   have hi:∃ i,P.info? fd.type=some i∧i.size ≠ 0:=by
    unfold tok at gv
    cases hi:P.info? fd.type with
    | none=>simp [hi] at gv
    | some i=>exact ⟨i,rfl,by simpa [tsize,hi] using eY⟩
   obtain ⟨i,hi,MZ⟩:=hi
   simp [Instr.fieldAt,run_underlying hu,Bv,Instr.sureAddr,fieldPlace,sizeOf,typeInfo,hi,MZ,Addr.add_mid]
  cases hx:ev x <;> simp only [hx] at h
  case ag cs =>
   refine ⟨_,_,h.2,cd.same fun c a bw hm=>?_⟩
   have hv:=bw x
   rw [hx] at hv
   simp only [au] at hv
   obtain ⟨b,q,vs,he,hb,hX,hl,h1,fQ⟩:=hv
   refine ⟨_,by simp [execOp,ho,he,dD]; rfl,?_⟩
   simp only [au]
   exact ⟨b,q+fd.offset,vs.drop fd.offset,rfl,hb,hX,hl.drop _,fun y hy=>h1 y (List.mem_of_mem_drop hy),fm fQ _⟩
  case ptr id q =>
   refine ⟨_,_,h,cd.same fun c a bw hm=>?_⟩
   have hv:=bw x
   rw [hx] at hv
   simp only [au] at hv
   obtain ⟨b,n,hB,he⟩:=hv
   refine ⟨_,by simp [execOp,ho,he,dD]; rfl,?_⟩
   simp only [au]
   exact ⟨b,n,hB,rfl⟩
  case bE id n i q =>
   obtain ⟨hn,hK⟩:=h
   refine ⟨_,_,hK,cd.same fun c a bw hm=>?_⟩
   have hv:=bw x
   rw [hx] at hv
   cases bC:m id with
   | none=>simp [bC] at hn
   | some le =>
    cases le with
    | map _ _ _=>simp [bC] at hn
    | nest _ _ _ _=>simp [bC] at hn
    | cU _ _ _ _ _ _ _ _=>simp [bC] at hn
    | dead=>simp [bC] at hn
    | box cs=>simp [bC] at hn
    | arr e k xs =>
     simp only [bC] at hn
     obtain ⟨u,vs,hB,_⟩:=jS hm bC
     simp only [au] at hv
     obtain ⟨_,u',k',len,k7,iq,xk,hv⟩:=hv
     rw [hB] at iq
     cases iq
     obtain ⟨b,hb,he⟩:=hv hn
     refine ⟨_,by simp [execOp,ho,he,dD]; rfl,?_⟩
     simp only [au]
     exact ⟨rfl,u,k,xs.length,_,hB,xk,fun _=>⟨b,hb,by rw [Nat.add_assoc]⟩⟩
theorem GH {t:TypeId} {cs:List LV} {off:Nat} (h:loadC P t (cs.drop off) fun lv=>K lv m) (HG:off≤cs.length) :
  ∃ lv,K lv m∧∀ (c:Cx) (vs:List Value),aC c cs vs→∃ v,(part t vs.toArray off).run P c.w=.ok v c.w∧au c lv v:=by
 obtain ⟨ht,h⟩:=h
 unfold tok at ht
 cases hi:P.info? t with
 | none=>simp [hi] at ht
 | some i =>
  cases hu:P.underlying t with
  | none=>simp [hu] at ht
  | some d =>
   have eY:tsize P t=i.size:=by simp [tsize,hi]
   by_cases hg:tagg P t=true
   ·rw [if_pos hg] at h
    refine ⟨_,h.2,fun c vs hl=>?_⟩
    have EB:(isAgg t).run P c.w=.ok true c.w:=by
     unfold isAgg
     rw [Sem.run_bind,run_underlying hu c.w]
     simp only [tagg,hu] at hg
     cases d <;> simp_all
    refine ⟨.agg ((vs.drop off).take (tsize P t)).toArray,?_,?_⟩
    ·simp only [part,Sem.run_bind,EB,Result.andThen_ok,if_true,sizeOf,typeInfo,run_program,hi,Sem.run_pure,eY]
     congr 2
     simp [List.extract_eq_take_drop]
    ·simp only [au]
     exact ⟨_,rfl,(hl.drop off).take _⟩
   ·rw [if_neg hg] at h
    cases hcs:cs.drop off with
    | nil=>simp [hcs] at h
    | cons x r =>
     simp only [hcs] at h
     refine ⟨x,h,fun c vs hl=>?_⟩
     have EB:(isAgg t).run P c.w=.ok false c.w:=by
      unfold isAgg
      rw [Sem.run_bind,run_underlying hu c.w]
      simp only [tagg,hu] at hg
      cases d <;> simp_all
     have iD:=hl.drop off
     rw [hcs] at iD
     simp only [aC] at iD
     obtain ⟨v,fH,he,hv,_⟩:=iD
     have EK:vs[off]?=some v:=by
      have:=congrArg (fun l=>l[0]?) he
      simpa using this
     exact ⟨v,by simp [part,EB,EK],hv⟩
theorem yS {t:TypeId} {x:Operand} {f:Nat} (ho:o.op=.field t x f) (h:LOp P pr [] o ev m K):∃ lv m',K lv m'∧cd P pr o ev m lv m':=by
 simp only [LOp,ho] at h
 cases ng:tfield P t f <;> simp only [ng] at h
 case some q =>
  obtain ⟨off,ft⟩:=q
  cases hx:ev x <;> simp only [hx] at h
  case agg cs =>
   obtain ⟨lv,hK,hr⟩:=GH h.2 h.1
   refine ⟨lv,m,hK,cd.same fun c a bw hm=>?_⟩
   obtain ⟨fs,fd,hu,Bv,rfl,rfl⟩:∃ fs fd,P.underlying t=some (.struct fs)∧fs[f]?=some fd∧fd.offset=off∧fd.type=ft:=by
    unfold tfield at ng
    split at ng
    ·rename_i fs hu
     cases hf:fs[f]? with
     | none=>simp [hf] at ng
     | some fd=>simp [hf] at ng; exact ⟨fs,fd,hu,hf,ng.1,ng.2⟩
    ·cases ng
   have hv:=bw x
   rw [hx] at hv
   simp only [au] at hv
   obtain ⟨vs,he,hl⟩:=hv
   obtain ⟨v,ec,fz⟩:=hr c vs hl
   exact ⟨v,by simp [execOp,ho,he,Instr.field,run_underlying hu,Bv,asAgg,ec],fz⟩
theorem um {t:Operand} {i:Nat} (ho:o.op=.extract t i) (h:LOp P pr [] o ev m K):∃ lv m',K lv m'∧cd P pr o ev m lv m':=by
 simp only [LOp,ho] at h
 cases hx:ev t <;> simp only [hx] at h
 case de vs =>
  obtain ⟨x,nS,hK⟩:=h
  refine ⟨_,_,hK,cd.same fun c a bw hm=>?_⟩
  have hv:=bw t
  rw [hx] at hv
  simp only [au] at hv
  obtain ⟨us,he,hl⟩:=hv
  obtain ⟨v,kz,wE⟩:=hl.get nS
  exact ⟨v,by simp [execOp,ho,he,Instr.extract,kz],wE⟩
theorem tz {c:Cx} {ev:Operand→LV} {a:Act} (bw:∀ x,au c (ev x) (a.eval x)):∀ (xs:List Operand),aC c (xs.map ev) (xs.map a.eval)
 | []=>by simp [aC]
 | x :: xs=>by simp only [List.map_cons,aC]; exact ⟨_,_,rfl,bw x,tz bw xs⟩
theorem tH {f:Fn} {first cap:Array Operand} (ho:o.op=.makeFunc f first cap) (h:LOp P pr [] o ev m K):∃ lv m',K lv m'∧cd P pr o ev m lv m':=by
 simp only [LOp,ho] at h
 cases f <;> simp only [] at h
 case func f =>
  obtain ⟨rfl,hK⟩:=h
  refine ⟨_,_,hK,cd.same fun c a bw hm=>?_⟩
  refine ⟨.func (.func f) #[] (cap.toList.map a.eval).toArray,by simp [execOp,ho,Instr.makeFunc]; rw [← Array.toList_map,Array.toArray_toList],?_⟩
  simp only [au]
  exact ⟨_,rfl,tz bw _⟩
theorem ru {t:TypeId} {x i:Operand} (ho:o.op=.indexAddr t x i) (h:LOp P pr [] o ev m K):∃ lv m',K lv m'∧cd P pr o ev m lv m':=by
 simp only [LOp,ho] at h
 cases lK:telem P t <;> simp only [lK] at h
 case some e =>
  have hu:P.underlying t=some (.slice e):=by
   unfold telem at lK
   split at lK
   ·cases lK; assumption
   ·cases lK
  cases hx:ev x <;> simp only [hx] at h
  case ak k xs =>
   cases hi:ev i <;> simp only [hi] at h
   case int ki n =>
    obtain ⟨gv,hk,h0,y,hy,SS,hK⟩:=h
    refine ⟨_,_,hK,cd.same fun c a bw hm=>?_⟩
    have Fi:=bw i
    rw [hi] at Fi
    simp only [au] at Fi
    have hv:=bw x
    rw [hx] at hv
    simp only [au] at hv
    obtain ⟨ad,cap,he,mu,hn,hp,hr⟩:=hv
    have dN:n.toNat<xs.length:=(List.getElem?_eq_some_iff.1 hy).1
    rcases hr with rfl | ⟨b,off,vs,rfl,hb,hX,hl,hc,fQ⟩
    ·simp at dN
    ·obtain ⟨u,IU,KP⟩:=hl.get hy
     obtain ⟨f1,f2⟩:=fM (k:=k) (fun v hv=>(hc v hv).1) IU
     rw [f1] at fQ
     have xn:=ia fQ
     rw [f2] at xn
     obtain ⟨vJ,E9⟩:=KP.cellsOf SS
     refine ⟨.pointer (some ⟨b,off+n.toNat * k,.none⟩),?_,?_⟩
     ·unfold tok at gv
      cases sC:P.info? e with
      | none=>simp [sC] at gv
      | some ie =>
       have lI:k=ie.size:=by rw [hk]; simp [tsize,sC]
       have vE:n<(xs.length:Int):=by omega
       simp [execOp,ho,he,Fi,Instr.indexAt,asIntOf,run_underlying hu,h0,vE,sizeOf,typeInfo,sC,Addr.add_mid,lI]
     ·simp only [au]
      exact ⟨b,_,u.cells.toList,rfl,hb,hX,vJ,fun y hy=>E9 y (by simpa using hy),xn⟩
  case arr id l =>
   cases hi:ev i <;> simp only [hi] at h
   case int ki n =>
    cases bC:m id with
    | none=>simp [bC] at h
    | some le =>
     cases le with
     | map _ _ _=>simp [bC] at h
     | nest _ _ _ _=>simp [bC] at h
     | cU _ _ _ _ _ _ _ _=>simp [bC] at h
     | dead=>simp [bC] at h
     | box cs=>simp [bC] at h
     | arr e' k xs =>
      simp only [bC] at h
      obtain ⟨gv,iD,hk,h0,dN,hK⟩:=h
      refine ⟨_,_,hK,cd.same fun c a bw hm=>?_⟩
      have Fi:=bw i
      rw [hi] at Fi
      simp only [au] at Fi
      have hv:=bw x
      rw [hx] at hv
      obtain ⟨vs,hB,IL,bd,hl,hc,hp⟩:=gf hm hv bC iD
      rcases bd.2 with ⟨_,Rg⟩ | ⟨g,cap,cur,KZ,_⟩
      ·omega
      ·refine ⟨.pointer (some ⟨g,n.toNat * k,.none⟩),?_,?_⟩
       ·unfold tok at gv
        cases sC:P.info? e with
        | none=>simp [sC] at gv
        | some ie =>
         have lI:k=ie.size:=by rw [hk]; simp [tsize,sC]
         have vE:n<(xs.length:Int):=by omega
         simp [execOp,ho,KZ,Fi,Instr.indexAt,asIntOf,run_underlying hu,h0,vE,sizeOf,typeInfo,sC,Addr.add_mid,lI]
       ·simp only [au]
        exact ⟨rfl,_,k,xs.length,_,hB,by omega,fun _=>⟨g,by rw [KZ]; rfl,by simp⟩⟩
end ops
end Go.L
namespace Go.L
section ops
variable {P:Program} {pr:Nat→Prop} {o:Oper} {ev:Operand→LV} {m m':Mem} {lv:LV} {K:LV→Mem→Prop}
theorem fG {t e:TypeId} (h:telem P t=some e):P.underlying t=some (.slice e):=by
 unfold telem at h
 split at h
 ·cases h; assumption
 ·cases h
theorem yT {t:TypeId} {x:Operand} {lo hi mx:Option Operand} (ho:o.op=.slice t x lo hi mx) (h:LOp P pr [] o ev m K):∃ lv m',K lv m'∧cd P pr o ev m lv m':=by
 simp only [LOp,ho] at h
 obtain ⟨lK,wD,rfl,h⟩:=h
 obtain ⟨e,lK⟩:=Option.isSome_iff_exists.1 lK
 have hu:=fG lK
 have IK:∃ ie,P.info? e=some ie:=by
  simp only [lK,Option.getD_some] at wD
  unfold tok at wD
  cases hi:P.info? e with
  | none=>simp [hi] at wD
  | some ie=>exact ⟨ie,rfl⟩
 cases hx:ev x <;> simp only [hx] at h
 case nil =>
  obtain ⟨rB,Hb,hK⟩:=h
  refine ⟨_,_,hK,cd.same fun c a bw hm=>?_⟩
  have hv:=bw x
  rw [hx] at hv
  simp only [au] at hv
  refine ⟨.slice .none 0 0,?_,by simp [au]⟩
  have h1:∀ y,lo=some y→a.eval y=.int .i64 0:=fun y hy=>by
   subst hy; simp only at rB; have:=bw y; rw [rB] at this; simpa only [au] using this
  have h2:∀ y,hi=some y→a.eval y=.int .i64 0:=fun y hy=>by
   subst hy; simp only at Hb; have:=bw y; rw [Hb] at this; simpa only [au] using this
  obtain ⟨ie,sC⟩:=IK
  cases lo <;> cases hi <;> simp_all [execOp,Instr.sliceAt,run_underlying hu,Instr.slice,Instr.sliceBounds,Instr.sliceBound,asIntOf,sizeOf,typeInfo]
 case ak k xs =>
  obtain ⟨hk,l,h',rB,Hb,Vp,Wp,hK⟩:=h
  refine ⟨_,_,hK,cd.same fun c a bw hm=>?_⟩
  have hv:=bw x
  rw [hx] at hv
  simp only [au] at hv
  obtain ⟨ad,cap,he,mu,hn,hp,hr⟩:=hv
  have h1:∀ y,lo=some y→a.eval y=.int .i64 l:=fun y hy=>by
   subst hy; simp only at rB; have:=bw y; rw [rB] at this; simpa only [au] using this
  have h2:∀ y,hi=some y→a.eval y=.int .i64 h':=fun y hy=>by
   subst hy; simp only at Hb; have:=bw y; rw [Hb] at this; simpa only [au] using this
  obtain ⟨ie,sC⟩:=IK
  have lI:k=ie.size:=by simpa [lK,tsize,sC] using hk
  have dD:(execOp a.eval o).run P c.w=.ok (.value (.slice (if cap=l then ad else ad.map (·.add (l * ie.size))) (h' - l) (cap - l))) c.w:=by
   have g1:(Instr.sliceBounds true xs.length cap (lo.map a.eval) (hi.map a.eval) .none).run P c.w=.ok (l,h',cap) c.w:=by
    have b2:(h':Int)≤cap:=by omega
    have b1:(l:Int)≤h':=by omega
    cases lo <;> cases hi <;> simp_all [Instr.sliceBounds,Instr.sliceBound,asIntOf]
   simp [execOp,ho,he,Instr.sliceAt,run_underlying hu,Instr.slice,g1,sizeOf,typeInfo,sC]
  refine ⟨_,dD,?_⟩
  simp only [au]
  have hlen:((xs.take h').drop l).length=h' - l:=by simp; omega
  refine ⟨_,cap - l,by rw [hlen],by rw [hlen]; omega,fun h0=>?_,tg (th hp _) _,?_⟩
  ·have:ad=.none:=by
    split at h0
    ·exact h0
    ·simpa using h0
   have:=hn this; omega
  ·by_cases RB:(xs.take h').drop l=[]
   ·exact .inl RB
   ·right
    have HH:0<h' - l:=by rw [← hlen]; exact List.length_pos_iff.2 RB
    rcases hr with rfl | ⟨b,off,vs,rfl,hb,hX,hl,hc,fQ⟩
    ·simp at RB
    ·refine ⟨b,off+l * k,(vs.take h').drop l,?_,hb,hX,(hl.take h').drop l,fun u hu=>hc u (List.mem_of_mem_take (List.mem_of_mem_drop hu)),?_⟩
     ·rw [if_neg (by omega)]; simp [Addr.add_mid,lI]
     ·have e1:vs=vs.take l++((vs.take h').drop l++vs.drop h'):=by
       rw [← List.append_assoc]
       have:vs.take l=(vs.take h').take l:=by rw [List.take_take,Nat.min_eq_left Vp]
       rw [this,List.take_append_drop,List.take_append_drop]
      rw [e1,eD,eD] at fQ
      have:=ia fQ
      rwa [dt (k:=k) (fun v hv=>(hc v (List.mem_of_mem_take hv)).1),List.length_take,Nat.min_eq_left (by have:=hl.length; omega)] at this
theorem Dy {c0:Call} (ho:o.op=.call c0) (hc:c0.callee=.builtin .len) (h:LOp P pr [] o ev m K):∃ lv m',K lv m'∧cd P pr o ev m lv m':=by
 obtain ⟨cl,args,LP⟩:=c0
 simp only at hc
 subst hc
 simp only [LOp,ho] at h
 split at h
 ·rename_i x t hargs ua
  obtain rfl:args=#[x]:=by apply Array.ext'; simpa using hargs
  obtain rfl:LP=#[t]:=by apply Array.ext'; simpa using ua
  obtain ⟨lK,h⟩:=h
  obtain ⟨e,lK⟩:=Option.isSome_iff_exists.1 lK
  have hu:=fG lK
  have run:∀ (a:Act) (w:World) ad n cap,a.eval x=.slice ad n cap→(execOp a.eval o).run P w=.ok (.value (.int .i64 n)) w:=by
   intro a w ad n cap he
   simp [execOp,ho,resolve,invoke,builtin,Builtin.len_,he,run_underlying hu,goInt]
  cases hx:ev x <;> simp only [hx] at h
  case nil =>
   refine ⟨_,_,h,cd.same fun c a bw hm=>?_⟩
   have hv:=bw x
   rw [hx] at hv
   simp only [au] at hv
   exact ⟨_,run a c.w _ _ _ hv,by simp [au]⟩
  case ak k xs =>
   refine ⟨_,_,h,cd.same fun c a bw hm=>?_⟩
   have hv:=bw x
   rw [hx] at hv
   simp only [au] at hv
   obtain ⟨ad,cap,he,_⟩:=hv
   exact ⟨_,run a c.w _ _ _ he,by simp [au]⟩
  case arr id n =>
   obtain ⟨hn,hK⟩:=h
   refine ⟨_,_,hK,cd.same fun c a bw hm=>?_⟩
   have hv:=bw x
   rw [hx] at hv
   cases bC:m id with
   | none=>simp [bC] at hn
   | some le =>
    cases le with
    | map _ _ _=>simp [bC] at hn
    | nest _ _ _ _=>simp [bC] at hn
    | cU _ _ _ _ _ _ _ _=>simp [bC] at hn
    | dead=>simp [bC] at hn
    | box cs=>simp [bC] at hn
    | arr e' k xs =>
     simp only [bC] at hn
     obtain ⟨vs,hB,IL,bd,hl,hc,hp⟩:=gf hm hv bC hn
     obtain ⟨ad,cap,he⟩:=du bd
     exact ⟨_,run a c.w _ _ _ he,by simp [au,hn]⟩
 ·cases h
theorem AX {c0:Call} {x:Operand} (ho:o.op=.call c0) (hc:c0.callee=.value x) (h:LOp P pr [] o ev m K):∃ lv m',K lv m'∧cd P pr o ev m lv m':=by
 obtain ⟨cl,args,LP⟩:=c0
 simp only at hc
 subst hc
 simp only [LOp,ho] at h
 cases hx:ev x <;> simp only [hx] at h
 case fn f cap =>
  obtain ⟨⟨fn,hf,EV,xb⟩,lv,mc,mf,nP,h1,h2,h3,L6,h4,hK⟩:=h
  refine ⟨lv,_,hK,fun c a Q bw hm=>?_⟩
  have hv:=bw x
  rw [hx] at hv
  simp only [au] at hv
  obtain ⟨us,he,hl⟩:=hv
  have dD:(execOp a.eval o).run P c.w=.ok (.enter f ((args.toList.map a.eval)++us).toArray) c.w:=by
   have e1:Array.map a.eval args++us.toArray=((args.toList.map a.eval)++us).toArray:=by
    apply Array.ext'; simp
   have Ad : ¬ fn.name = "runtime.NumGoroutine" := by simpa using EV
   have zR:¬ fn.body=.none:=fun hn=>by rw [hn] at xb; cases xb
   simp [execOp,ho,resolve,Deferred.ofValue,he,invoke,callFunc,hf,Ad,zR,e1]
  unfold Oper.wp
  rw [dD]
  simp only [Oper.upon]
  refine (nP.frame (m:=m) h1 h2 h3 L6 h4 pr c _ hm ((tz bw _).append hl)).mono ?_
  rintro en w' ⟨v,c',rfl,rfl,gW,uG,hs⟩
  exact ⟨v,c',rfl,rfl,uG,gW,hs⟩
end ops
end Go.L
namespace Go.L
section ops
variable {P:Program} {pr:Nat→Prop} {o:Oper} {ev:Operand→LV} {m m':Mem} {lv:LV} {K:LV→Mem→Prop}
theorem qa {e:TypeId} (h:gy P e=true):∃ i z,P.info? e=some i∧i.zero=some z∧z.cells.size=i.size∧(∀ v ∈ z.cells,v.oneCell'=true)∧0<i.size∧i.bytes≤256∧tsize P e=i.size:=by
 unfold gy at h
 split at h
 ·rename_i i hi
  split at h
  ·rename_i z hz
   simp only [Bool.and_eq_true,decide_eq_true_eq,beq_iff_eq] at h
   exact ⟨i,z,hi,hz,h.1.1.1,fun v hv=>(Array.all_eq_true_iff_forall_mem.1 h.1.1.2) v hv,h.1.2,h.2,by simp [tsize,hi]⟩
  ·simp at h
 ·cases h
theorem GO {c:Cx} {y:LV} {ys:List LV} {k:Nat} {v:Value} (hy:Src k y ys) (hv:au c y v) :
  (ys=[]∧v=.slice .none 0 0) ∨ ∃ ad cap us,v=.slice (some ad) ys.length cap∧aC c ys us∧(∀ u ∈ us,u.cells.size=k∧∀ y ∈ u.cells,y.oneCell'=true)∧LV.bj ys=true∧∀ j u,(flat us)[j]?=some u→c.w.cell? (ad.add j)=some u:=by
 rcases hy with rfl | ⟨rfl,rfl⟩ | ⟨t,e,rfl⟩
 ·simp only [au] at hv
  obtain ⟨a,cap,rfl,mu,hn,hp,hr⟩:=hv
  rcases hr with rfl | ⟨b,off,vs,rfl,hb,hX,hl,hc,fQ⟩
  ·cases a with
   | none=>left; have:=hn rfl; subst this; exact ⟨rfl,rfl⟩
   | some ad=>right; exact ⟨ad,cap,[],rfl,by simp [aC],by simp,by simp [LV.bj],by simp [flat]⟩
  ·right
   exact ⟨_,cap,vs,rfl,hl,hc,hp,fun j u hu=>by rw [Addr.add_mid]; exact fQ j u hu⟩
 ·simp only [au] at hv
  exact .inl ⟨rfl,hv⟩
 ·cases t
  ·simp only [au] at hv
   obtain ⟨a,cap,rfl,mu,hn,hp,hr⟩:=hv
   rcases hr with rfl | ⟨b,off,vs,rfl,hb,hX,hl,hc,fQ⟩
   ·cases a with
    | none=>left; have:=hn rfl; subst this; exact ⟨rfl,rfl⟩
    | some ad=>right; exact ⟨ad,cap,[],rfl,by simp [aC],by simp,by simp [LV.bj],by simp [flat]⟩
   ·right
    exact ⟨_,cap,vs,rfl,hl,hc,hp,fun j u hu=>by rw [Addr.add_mid]; exact fQ j u hu⟩
  ·simp only [au] at hv
   obtain ⟨_,hp,vs,ho,hl,hc,_⟩:=hv
   rcases ho.2 with ⟨rfl,h0⟩ | ⟨g,cap,cur,rfl,_⟩
   ·exact .inl ⟨List.eq_nil_of_length_eq_zero h0,rfl⟩
   ·exact .inr ⟨_,cap,vs,rfl,hl,hc,hp,fun j u hu=>ho.cells rfl j u hu⟩
theorem fV {w:World} {t ty e:TypeId} {i:TypeInfo} {z:Value} (ht:P.underlying t=some (.slice e)) (hi:P.info? e=some i) (hz:i.zero=some z) (zm:z.cells.size=i.size) (eY:0<i.size) (DJ:i.bytes≤256)
  {v:Value} {n:Nat} {xs:List Value} (bd:w.ownsRow 0 e i.size v n xs) {a:Addr} {q cap:Nat} {news:List Value} (hl:news.length=q * i.size) (lJ:∀ j u,news[j]?=some u→w.cell? (a.add j)=some u) (h1:∀ u ∈ news,u.oneCell'=true)
  (hb:n+q≤549755813888) :
  ∃ v' w',(Builtin.append_ #[t,t] ty #[v,.slice (some a) q cap]).run P w=.ok v' w'∧w'.ownsRow 0 e i.size v' (n+q) (xs++news)∧w.grownBy w' v.ownBlock∧(∀ b,v'.ownBlock=some b→v.ownBlock=some b ∨ w.heap.size≤b)∧(q=0→v'=v)∧w.drawn≤w'.drawn:=by
 have hmul:(n+q) * i.bytes≤140737488355328:=by
  have:=Nat.mul_le_mul hb DJ
  omega
 have MH:n+q≤maxLen:=by simp only [maxLen]; omega
 obtain ⟨v',w',hr,h2,h3,h4⟩:=run_append_own (P:=P) w 0 t ty e i z i.size i.bytes ht hi hz rfl rfl zm eY v n xs bd a q cap news hl lJ h1 MH hmul (Nat.zero_le _)
 refine ⟨v',w',hr,h2,h3,?_⟩
 rcases bd.2 with ⟨rfl,rfl⟩ | ⟨g,zG,cur,rfl,Cr,hg,kf,zi,hcs,Nu⟩
 ·by_cases hq:q=0
  ·have uG:v'=.slice .none 0 0:=h4.2 ⟨rfl,hq⟩
   subst uG
   subst hq
   have hn:news=[]:=List.eq_nil_of_length_eq_zero (by simpa using hl)
   have nf:(Builtin.append_ #[t,t] ty #[.slice .none 0 0,.slice (some a) 0 cap]).run P w=.ok (.slice .none 0 0) w:=by
    simp [Builtin.append_,run_underlying ht,sizeOf,typeInfo,hi,Builtin.lenOf,Builtin.firstCells,loadCells,loadCellsFrom]
   rw [hr] at nf
   cases nf
   exact ⟨fun b hb=>by simp [Value.ownBlock] at hb,fun _=>rfl,Nat.le_refl _⟩
  ·have fz:=run_append_nil (P:=P) w t ty e i z ht hi hz a q cap news hl lJ (by omega) (by omega) (by have hT:=hmul; simp only [Nat.zero_add] at hT; omega)
   rw [hr] at fz
   cases fz
   exact ⟨fun b hb=>by simp [Value.ownBlock] at hb; exact .inr (by omega),fun h=>absurd h hq,by simp⟩
 ·by_cases nR:n+q≤zG
  ·have xg:n * i.size+news.length≤cur.size:=by rw [hl,hcs,← Nat.add_mul]; exact Nat.mul_le_mul_right _ nR
   have fz:=run_append_room (P:=P) w t ty e i ht hi g n zG cur hg a q cap news hl lJ h1 nR xg
   rw [hr] at fz
   cases fz
   exact ⟨fun b hb=>.inl (by simpa [Value.ownBlock] using hb),(fun h=>by subst h; rfl),Nat.le_refl _⟩
  ·have holds:∀ j u,xs[j]?=some u→w.cell? ((⟨g,0,.none⟩:Addr).add j)=some u:=bd.cells (g:=g) rfl
   have fz:=run_append_grow (P:=P) w t ty e i z ht hi hz ⟨g,0,.none⟩ n zG xs bd.1 holds a q cap news hl lJ (by omega) (by simp only [maxLen] at MH; omega) (growslice_fits (by omega) hmul)
   rw [hr] at fz
   cases fz
   exact ⟨fun b hb=>by simp [Value.ownBlock] at hb; exact .inr (by omega),(fun h=>by omega),by simp⟩
theorem wj {c0:Call} (ho:o.op=.call c0) (hc:c0.callee=.builtin .append) (h:LOp P pr [] o ev m K):∃ lv m',K lv m'∧cd P pr o ev m lv m':=by
 obtain ⟨cl,args,LP⟩:=c0
 simp only at hc
 subst hc
 simp only [LOp,ho] at h
 split at h
 ·rename_i x y t t' hargs ua
  obtain rfl:args=#[x,y]:=by apply Array.ext'; simpa using hargs
  obtain rfl:LP=#[t,t']:=by apply Array.ext'; simpa using ua
  obtain ⟨rfl,h⟩:=h
  cases lK:telem P t <;> simp only [lK] at h
  case some e =>
   have hu:=fG lK
   obtain ⟨ow,ys,hy,h⟩:=h
   obtain ⟨i,z,hi,hz,zm,DT,eY,DJ,qB⟩:=qa ow
   have Bu:∀ (a:Act) (w:World),(execOp a.eval o).run P w=((Builtin.append_ #[t,t] o.type #[a.eval x,a.eval y]).run P w).andThen fun v w'=>.ok (.value v) w':=by
    intro a w
    simp [execOp,ho,resolve,invoke,builtin]
   have main:∀ (c:Cx) (a:Act),(∀ x,au c (ev x) (a.eval x))→bU c m→∀ (u:Value) (n:Nat) (xs:List LV) (vs:List Value),a.eval x=u→c.w.ownsRow 0 e i.size u n (flat vs)→n=xs.length→aC c xs vs→(∀ v ∈ vs,v.cells.size=i.size∧∀ y ∈ v.cells,y.oneCell'=true)→LV.bj xs=true→n+ys.length≤549755813888 →
     ∃ v' w',(execOp a.eval o).run P c.w=.ok (.value v') w'∧(∃ us,w'.ownsRow 0 e i.size v' (n+ys.length) (flat (vs++us))∧aC c (xs++ys) (vs++us)∧(∀ v ∈ vs++us,v.cells.size=i.size∧∀ y ∈ v.cells,y.oneCell'=true)∧LV.bj (xs++ys)=true) ∧
      c.w.grownBy w' u.ownBlock∧(∀ b,v'.ownBlock=some b→u.ownBlock=some b ∨ c.w.heap.size≤b)∧(ys.length=0→v'=u)∧c.w.drawn≤w'.drawn:=by
    intro c a bw hm u n xs vs hx bd hn hl hc hp hb
    rcases GO (k:=tsize P e) hy (bw y) with ⟨rfl,hv⟩ | ⟨ad,cap,us,hv,Ko,EH,EZ,fQ⟩
    ·refine ⟨u,c.w,?_,⟨[],by simpa using bd,by simpa using hl,by simpa using hc,by simpa using hp⟩,⟨rfl,rfl,rfl,Nat.le_refl _,fun _ _ _=>rfl⟩,fun b hb=>.inl hb,fun _=>rfl,Nat.le_refl _⟩
     rw [Bu,hx,hv,run_append_owned_none (P:=P) (w:=c.w) 0 t o.type e i i.size hu hi u n _ bd]
     rfl
    ·have Kp:=Ko.length
     rw [qB] at EH
     have Cz:(flat us).length=ys.length * i.size:=by rw [dt (k:=i.size) (fun v hv=>(EH v hv).1),Kp]
     obtain ⟨v',w',hr,h2,h3,h4,h5,h6⟩:=fV (P:=P) (ty:=o.type) hu hi hz zm eY DJ bd (cap:=cap) Cz fQ (fun q hq=>by
      simp only [flat,List.mem_flatMap] at hq
      obtain ⟨v,hv,hq⟩:=hq
      exact (EH v hv).2 q (by simpa using hq)) hb
     refine ⟨v',w',?_,⟨us,by rw [eD]; exact h2,hl.append Ko,fun v hv=>(List.mem_append.1 hv).elim (hc v) (EH v),jJ hp EZ⟩,h3,h4,h5,h6⟩
     rw [Bu,hx,hv,hr]
     rfl
   cases hx:ev x <;> simp only [hx] at h
   case arr id n =>
    obtain ⟨Vu,h⟩:=h
    cases bC:m id with
    | none=>simp [bC] at h
    | some le =>
     cases le with
     | map _ _ _=>simp [bC] at h
     | nest _ _ _ _=>simp [bC] at h
     | cU _ _ _ _ _ _ _ _=>simp [bC] at h
     | dead=>simp [bC] at h
     | box cs=>simp [bC] at h
     | arr e' k xs =>
      simp only [bC] at h
      obtain ⟨rfl,hk,hn,hb,hK⟩:=h
      refine ⟨_,_,hK,cd.value fun c a bw hm=>?_⟩
      have hv:=bw x
      rw [hx] at hv
      obtain ⟨vs,hB,IL,bd,hl,hc,hp⟩:=gf hm hv bC hn
      have xj:k=i.size:=by rw [hk,qB]
      subst xj
      obtain ⟨v',w',hr,⟨us,q1,q2,q3,q4⟩,q5,q6,q7,q8⟩:=main c a bw hm _ _ xs vs rfl bd rfl hl hc hp hb
      obtain ⟨c',hw,hT,h2,h3⟩:=hm.A9 (pr:=pr) id (.arr e' i.size (xs++ys)) (.arr v' i.size (xs.length+ys.length) []) w' q5.os q5.tape q5.output q8 q5.size
       (fun b hT ep=>q5.block b hT (fun hh=>ep _ hB (.inl hh.symm)))
       (fun b hT=>hT.elim (fun hT=>(q6 b hT).imp (fun hh=>⟨_,hB,.inl hh⟩) (fun hh=>hh)) (fun hh=>by cases hh))
       (by rw [hB]; exact ⟨_,_,_,rfl,by omega,fun hh=>q7 (by omega)⟩) (fun lX=>absurd lX Vu)
       (fun c' hw hle dw=>by
        simp only [br,List.length_append]
        exact ⟨v',vs++us,rfl,IL,by rw [hw]; exact q1,aC.mono hle _ _ (fun id _=>dw id) q2,q3,q4⟩)
      refine ⟨v',c',by rw [hw]; exact hr,?_,h2,h3⟩
      simp only [au]
      refine ⟨?_,v',_,_,_,hT,by omega,fun _=>rfl⟩
      obtain ⟨ad,cp,he⟩:=du q1
      rw [he]; rfl
   case nil =>
    cases hd:o.dst <;> simp only [hd] at h
    case some d =>
     obtain ⟨bC,hb,hK⟩:=h
     refine ⟨_,_,hK,cd.value fun c a bw hm=>?_⟩
     have hv:=bw x
     rw [hx] at hv
     simp only [au] at hv
     have hB:=hm.fresh bC
     obtain ⟨v',w',hr,⟨us,q1,q2,q3,q4⟩,q5,q6,q7,q8⟩:=main c a bw hm _ 0 [] [] hv (World.ownsRow_nil c.w 0 e i.size) rfl (by simp [aC]) (by simp) (by simp [LV.bj]) (by omega)
     simp only [Nat.zero_add,List.nil_append] at q1 q2 q3 q4
     obtain ⟨c',hw,hT,h2,h3⟩:=hm.A9 (pr:=pr) (100+d) (.arr e (tsize P e) ys) (.arr v' (tsize P e) ys.length []) w' q5.os q5.tape q5.output q8 q5.size
      (fun b hT _=>q5.block b hT (fun hh=>by simp [Value.ownBlock] at hh))
      (fun b hT=>hT.elim (fun hT=>(q6 b hT).elim (fun hh=>by simp [Value.ownBlock] at hh) .inr) (fun hh=>by cases hh))
      (by rw [hB]; trivial) (fun _ di h0=>by rw [hB] at h0; cases h0)
      (fun c' hw hle dw=>by
       simp only [br,qB]
       exact ⟨v',us,rfl,eY,by rw [hw]; exact q1,aC.mono hle _ _ (fun id _=>dw id) q2,q3,q4⟩)
     refine ⟨v',c',by rw [hw]; exact hr,?_,h2,h3⟩
     simp only [au]
     refine ⟨?_,v',_,_,_,hT,by omega,fun _=>rfl⟩
     obtain ⟨ad,cp,he⟩:=du q1
     rw [he]; rfl
 ·cases h
theorem flat_get {k:Nat} (hk:0<k):∀ {vs:List Value},(∀ v ∈ vs,v.cells.size=k)→∀ j,(flat vs)[j]?=(vs[j / k]?).bind fun v=>v.cells[j % k]?
 | [],_,j=>by simp [flat]
 | v :: vs,h,j=>by
  have hv:v.cells.toList.length=k:=by simpa using h v (by simp)
  rw [gh]
  by_cases hj:j<k
  ·rw [List.getElem?_append_left (by omega),Nat.div_eq_of_lt hj,Nat.mod_eq_of_lt hj]
   simp
  ·rw [List.getElem?_append_right (by omega),flat_get hk (fun u hu=>h u (by simp [hu])),hv]
   have e1:j / k=(j - k) / k+1:=by
    rw [show j=(j - k)+k by omega,Nat.add_div_right _ hk]; simp
   have e2:j % k=(j - k) % k:=by
    conv=>lhs; rw [show j=(j - k)+k by omega,Nat.add_mod_right]
   rw [e1,e2,List.getElem?_cons_succ]
theorem rv {t:TypeId} {x y:Operand} (ho:o.op=.makeSlice t x y) (h:LOp P pr [] o ev m K):∃ lv m',K lv m'∧cd P pr o ev m lv m':=by
 simp only [LOp,ho] at h
 split at h
 ·rename_i e z n n' d lK hz hx hy hd
  obtain ⟨rfl,h0,hb,ow,hp,bC,hK⟩:=h
  have hu:=fG lK
  obtain ⟨i,zv,hi,DU,zm,DT,eY,DJ,qB⟩:=qa ow
  refine ⟨_,_,hK,cd.value fun c a bw hm=>?_⟩
  have pw:=bw x
  have oX:=bw y
  rw [hx] at pw
  rw [hy] at oX
  simp only [au] at pw oX
  have VX:z=DW zv:=by
   rw [lK] at hz
   simp only [Option.getD_some,tzero,hi,DU] at hz
   split at hz
   ·cases hz; rfl
   ·cases hz
  subst VX
  have JZ:(i.bytes:Int) * n≤281474976710656:=by
   have h1:(i.bytes:Int) * n≤256 * n:=Int.mul_le_mul_of_nonneg_right (by omega) h0
   omega
  have dD:=run_make (P:=P) c.w t e i zv hu hi DU .i64 .i64 n n h0 (Int.le_refl _) JZ (by omega)
  have hB:=hm.fresh bC
  have om:(madeCells zv.cells (n.toNat * i.size)).toList=flat (List.replicate n.toNat zv):=by
   apply List.ext_getElem?
   intro j
   rw [flat_get eY (fun v hv=>by rw [List.eq_of_mem_replicate hv]; exact zm)]
   simp only [Array.getElem?_toList,madeCells,Array.getElem?_map,Array.getElem?_range,List.getElem?_replicate,zm]
   by_cases hj:j<n.toNat * i.size
   ·have h1:j / i.size<n.toNat:=(Nat.div_lt_iff_lt_mul eY).2 hj
    have h2:j % i.size<zv.cells.size:=by rw [zm]; exact Nat.mod_lt _ eY
    rw [if_pos hj,if_pos h1]
    simp [h2]
   ·have h1:¬ j / i.size<n.toNat:=fun hh=>hj ((Nat.div_lt_iff_lt_mul eY).1 hh)
    rw [if_neg hj,if_neg h1]
    rfl
  have fh:(madeCells zv.cells (n.toNat * i.size)).size=n.toNat * i.size:=size_madeCells _ _
  obtain ⟨c',hw,hT,h2,h3⟩:=hm.A9 (pr:=pr) (100+d) (.arr e (tsize P e) (List.replicate n.toNat (DW zv))) (.arr (.slice (some ⟨c.w.heap.size,0,.none⟩) n.toNat n.toNat) (tsize P e) n.toNat [])
   (c.w.alloc (.cells (madeCells zv.cells (n.toNat * i.size)) e)) rfl rfl rfl (Nat.le_refl _) (by simp)
   (fun b hT _=>pn c.w _ b hT) (fun b hT=>by simp [BE.has,Value.ownBlock] at hT; exact .inr (by omega)) (by rw [hB]; trivial) (fun _ di h0=>by rw [hB] at h0; cases h0)
   (fun c' hw hle dw=>by
    simp only [br,qB,List.length_replicate]
    refine ⟨_,List.replicate n.toNat zv,rfl,eY,⟨by rw [dt (k:=i.size) (fun v hv=>by rw [List.eq_of_mem_replicate hv]; exact zm)]; simp,.inr ⟨c.w.heap.size,n.toNat,_,rfl,Nat.zero_le _,by rw [hw]; exact heap_alloc_new c.w _,Nat.le_refl _,by simp only [maxLen]; omega,fh,?_⟩⟩,?_,?_,?_⟩
    ·rw [List.take_of_length_le (by rw [Array.length_toList,fh]; exact Nat.le_refl _),om]
    ·refine aC.of (by simp) fun j q r hq hr=>?_
     rw [List.getElem?_replicate] at hq hr
     split at hq
     ·rename_i hj
      rw [if_pos hj] at hr
      cases hq; cases hr; exact pK c' zv
     ·cases hq
    ·intro v hv
     rw [List.eq_of_mem_replicate hv]
     exact ⟨zm,DT⟩
    ·refine cH.2 fun q hq=>?_
     rw [List.eq_of_mem_replicate hq]; exact hp)
  refine ⟨.slice (some ⟨c.w.heap.size,0,.none⟩) n.toNat n.toNat,c',by rw [hw]; simp [execOp,ho,pw,oX,dD],?_,h2,h3⟩
  simp only [au]
  exact ⟨rfl,_,_,_,_,hT,Nat.le_refl _,fun _=>rfl⟩
 ·cases h
theorem Ey {cells:Array Value} {off:Nat} {l:Array Value} (h:off+l.size≤cells.size) :
  (l.zipIdx.foldl (fun cs (x:Value × Nat)=>cs.setIfInBounds (off+x.2) x.1) cells).toList=cells.toList.take off++l.toList++cells.toList.drop (off+l.toList.length):=by
 obtain ⟨g1,g2⟩:=Great.foldl_set off l.toList 0 cells
 have e0:l.zipIdx.foldl (fun cs (x:Value × Nat)=>cs.setIfInBounds (off+x.2) x.1) cells=(l.toList.zipIdx 0).foldl (fun cs (x:Value × Nat)=>cs.setIfInBounds (off+x.2) x.1) cells:=by
  rw [← Array.foldl_toList]; simp
 rw [e0]
 apply List.ext_getElem?
 intro j
 rw [Array.getElem?_toList,g2 j]
 have e1:l.toList.length=l.size:=by simp
 have e2:cells.toList.length=cells.size:=by simp
 simp only [Nat.add_zero,List.getElem?_append,List.length_append,List.length_take,List.getElem?_take,List.getElem?_drop,e1,e2]
 by_cases h1:j<off
 ·rw [if_neg (by omega),if_pos (by omega),if_pos (by omega),if_pos h1]; simp
 ·by_cases h2:j<off+l.size
  ·rw [if_pos (by omega),if_pos (by omega),if_neg (by omega)]
   congr 1; omega
  ·rw [if_neg (by omega),if_neg (by omega)]
   rw [← Array.getElem?_toList]; congr 1; omega
theorem sq {t:TypeId} {fields:Array Field} {tf:List (Nat × Nat)} (hu:P.underlying t=some (.struct fields)) (tQ:fields.toList.mapM (fun f=>(P.info? f.type).map fun i=>(f.offset,i.size))=some tf) {c:Cx} {a:Act} (bw:∀ x,au c (ev x) (a.eval x)) :
  ∀ (parts:List (Nat × Operand)) (cs:List LV) (cells:Array Value) (r:List LV),aC c cs cells.toList→lN P t cs (parts.map fun p=>(p.1,ev p.2))=some r →
   ∃ rc,Instr.fill (tf.toArray[·]?) cells (parts.map fun p=>(p.1,a.eval p.2))=some rc∧aC c r rc.toList
 | [],cs,cells,r,hl,h=>by
  simp only [List.map_nil,lN,Option.some.injEq] at h
  subst h
  exact ⟨cells,rfl,hl⟩
 | (i, x) :: parts, cs, cells, r, hl, h => by
  simp only [List.map_cons,lN] at h
  cases ng:tfield P t i with
  | none=>simp [ng] at h
  | some q =>
   obtain ⟨off,ft⟩:=q
   simp only [ng] at h
   split at h
   ·rename_i hc
    obtain ⟨h1,h2,h3,h4⟩:=hc
    obtain ⟨uH,Mh⟩:=(bw x).cellsOf h4
    have Ue:(ev x).cells.length=(a.eval x).cells.size:=by rw [uH.length]; simp
    have ll:cs.length=cells.size:=by rw [hl.length]; simp
    have Kw : tf.toArray[i]? = some (off, tsize P ft) := by
     unfold tfield at ng
     rw [hu] at ng
     simp only at ng
     cases hf:fields[i]? with
     | none=>simp [hf] at ng
     | some fd =>
      simp only [hf,Option.map_some,Option.some.injEq,Prod.mk.injEq] at ng
      obtain ⟨rfl,rfl⟩:=ng
      have RH:∀ (fs:List Field) (ps:List (Nat × Nat)),fs.mapM (fun f=>(P.info? f.type).map fun i=>(f.offset,i.size))=some ps→∀ (i:Nat) fd,fs[i]?=some fd→ps[i]?=some (fd.offset,tsize P fd.type):=by
       intro fs
       induction fs with
       | nil=>intro ps _ i fd Bv; simp at Bv
       | cons f fs ih =>
        intro ps rf i fd Bv
        simp only [List.mapM_cons,Option.bind_eq_bind,Option.pure_def] at rf
        cases hi:P.info? f.type with
        | none=>simp [hi] at rf
        | some inf =>
         cases hr:fs.mapM (fun f=>(P.info? f.type).map fun i=>(f.offset,i.size)) with
         | none=>simp [hi,hr] at rf
         | some rest =>
          simp [hi,hr] at rf
          subst rf
          cases i with
          | zero=>simp at Bv; subst Bv; simp [tsize,hi]
          | succ i=>simp at Bv; simpa using ih rest hr i fd Bv
      have:=RH fields.toList tf tQ i fd (by simpa using hf)
      simpa using this
    have MT:=Ey (cells:=cells) (off:=off) (l:=(a.eval x).cells) (by omega)
    obtain ⟨rc,Sj,zk⟩:=sq hu tQ bw parts (rep cs off (ev x).cells) ((a.eval x).cells.zipIdx.foldl (fun cs (x:Value × Nat)=>cs.setIfInBounds (off+x.2) x.1) cells) r (by
     rw [MT]
     unfold rep
     rw [uH.length]
     exact ((hl.take off).append uH).append (hl.drop _)) h
    refine ⟨rc,?_,zk⟩
    simp only [List.map_cons]
    unfold Instr.fill
    simp only [Kw]
    rw [if_neg (by simp only [ne_eq,Bool.or_eq_true,decide_eq_true_eq,not_or,Decidable.not_not,Nat.not_lt,gt_iff_lt]; omega)]
    exact Sj
   ·cases h
theorem yR {t:TypeId} {parts:Array (Nat × Operand)} (ho:o.op=.build t parts) (h:LOp P pr [] o ev m K):∃ lv m',K lv m'∧cd P pr o ev m lv m':=by
 simp only [LOp,ho] at h
 obtain ⟨Mf,h⟩:=h
 split at h
 ·rename_i z hz
  split at h
  ·rename_i cs hf
   refine ⟨_,_,h,cd.same fun c a bw hm=>?_⟩
   unfold tbuild at Mf
   split at Mf
   ·rename_i fields hu
    obtain ⟨tf,tQ⟩:=Option.isSome_iff_exists.1 Mf
    unfold tzero at hz
    split at hz
    ·rename_i i hi
     split at hz
     ·rename_i zv DU
      split at hz
      ·have VV:DW zv=.agg z:=by simpa using hz
       have VW:aC c z zv.cells.toList:=by have:=mA c zv; rw [VV] at this; exact this
       obtain ⟨rc,Sj,zk⟩:=sq hu tQ bw parts.toList z zv.cells cs VW hf
       have hb:P.built t (parts.map fun p=>(p.1,a.eval p.2)).toList=some rc:=by
        unfold Program.built
        simp only [hi,hu,DU,tQ,Array.toList_map]
        exact Sj
       have dD:=run_build (P:=P) c.w t _ rc hb
       refine ⟨.agg rc,by simp [execOp,ho,dD],?_⟩
       simp only [au]
       exact ⟨rc.toList,by simp,zk⟩
      ·cases hz
     ·cases hz
    ·cases hz
   ·cases Mf
  ·cases h
 ·cases h
theorem qd {t:TypeId} {len:Nat} {parts:Array (Nat × Operand)} (ho:o.op=.buildSlice t len parts) (h:LOp P pr [] o ev m K):∃ lv m',K lv m'∧cd P pr o ev m lv m':=by
 simp only [LOp,ho] at h
 cases lK:telem P t <;> simp only [lK] at h
 case some e =>
  obtain ⟨ow,Nq,EM,EJ,hK⟩:=h
  have hu:=fG lK
  obtain ⟨i,zv,hi,DU,zm,DT,eY,DJ,qB⟩:=qa ow
  refine ⟨_,_,hK,cd.value fun c a bw hm=>?_⟩
  have mv:parts.toList.length=len:=by have:=congrArg List.length EM; simpa using this
  let vs:=parts.toList.map fun p=>a.eval p.2
  have hl:aC c (parts.toList.map fun p=>ev p.2) vs:=aC.of (by simp [vs]) fun j x v hx hv=>by
   simp only [vs,List.getElem?_map,Option.map_eq_some_iff] at hx hv
   obtain ⟨p,hp,rfl⟩:=hx
   obtain ⟨p',Ag,rfl⟩:=hv
   rw [hp] at Ag; cases Ag; exact bw _
  have hcell:∀ v ∈ vs,v.cells.size=i.size∧∀ y ∈ v.cells,y.oneCell'=true:=by
   intro v hv
   simp only [vs,List.mem_map] at hv
   obtain ⟨p,hp,rfl⟩:=hv
   obtain ⟨_,e1,e2⟩:=EJ (ev p.2) (List.mem_map.2 ⟨p,hp,rfl⟩)
   obtain ⟨e3,e4⟩:=(bw p.2).cellsOf e2
   refine ⟨?_,e4⟩
   have:=e3.length
   rw [e1,qB] at this
   simpa using this.symm
  have E0:LV.bj (parts.toList.map fun p=>ev p.2)=true:=cH.2 fun x hx=>(EJ x hx).1
  have Ah:(parts.map fun (p:Nat × Operand)=>(p.1,a.eval p.2)).toList=(vs.zipIdx 0).map fun x=>(x.2,x.1):=by
   apply List.ext_getElem?
   intro j
   have hj:=congrArg (fun l=>l[j]?) EM
   simp only [List.getElem?_map,List.getElem?_range] at hj
   simp only [Array.toList_map,List.getElem?_map,List.getElem?_zipIdx,vs,Nat.zero_add]
   cases hp:parts.toList[j]? with
   | none=>simp
   | some p =>
    rw [hp] at hj
    have iu:j<len:=by
     rw [← mv]; exact (List.getElem?_eq_some_iff.1 hp).1
    rw [List.getElem?_range iu] at hj
    simp at hj
    simp [hj]
  obtain ⟨cells,xf,xh⟩:∃ cells,Instr.fill (fun i'=>some (i' * i.size,i.size)) ((Array.range (len * i.size)).map (zv.cells[· % zv.cells.size]!)) (parts.map fun (p:Nat × Operand)=>(p.1,a.eval p.2)).toList=some cells∧cells.toList=flat vs:=by
   have nh:vs.length=len:=by simp [vs,mv]
   obtain ⟨r,hr,Uc,No⟩:=Great.fill_dense eY vs 0 ((Array.range (len * i.size)).map (zv.cells[· % zv.cells.size]!)) (fun v hv=>(hcell v hv).1) (by simp [nh])
   refine ⟨r,by rw [Ah]; exact hr,?_⟩
   apply List.ext_getElem?
   intro j
   rw [flat_get eY (fun v hv=>(hcell v hv).1),Array.getElem?_toList,No j]
   simp only [Nat.zero_mul,Nat.zero_le,true_and,Nat.zero_add,Nat.sub_zero,nh]
   by_cases hj:j<len * i.size
   ·rw [if_pos hj]
   ·rw [if_neg hj]
    have h1:¬ j / i.size<len:=fun hh=>hj ((Nat.div_lt_iff_lt_mul eY).1 hh)
    rw [List.getElem?_eq_none (by omega:vs.length≤j / i.size)]
    simp; omega
  have om:cells=(flat vs).toArray:=by rw [← xh]
  subst om
  have dD:(execOp a.eval o).run P c.w=.ok (.value (.slice (some ⟨c.w.heap.size,0,.none⟩) len len)) (c.w.alloc (.cells (flat vs).toArray e)):=by
   by_cases IM:len=0
   ·subst IM
    have CH:parts=#[]:=by apply Array.ext'; simpa using mv
    subst CH
    simp [execOp,ho,Instr.buildSlice,run_underlying hu,sizeOf,typeInfo,hi,Instr.fill,newRow,vs,flat,Array.range_zero']
   ·have HH:¬ len * i.size=0:=by
     intro h0
     rcases Nat.mul_eq_zero.1 h0 with h0 | h0 <;> omega
    have hb:=run_buildSlice (P:=P) c.w t e len (parts.map fun (p:Nat × Operand)=>(p.1,a.eval p.2)) (flat vs).toArray i zv hu hi DU (by rw [qB] at Nq; omega) HH xf
    simp [execOp,ho,hb]
  obtain ⟨h2,h3⟩:=hm.ext (pr:=pr) (c.w.alloc (.cells (flat vs).toArray e)) rfl rfl rfl (Nat.le_refl _) (by simp) (fun b hb=>pn c.w _ b hb)
  refine ⟨_,_,dD,?_,h2,h3⟩
  simp only [au]
  refine ⟨some ⟨c.w.heap.size,0,.none⟩,len,by simp [mv],by simp [mv],by simp,E0,.inr ⟨c.w.heap.size,0,vs,rfl,by simp,hm.O1 (Nat.le_refl _),h3.PX hl,fun u hu=>by rw [qB]; exact hcell u hu,qH c.w _ e⟩⟩
theorem kT {ro:List Nat} (h:LOp P pr ro o ev m K):∃ lv m',K lv m'∧cd P pr o ev m lv m':=by
 have tR:∀ (ho:∀ t x,o.op ≠ .box t x),LOp P pr [] o ev m K:=by
  intro km
  unfold LOp at h ⊢
  split at h <;> first | exact h | (rename_i t x ho; exact absurd ho (km t x))
 cases ho:o.op
 case move x=>simp only [LOp,ho] at h; exact ⟨_,_,h,BL x (.inl ho)⟩
 case assign x=>simp only [LOp,ho] at h; exact ⟨_,_,h,BL x (.inr ho)⟩
 case pick x y z =>
  simp only [LOp,ho] at h
  cases hx:ev x <;> simp only [hx] at h
  case bool t=>exact ⟨_,_,h,HY x y z t ho hx⟩
 case alloc t =>
  simp only [LOp,ho] at h
  split at h
  ·rename_i z d hz hd
   exact ⟨_,_,h.2,xA t d z ho hz h.1⟩
  ·cases h
 case box t x =>
  simp only [LOp,ho] at h
  split at h
  ·rename_i d hd
   obtain ⟨hs,h⟩:=h
   split at h
   ·exact ⟨_,_,h,CV t x ho hs⟩
   ·exact ⟨_,_,h.2,Lm t x d ho hs h.1⟩
  ·cases h
 case build t parts=>exact yR ho (tR (by simp [ho]))
 case buildSlice t n parts=>exact qd ho (tR (by simp [ho]))
 case load t x=>exact AY ho (tR (by simp [ho]))
 case store t x y=>exact yU ho (tR (by simp [ho]))
 case nilCheck x=>exact tI ho (tR (by simp [ho]))
 case binOp op t x y t'=>exact yQ ho (tR (by simp [ho]))
 case unOp op t x=>exact AZ ho (tR (by simp [ho]))
 case convert s t x=>exact uk ho (tR (by simp [ho]))
 case slice t x lo hi mx=>exact yT ho (tR (by simp [ho]))
 case fieldAddr t x f=>exact rr ho (tR (by simp [ho]))
 case field t x f=>exact yS ho (tR (by simp [ho]))
 case indexAddr t x i=>exact ru ho (tR (by simp [ho]))
 case extract t i=>exact um ho (tR (by simp [ho]))
 case makeFunc f a b=>exact tH ho (tR (by simp [ho]))
 case makeSlice t x y=>exact rv ho (tR (by simp [ho]))
 case call c =>
  cases hc:c.callee
  case value x=>exact AX ho hc (tR (by simp [ho]))
  case builtin b =>
   cases b
   case len=>exact Dy ho hc (tR (by simp [ho]))
   case append=>exact wj ho hc (tR (by simp [ho]))
   all_goals simp [LOp,ho,hc] at h
  all_goals simp [LOp,ho,hc] at h
 all_goals simp [LOp,ho] at h
end ops
end Go.L
namespace Go.L
structure lS (N:Nat) (c:Cx) (e:Env) (m:Mem) (a:Act):Prop where
 env:∀ i,au c (e i) (a.tmps.getD i undef)
 mem:bU c m
 size:a.tmps.size=N
 defers:a.defers=[]
theorem lS.ev {N:Nat} {c:Cx} {e:Env} {m:Mem} {a:Act} (h:lS N c e m a) (x:Operand):au c (cZ e x) (a.eval x):=by
 cases x with
 | tmp t=>exact h.env t
 | const v=>exact pK c v
 | global g=>simp [cZ,au]
 | func f=>simp only [cZ,Act.eval,au]; exact ⟨[],rfl,by simp [aC]⟩
theorem lS.put {N:Nat} {pr:Nat→Prop} {c c':Cx} {e:Env} {m m':Mem} {a:Act} (h:lS N c e m a) (hs:Step pr c c') (hm:bU c' m') {d:Option Nat} (hd:∀ i,d=some i→i<N) {lv:LV} {v:Value} (hv:au c' lv v):lS N c' (e.fC d lv) m' (a.put d v):=by
 cases d with
 | none=>exact ⟨fun i=>hs.wg (h.env i),hm,h.size,h.defers⟩
 | some d =>
  refine ⟨fun i=>?_,hm,by simp [Act.put,h.size],h.defers⟩
  simp only [Env.fC,Env.put,Act.put]
  by_cases hi:i=d
  ·subst hi
   have:i<a.tmps.size:=by rw [h.size]; exact hd i rfl
   simpa [this] using hv
  ·simp only [hi,if_false]
   have:=hs.wg (h.env i)
   simpa [Array.getElem?_setIfInBounds_ne (Ne.symm hi)] using this
def mh (P:Program) (N:Nat) (pr:Nat→Prop) (code:Code) (e:Env) (m:Mem) (ex:Exit) (e':Env) (m':Mem):Prop :=
 ∀ (c:Cx) (a:Act),lS N c e m a→code.wp P (fun x a' w'=>x=ex∧∃ c':Cx,c'.w=w'∧lS N c' e' m' a'∧Grow pr c c') a c.w
def LH (P:Program) (N:Nat) (pr:Nat→Prop) (code:Code) (Q:Exit→Env→Mem→Prop) (e:Env) (m:Mem):Prop :=
 ∃ ex e' m',mh P N pr code e m ex e' m'∧Q ex e' m'
def Wk (pr:Nat→Prop) (e:Env) (m:Mem) (e':Env) (m':Mem):Prop :=
 ∀ (N:Nat) (c:Cx) (a:Act),lS N c e m a→∃ c':Cx,c'.w=c.w∧lS N c' e' m' a∧Grow pr c c'
theorem Wk.trans {pr:Nat→Prop} {e e' TE:Env} {m m' Um:Mem} (h:Wk pr e m e' m') (k:Wk pr e' m' TE Um):Wk pr e m TE Um:=fun N c a hr=>by
 obtain ⟨c1,Bz,ec,zj⟩:=h N c a hr
 obtain ⟨c2,qC,fz,pg⟩:=k N c1 a ec
 exact ⟨c2,qC.trans Bz,fz,zj.trans pg⟩
section rules
variable {P:Program} {N:Nat} {pr:Nat→Prop} {Q:Exit→Env→Mem→Prop} {e e':Env} {m m':Mem}
theorem LH.mono {c:Code} {Q':Exit→Env→Mem→Prop} (h:LH P N pr c Q e m) (hq:∀ ex e m,Q ex e m→Q' ex e m):LH P N pr c Q' e m:=by
 obtain ⟨ex,e',m',h1,h2⟩:=h
 exact ⟨ex,e',m',h1,hq _ _ _ h2⟩
theorem mh.wk {c:Code} {ex:Exit} {e2:Env} {m2:Mem} (hw:Wk pr e m e' m') (h:mh P N pr c e' m' ex e2 m2):mh P N pr c e m ex e2 m2:=by
 intro cx a hr
 obtain ⟨c1,Bz,ec,zj⟩:=hw N cx a hr
 rw [← Bz]
 refine wp_mono (h c1 a ec) ?_
 rintro x a' w' ⟨hx,c2,qC,fz,pg⟩
 exact ⟨hx,c2,qC,fz,zj.trans pg⟩
theorem LH.wk {c:Code} (hw:Wk pr e m e' m') (h:LH P N pr c Q e' m'):LH P N pr c Q e m:=by
 obtain ⟨ex,e2,m2,h1,h2⟩:=h
 exact ⟨ex,e2,m2,h1.wk hw,h2⟩
theorem LH.skip (h:Q .normal e m):LH P N pr .skip Q e m:=⟨_,_,_,fun c a hr=>wp_skip ⟨rfl,c,rfl,hr,.refl pr c⟩,h⟩
theorem LH.ret (h:Q .ret e m):LH P N pr .ret Q e m:=⟨_,_,_,fun c a hr=>wp_ret ⟨rfl,c,rfl,hr,.refl pr c⟩,h⟩
theorem LH.exit {id:Nat} (h:Q (.exit id) e m):LH P N pr (.exit id) Q e m:=⟨_,_,_,fun c a hr=>wp_exit ⟨rfl,c,rfl,hr,.refl pr c⟩,h⟩
def yX (K:Env→Mem→Prop) (Q:Exit→Env→Mem→Prop):Exit→Env→Mem→Prop
 | .normal,e,m=>K e m
 | ex,e,m=>Q ex e m
theorem LH.seq {x y:Code} (h:LH P N pr x (yX (LH P N pr y Q) Q) e m):LH P N pr (.seq x y) Q e m:=by
 obtain ⟨ex,e1,m1,h1,h2⟩:=h
 cases ex with
 | normal =>
  obtain ⟨UL,e2,m2,h3,h4⟩:=h2
  refine ⟨UL,e2,m2,fun c a hr=>wp_seq (wp_mono (h1 c a hr) ?_),h4⟩
  rintro x a' w' ⟨rfl,c',rfl,tZ,sA⟩
  refine wp_mono (h3 c' a' tZ) ?_
  rintro x Ms LU ⟨hx,c2,qC,fz,pg⟩
  exact ⟨hx,c2,qC,fz,sA.trans pg⟩
 | exit id =>
  refine ⟨_,e1,m1,fun c a hr=>wp_seq (wp_mono (h1 c a hr) ?_),h2⟩
  rintro x a' w' ⟨rfl,hq⟩
  exact ⟨rfl,hq⟩
 | goto l =>
  refine ⟨_,e1,m1,fun c a hr=>wp_seq (wp_mono (h1 c a hr) ?_),h2⟩
  rintro x a' w' ⟨rfl,hq⟩
  exact ⟨rfl,hq⟩
 | ret =>
  refine ⟨_,e1,m1,fun c a hr=>wp_seq (wp_mono (h1 c a hr) ?_),h2⟩
  rintro x a' w' ⟨rfl,hq⟩
  exact ⟨rfl,hq⟩
 | panic ch =>
  refine ⟨_,e1,m1,fun c a hr=>wp_seq (wp_mono (h1 c a hr) ?_),h2⟩
  rintro x a' w' ⟨rfl,hq⟩
  exact ⟨rfl,hq⟩
 | outgrown =>
  refine ⟨_,e1,m1,fun c a hr=>wp_seq (wp_mono (h1 c a hr) ?_),h2⟩
  rintro x a' w' ⟨rfl,hq⟩
  exact ⟨rfl,hq⟩
theorem LH.cond {x:Operand} {y z:Code} {t:Bool} (hx:cZ e x=.bool t) (h1:t=true→LH P N pr y Q e m) (h2:t=false→LH P N pr z Q e m):LH P N pr (.cond x y z) Q e m:=by
 cases t with
 | true =>
  obtain ⟨ex,e',m',h3,h4⟩:=h1 rfl
  refine ⟨ex,e',m',fun c a hr=>?_,h4⟩
  have:=hr.ev x
  rw [hx] at this
  simp only [au] at this
  exact wp_cond_true this (h3 c a hr)
 | false =>
  obtain ⟨ex,e',m',h3,h4⟩:=h2 rfl
  refine ⟨ex,e',m',fun c a hr=>?_,h4⟩
  have:=hr.ev x
  rw [hx] at this
  simp only [au] at this
  exact wp_cond_false this (h3 c a hr)
def lp (id:Nat) (Q:Exit→Env→Mem→Prop):Exit→Env→Mem→Prop
 | .exit j,e,m=>if j=id then Q .normal e m else Q (.exit j) e m
 | ex,e,m=>Q ex e m
theorem LH.block {id:Nat} {c:Code} (h:LH P N pr c (lp id Q) e m):LH P N pr (.block id c) Q e m:=by
 obtain ⟨ex,e1,m1,h1,h2⟩:=h
 have gen:∀ Qq,(∀ a w,∀ R:Act→World→Prop,R a w→Exit.inBlock id (fun x a w=>x=Qq∧R a w) ex a w)→Q Qq e1 m1→LH P N pr (.block id c) Q e m:=by
  intro Qq hb hq
  refine ⟨Qq,e1,m1,fun cx a hr=>wp_block (wp_mono (h1 cx a hr) ?_),hq⟩
  rintro x a' w' ⟨rfl,hh⟩
  exact hb a' w' (fun a' w'=>∃ c':Cx,c'.w=w'∧lS N c' e1 m1 a'∧Grow pr cx c') hh
 cases ex with
 | exit j =>
  by_cases hj:j=id
  ·subst hj
   simp only [lp,if_true] at h2
   exact gen .normal (fun a w R hR=>by simp [Exit.inBlock,hR]) h2
  ·simp only [lp,hj,if_false] at h2
   exact gen (.exit j) (fun a w R hR=>by simp [Exit.inBlock,hj,hR]) h2
 | normal=>exact gen _ (fun a w R hR=>⟨rfl,hR⟩) h2
 | goto l=>exact gen _ (fun a w R hR=>⟨rfl,hR⟩) h2
 | ret=>exact gen _ (fun a w R hR=>⟨rfl,hR⟩) h2
 | panic ch=>exact gen _ (fun a w R hR=>⟨rfl,hR⟩) h2
 | outgrown=>exact gen _ (fun a w R hR=>⟨rfl,hR⟩) h2
def rW (P:Program) (N:Nat) (pr:Nat→Prop) (c:Code) (ex:Exit) (e':Env) (m':Mem):Nat→Env→Mem→Prop
 | 0,e,m=>ex ≠ .normal∧mh P N pr c e m ex e' m'
 | n+1,e,m=>∃ e1 m1,mh P N pr c e m .normal e1 m1∧rW P N pr c ex e' m' n e1 m1
theorem rW.exec {c:Code} {ex:Exit} {n:Nat} (h:rW P N pr c ex e' m' n e m):mh P N pr (.loop c) e m ex e' m':=by
 intro cx a hr
 refine wp_loop_ghost (fun k a w=>∃ e1 m1,∃ c1:Cx,rW P N pr c ex e' m' k e1 m1∧c1.w=w∧lS N c1 e1 m1 a∧Grow pr cx c1) n ⟨e,m,cx,h,rfl,hr,.refl pr cx⟩ ?_
 rintro k a w ⟨e1,m1,c1,hR,rfl,ec,zj⟩
 cases k with
 | zero =>
  obtain ⟨ep,hx⟩:=hR
  refine wp_mono (hx c1 a ec) ?_
  rintro x a' w' ⟨rfl,c2,rfl,fz,pg⟩
  cases x <;> first | exact absurd rfl ep | exact ⟨rfl,c2,rfl,fz,zj.trans pg⟩
 | succ k =>
  obtain ⟨e2,m2,hx,hR⟩:=hR
  refine wp_mono (hx c1 a ec) ?_
  rintro x a' w' ⟨rfl,c2,rfl,fz,pg⟩
  exact ⟨k,by omega,e2,m2,c2,hR,rfl,fz,zj.trans pg⟩
theorem mh.post {c:Code} {ex:Exit} {e2:Env} {m2:Mem} (h:mh P N pr c e m ex e' m') (hw:Wk pr e' m' e2 m2):mh P N pr c e m ex e2 m2:=by
 intro cx a hr
 refine wp_mono (h cx a hr) ?_
 rintro x a' w' ⟨hx,c1,rfl,ec,zj⟩
 obtain ⟨c2,qC,fz,pg⟩:=hw N c1 a' ec
 exact ⟨hx,c2,qC,fz,zj.trans pg⟩
def tC (pr:Nat→Prop) (I:Nat→Env→Mem→Prop) (n:Nat) (Q:Exit→Env→Mem→Prop):Exit→Env→Mem→Prop
 | .normal,e,m=>∃ e' m',Wk pr e m e' m'∧∃ k,k<n∧I k e' m'
 | ex,e,m=>Q ex e m
theorem LH.loop {c:Code} (I:Nat→Env→Mem→Prop) (n:Nat) (h0:I n e m) (h:∀ n e m,I n e m→LH P N pr c (tC pr I n Q) e m):LH P N pr (.loop c) Q e m:=by
 have key:∀ n e m,I n e m→∃ ex e' m' k,rW P N pr c ex e' m' k e m∧Q ex e' m':=by
  intro n
  induction n using Nat.strongRecOn with
  | _ n ih =>
   intro e m hI
   obtain ⟨ex,e1,m1,h1,h2⟩:=h n e m hI
   cases ex with
   | normal =>
    obtain ⟨e2,m2,hw,k,hk,UU⟩:=h2
    obtain ⟨ex,e',m',j,hR,hQ⟩:=ih k hk e2 m2 UU
    exact ⟨ex,e',m',j+1,⟨e2,m2,h1.post hw,hR⟩,hQ⟩
   | exit id=>exact ⟨_,e1,m1,0,⟨by simp,h1⟩,h2⟩
   | goto l=>exact ⟨_,e1,m1,0,⟨by simp,h1⟩,h2⟩
   | ret=>exact ⟨_,e1,m1,0,⟨by simp,h1⟩,h2⟩
   | panic ch=>exact ⟨_,e1,m1,0,⟨by simp,h1⟩,h2⟩
   | outgrown=>exact ⟨_,e1,m1,0,⟨by simp,h1⟩,h2⟩
 obtain ⟨ex,e',m',k,hR,hQ⟩:=key n e m h0
 exact ⟨ex,e',m',hR.exec,hQ⟩
theorem ny {ops:Array Oper} {o:Oper} {c:Cx} {a:Act} (hr:lS N c e m a) (hd:∀ q ∈ ops,∀ i,q.dst=some i→i<N) {j:Nat} {want:Bool} (hg:o.guard=some (j,want)) {g:Nat} (hj:(ops[j]?).bind (·.dst)=some g) {t:Bool} (ht:e g=.bool t) :
  Region.wanted o (yielded ops a.tmps)=(t == want):=by
 have hv:=hr.env g
 rw [ht] at hv
 simp only [au] at hv
 have RG:g<N:=by
  cases hq:ops[j]? with
  | none=>simp [hq] at hj
  | some q=>simp [hq] at hj; exact hd q (Array.mem_of_getElem? hq) g hj
 have eY:g<a.tmps.size:=by rw [hr.size]; exact RG
 have EK:a.tmps[g]?=some (.bool t):=by
  rw [Array.getElem?_eq_getElem eY]
  simpa [eY] using hv
 simp [Region.wanted,hg,yielded,hj,EK]
theorem qP {ops:Array Oper} {o:Oper} {c:Cx} {a:Act} (hr:lS N c e m a) (hd:∀ q ∈ ops,∀ i,q.dst=some i→i<N) {j:Nat} {want:Bool} (hg:o.guard=some (j,want)) {g:Nat} (hj:(ops[j]?).bind (·.dst)=some g) (ht:e g=.de []) :
  Region.wanted o (yielded ops a.tmps)=false:=by
 have hv:=hr.env g
 rw [ht] at hv
 simp only [au,aC] at hv
 obtain ⟨vs,hv,rfl⟩:=hv
 have RG:g<N:=by
  cases hq:ops[j]? with
  | none=>simp [hq] at hj
  | some q=>simp [hq] at hj; exact hd q (Array.mem_of_getElem? hq) g hj
 have eY:g<a.tmps.size:=by rw [hr.size]; exact RG
 have EK:a.tmps[g]?=some (.tuple #[]):=by
  rw [Array.getElem?_eq_getElem eY]
  simpa [eY] using hv
 simp [Region.wanted,hg,yielded,hj,EK]
theorem oP (c:Cx):au c (.de []) undef:=by
 simp only [au,aC]
 exact ⟨[],rfl,rfl⟩
theorem wL {ro:List Nat} {ops:Array Oper} {o:Oper} {K:Env→Mem→Prop} (hd:∀ q ∈ ops,∀ i,q.dst=some i→i<N) (HF:∀ i,o.dst=some i→i<N) (h:Be P pr ro ops o K e m) :
  ∃ lv m',K (e.fC o.dst lv) m'∧∀ (c:Cx) (a:Act) (R:Act→World→Prop) (Q:Exit→Act→World→Prop),lS N c e m a →
   (∀ a' (c':Cx),lS N c' (e.fC o.dst lv) m' a'→Step pr c c'→R a' c'.w) →
   if Region.wanted o (yielded ops a.tmps) then o.wp P a c.w R Q ∨ (o.asks P a c.w∧LetsOut Q) else R (a.put o.dst undef) c.w:=by
 have run:∀ (h:LOp P pr ro o (cZ e) m fun lv m'=>K (e.fC o.dst lv) m'),∃ lv m',K (e.fC o.dst lv) m'∧∀ (c:Cx) (a:Act) (R:Act→World→Prop) (Q:Exit→Act→World→Prop),lS N c e m a →
   (∀ a' (c':Cx),lS N c' (e.fC o.dst lv) m' a'→Step pr c c'→R a' c'.w)→o.wp P a c.w R Q:=by
  intro h
  obtain ⟨lv,m',hK,gv⟩:=kT h
  refine ⟨lv,m',hK,fun c a R Q hr hR=>?_⟩
  refine Oper.wp_mono ?_ (gv c a Q hr.ev hr.mem)
  rintro a' w' ⟨v,c',rfl,rfl,hv,gW,hs⟩
  exact hR _ c' (hr.put hs gW HF hv) hs
 unfold Be at h
 split at h
 ·rename_i hg
  obtain ⟨lv,m',hK,dD⟩:=run h
  refine ⟨lv,m',hK,fun c a R Q hr hR=>?_⟩
  rw [if_pos (by simp [Region.wanted,hg])]
  exact .inl (dD c a R Q hr hR)
 ·rename_i j want hg
  split at h
  ·rename_i g hj
   cases ht:e g <;> simp only [ht] at h
   case bool t =>
    split at h
    ·rename_i heq
     obtain ⟨lv,m',hK,dD⟩:=run h
     refine ⟨lv,m',hK,fun c a R Q hr hR=>?_⟩
     rw [ny hr hd hg hj ht,if_pos (by simpa using heq)]
     exact .inl (dD c a R Q hr hR)
    ·rename_i ep
     refine ⟨.de [],m,h,fun c a R Q hr hR=>?_⟩
     rw [ny hr hd hg hj ht,if_neg (by simpa using ep)]
     exact hR _ c (hr.put (Step.refl pr c) hr.mem HF (oP c)) (Step.refl pr c)
   case de vs =>
    cases vs with
    | cons x xs=>exact h.elim
    | nil =>
     refine ⟨.de [],m,h,fun c a R Q hr hR=>?_⟩
     rw [qP hr hd hg hj ht,if_neg (by simp)]
     exact hR _ c (hr.put (Step.refl pr c) hr.mem HF (oP c)) (Step.refl pr c)
  ·cases h
def od (N:Nat) (l:List Oper):Bool:=l.all fun o=>match o.dst with | some d=>decide (d<N) | .none=>true
theorem rz {l:List Oper} (h:od N l=true):∀ q ∈ l.toArray,∀ i,q.dst=some i→i<N:=by
 intro q hq i hi
 have:=List.all_eq_true.1 h q (by simpa using hq)
 simpa [hi] using this
end rules
end Go.L
namespace Go.L
mutual
def LV.refs:LV→List Nat
 | .ag cs=>LV.bG cs
 | .fI _ cs=>LV.bG cs
 | .arr i _=>[i]
 | .ptr i _=>[i]
 | .bE i _ _ _=>[i]
 | .mp i=>[i]
 | .agg cs=>LV.bG cs
 | .de cs=>LV.bG cs
 | .fn _ cs=>LV.bG cs
 | .vj _ cs=>LV.bG cs
 | _=>[]
def LV.bG:List LV→List Nat
 | []=>[]
 | x :: xs=>x.refs++LV.bG xs
end
mutual
theorem iP {id:Nat}:∀ (x:LV),x.a7 id=false→id ∈ x.refs
 | .eB,h | .int _ _,h | .bool _,h | .nil,h | .pL _,h | .full _ _,h | .str _,h | .it _,h | .lZ,h | .fe,h | .ak _ _,h | .aJ _ _ _ _,h=>by simp [LV.a7] at h
 | .ag cs,h=>by simp only [LV.a7] at h; simp only [LV.refs]; exact c5 cs h
 | .fI _ cs,h=>by simp only [LV.a7] at h; simp only [LV.refs]; exact c5 cs h
 | .arr _ _,h | .ptr _ _,h | .bE _ _ _ _,h | .mp _,h=>by simp [LV.a7] at h; simp [LV.refs,h]
 | .agg cs,h=>by simp only [LV.a7] at h; simp only [LV.refs]; exact c5 cs h
 | .de cs,h=>by simp only [LV.a7] at h; simp only [LV.refs]; exact c5 cs h
 | .fn _ cs,h=>by simp only [LV.a7] at h; simp only [LV.refs]; exact c5 cs h
 | .vj _ cs,h=>by simp only [LV.a7] at h; simp only [LV.refs]; exact c5 cs h
theorem c5 {id:Nat}:∀ (xs:List LV),LV.cj id xs=false→id ∈ LV.bG xs
 | [],h=>by simp [LV.cj] at h
 | x :: xs,h=>by
  simp only [LV.cj,Bool.and_eq_false_iff] at h
  simp only [LV.bG,List.mem_append]
  exact h.imp (iP x) (c5 xs)
end
theorem bU.sub {c:Cx} {m:Mem} (h:bU c m) (m':Mem) (ox:∀ id,m' id=m id ∨ m' id=.none) (pe:∀ id le,m' id=some le→∀ j,le.kN j=false→m' j ≠ .none) :
  ∃ c':Cx,c'.w=c.w∧c'.OQ c∧bU c' m'∧(∀ x v,(∀ j,x.a7 j=false→m' j ≠ .none)→au c x v→au c' x v)∧(∀ b,c'.own b→c.own b)∧(∀ b,c.own b→(∀ id be,m' id ≠ .none→c.B id=some be→¬ be.has b)→¬ c'.own b)∧∀ id,m' id ≠ .none→c'.B id=c.B id:=by
 classical
 let c':Cx:=⟨c.w,fun id=>if m' id=.none then .none else c.B id,c.O,c.Q⟩
 have hB:∀ id,m' id ≠ .none→c'.B id=c.B id:=fun id hi=>by simp [c',hi]
 have bd:∀ b,c'.own b→c.own b:=by
  rintro b ⟨id,be,h1,h2⟩
  by_cases hi:m' id=.none
  ·simp [c',hi] at h1
  ·rw [hB id hi] at h1; exact ⟨id,be,h1,h2⟩
 have hle:c.Le c':=Cx.sub_le rfl ⟨rfl,rfl⟩ bd
 have hV:∀ x v,(∀ j,x.a7 j=false→m' j ≠ .none)→au c x v→au c' x v:=fun x v hr hv =>
  au.mono hle x v (fun id bC=>by rw [hB id (hr id bC)]; exact jk.refl _) hv
 refine ⟨c',rfl,⟨rfl,rfl⟩,⟨fun id=>?_,?_,fun b ho=>h.jG b (bd b ho),h.o3,h.nq rfl ⟨rfl,rfl⟩ bd⟩,hV,bd,?_,hB⟩
 ·by_cases hi:m' id=.none
  ·rw [hi]; simp [br,c',hi]
  ·have he:=h.gr id
   rw [← (ox id).resolve_right hi] at he
   rw [hB id hi]
   cases hx:m' id with
   | none=>exact absurd hx hi
   | some le =>
    rw [hx] at he
    cases le with
    | box cs =>
     simp only [br] at he ⊢
     obtain ⟨b,us,e,h1,h2,h3,h4⟩:=he
     exact ⟨b,us,e,h1,h2,aC.mono hle cs us (fun j hj=>by rw [hB j (pe id _ hx j hj)]; exact jk.refl _) h3,h4⟩
    | arr e k xs =>
     simp only [br] at he ⊢
     obtain ⟨u,us,h1,h0,h2,h3,h4,h5⟩:=he
     exact ⟨u,us,h1,h0,h2,aC.mono hle xs us (fun j hj=>by rw [ay xs h5] at hj; cases hj) h3,h4,h5⟩
    | nest e k os xs =>
     simp only [br] at he ⊢
     obtain ⟨u,us,bs,h1,h0,h2,h3,h4⟩:=he
     exact ⟨u,us,bs,h1,h0,h2,h3.mono hle (fun b _=>rfl),h4⟩
    | cU e k os xs i o id2 n2 =>
     simp only [br] at he ⊢
     obtain ⟨u,us,bs,h1,h0,h2,h3,⟨ws,v,q1,q2,q3⟩,h4⟩:=he
     exact ⟨u,us,bs,h1,h0,h2,h3.mono hle (fun b _=>rfl),⟨ws,v,q1,q2,au.mono hle (.arr id2 n2) v (fun j hj=>by rw [hB j (pe id _ hx j hj)]; exact jk.refl _) q3⟩,h4⟩
    | dead=>simpa only [br] using he
    | map kt vt es =>
     simp only [br] at he ⊢
     obtain ⟨b,jn,ck,h1,h2,h3,h4,h5,h6,h7⟩:=he
     exact ⟨b,jn,ck,h1,h2,aC.mono hle _ _ (fun j hj=>by rw [ay _ h5] at hj; cases hj) h3,aC.mono hle _ _ (fun j hj=>by rw [ay _ h6] at hj; cases hj) h4,h5,h6,h7⟩
 ·intro i i' be ey b h1 h2 h3 h4
  by_cases hi:m' i=.none
  ·simp [c',hi] at h1
  ·by_cases gV:m' i'=.none
   ·simp [c',gV] at h2
   ·rw [hB i hi] at h1; rw [hB i' gV] at h2; exact h.inj i i' be ey b h1 h2 h3 h4
 ·rintro b Wr ep ⟨id,be,h1,h2⟩
  by_cases hi:m' id=.none
  ·simp [c',hi] at h1
  ·rw [hB id hi] at h1; exact ep id be hi h1 h2
def aU (el:List (Nat × LV)) (ml:List (Nat × LE)):Bool :=
 (el.all fun p=>p.2.refs.all fun j=>ml.any fun q=>q.1 == j) && ml.all fun q=>match q.2 with
  | .box cs=>(LV.bG cs).all fun j=>ml.any fun q=>q.1 == j
  | .arr _ _ _=>true
  | .map _ _ _=>true
  | .nest _ _ _ _=>true
  | .cU _ _ _ _ _ _ id2 _=>ml.any fun q=>q.1 == id2
  | .dead=>true
theorem fl {ml:List (Nat × LE)} {id:Nat} {le:LE} (h:Mem.of ml id=some le):(id,le) ∈ ml:=by
 induction ml with
 | nil=>simp [Mem.of] at h
 | cons p ml ih =>
  obtain ⟨d,v⟩:=p
  simp only [Mem.of] at h
  split at h
  ·rename_i hi; cases h; subst hi; simp
  ·exact List.mem_cons_of_mem _ (ih h)
theorem jf {ml:List (Nat × LE)} {id:Nat} (h:(ml.any fun q=>q.1 == id)=true):Mem.of ml id ≠ .none:=by
 induction ml with
 | nil=>simp at h
 | cons p ml ih =>
  obtain ⟨d,v⟩:=p
  simp only [Mem.of]
  by_cases hd:id=d
  ·simp [hd]
  ·simp only [hd,if_false]
   simp only [List.any_cons,Bool.or_eq_true,beq_iff_eq] at h
   exact ih (h.resolve_left (fun hh=>hd hh.symm))
theorem Cj (el:List (Nat × LV)) (i:Nat):Env.of el i=.eB ∨ (i,Env.of el i) ∈ el:=by
 induction el with
 | nil=>exact .inl rfl
 | cons p el ih =>
  obtain ⟨d,v⟩:=p
  simp only [Env.of]
  by_cases hd:i=d
  ·subst hd; simp
  ·simp only [hd,if_false]
   exact ih.imp (fun h=>h) (List.mem_cons_of_mem _)
theorem Wk.cut {pr:Nat→Prop} {e:Env} {m:Mem} (el:List (Nat × LV)) (ml:List (Nat × LE)) (he:∀ p ∈ el,e p.1=p.2) (hm:∀ p ∈ ml,m p.1=some p.2) (hr:aU el ml=true) (lX:∀ id,pr id→m id=.none ∨ Mem.of ml id ≠ .none):Wk pr e m (Env.of el) (Mem.of ml):=by
 intro N c a bQ
 simp only [aU,Bool.and_eq_true,List.all_eq_true] at hr
 obtain ⟨c',hw,hO,gW,hV,bd,_,hB⟩:=bQ.mem.sub (Mem.of ml) (fun id=>by
   cases h:Mem.of ml id with
   | none=>exact .inr rfl
   | some le=>exact .inl (hm _ (fl h)).symm)
  (fun id le bC j hj=>by
   have h2:=hr.2 _ (fl bC)
   cases le with
   | box cs =>
    simp only [List.all_eq_true] at h2
    exact jf (h2 j (c5 cs hj))
   | cU _ _ _ _ _ _ id2 _ =>
    simp only [LE.kN,bne_eq_false_iff_eq] at hj
    subst hj
    exact jf h2
   | _=>simp [LE.kN] at hj)
 refine ⟨c',hw,⟨fun i=>?_,gW,bQ.size,bQ.defers⟩,?_⟩
 ·rcases Cj el i with h | h
  ·rw [h]; simp [au]
  ·have h1:=he _ h
   simp only at h1
   refine hV _ _ (fun j hj=>jf (hr.1 _ h j (iP _ hj))) ?_
   rw [← h1]; exact bQ.env i
 ·refine Cx.mE hw hO bd (fun id be hp hb=>?_)
  have:Mem.of ml id ≠ .none:=by
   rcases lX id hp with h0 | h0
   ·have:=bQ.mem.fresh h0; rw [this] at hb; cases hb
   ·exact h0
  exact ⟨be,by rw [hB id this]; exact hb,.refl be⟩
mutual
/-- a settled box: Uj Cc Q4 Cc of settled cells -/
def LV.bk (id:Nat) (cs:List LV):LV→LV
 | .ptr i o=>if i=id then .ag (cs.drop o) else .ptr i o
 | .agg l=>.agg (LV.qy id cs l)
 | .de l=>.de (LV.qy id cs l)
 | .fn f l=>.fn f (LV.qy id cs l)
 | .vj f l=>.vj f (LV.qy id cs l)
 | .arr i n=>if i=id then .eB else .arr i n
 | .bE i n j o=>if i=id then .eB else .bE i n j o
 | .mp i=>if i=id then .eB else .mp i
 | .ag l=>if LV.cj id l=true then .ag l else .eB
 | .fI t l=>if LV.cj id l=true then .fI t l else .eB
 | x=>x
def LV.qy (id:Nat) (cs:List LV):List LV→List LV
 | []=>[]
 | x :: xs=>x.bk id cs :: LV.qy id cs xs
end
mutual
/-- a settled row: the slice over it Qo a list -/
def LV.eE (id k:Nat) (xs:List LV):LV→LV
 | .arr i n=>if i=id then (if n=xs.length then .ak k xs else .eB) else .arr i n
 | .agg l=>.agg (LV.fO id k xs l)
 | .de l=>.de (LV.fO id k xs l)
 | .fn f l=>.fn f (LV.fO id k xs l)
 | .vj f l=>.vj f (LV.fO id k xs l)
 | .ptr i o=>if i=id then .eB else .ptr i o
 | .bE i n j o=>if i=id then .eB else .bE i n j o
 | .mp i=>if i=id then .eB else .mp i
 | .ag l=>if LV.cj id l=true then .ag l else .eB
 | .fI t l=>if LV.cj id l=true then .fI t l else .eB
 | x=>x
def LV.fO (id k:Nat) (xs:List LV):List LV→List LV
 | []=>[]
 | x :: l=>x.eE id k xs :: LV.fO id k xs l
end
def Mem.del (m:Mem) (id:Nat):Mem:=fun i=>if i=id then .none else m i
section zP
variable {c c':Cx} {id:Nat}
mutual
theorem wY {cs:List LV} (hV:∀ x v,x.a7 id=true→au c x v→au c' x v) (hp:∀ o v,au c (.ptr id o) v→au c' (.ag (cs.drop o)) v):∀ (x:LV) (v:Value),au c x v→au c' (x.bk id cs) v
 | .eB,v,h=>by simp [LV.bk,au]
 | .int _ _,v,h=>by simp only [LV.bk]; exact hV _ _ (by simp [LV.a7]) h
 | .bool _,v,h=>by simp only [LV.bk]; exact hV _ _ (by simp [LV.a7]) h
 | .nil,v,h=>by simp only [LV.bk]; exact hV _ _ (by simp [LV.a7]) h
 | .pL _,v,h=>by simp only [LV.bk]; exact hV _ _ (by simp [LV.a7]) h
 | .full _ _,v,h=>by simp only [LV.bk]; exact hV _ _ (by simp [LV.a7]) h
 | .str _,v,h=>by simp only [LV.bk]; exact hV _ _ (by simp [LV.a7]) h
 | .it _,v,h=>by simp only [LV.bk]; exact hV _ _ (by simp [LV.a7]) h
 | .lZ,v,h=>by simp only [LV.bk]; exact hV _ _ (by simp [LV.a7]) h
 | .fe,v,h=>by simp only [LV.bk]; exact hV _ _ (by simp [LV.a7]) h
 | .ak _ _,v,h=>by simp only [LV.bk]; exact hV _ _ (by simp [LV.a7]) h
 | .aJ _ _ _ _,v,h=>by simp only [LV.bk]; exact hV _ _ (by simp [LV.a7]) h
 | .ag _,v,h=>by
  simp only [LV.bk]
  split
  ·rename_i hn; exact hV _ _ (by simpa [LV.a7] using hn) h
  ·simp [au]
 | .fI _ _,v,h=>by
  simp only [LV.bk]
  split
  ·rename_i hn; exact hV _ _ (by simpa [LV.a7] using hn) h
  ·simp [au]
 | .arr i n,v,h=>by
  simp only [LV.bk]
  split
  ·simp [au]
  ·rename_i hi; exact hV _ _ (by simp [LV.a7,hi]) h
 | .ptr i o,v,h=>by
  simp only [LV.bk]
  split
  ·rename_i hi; subst hi; exact hp o v h
  ·rename_i hi; exact hV _ _ (by simp [LV.a7,hi]) h
 | .bE i n j o,v,h=>by
  simp only [LV.bk]
  split
  ·simp [au]
  ·rename_i hi; exact hV _ _ (by simp [LV.a7,hi]) h
 | .mp i,v,h=>by
  simp only [LV.bk]
  split
  ·simp [au]
  ·rename_i hi; exact hV _ _ (by simp [LV.a7,hi]) h
 | .agg l,v,h=>by
  simp only [LV.bk,au] at h ⊢
  obtain ⟨vs,rfl,hl⟩:=h
  exact ⟨vs,rfl,k6 hV hp l vs hl⟩
 | .de l,v,h=>by
  simp only [LV.bk,au] at h ⊢
  obtain ⟨vs,rfl,hl⟩:=h
  exact ⟨vs,rfl,k6 hV hp l vs hl⟩
 | .fn f l,v,h=>by
  simp only [LV.bk,au] at h ⊢
  obtain ⟨vs,rfl,hl⟩:=h
  exact ⟨vs,rfl,k6 hV hp l vs hl⟩
 | .vj f l,v,h=>by
  simp only [LV.bk,au] at h ⊢
  obtain ⟨vs,rfl,hl⟩:=h
  exact ⟨vs,rfl,k6 hV hp l vs hl⟩
theorem k6 {cs:List LV} (hV:∀ x v,x.a7 id=true→au c x v→au c' x v) (hp:∀ o v,au c (.ptr id o) v→au c' (.ag (cs.drop o)) v):∀ (xs:List LV) (vs:List Value),aC c xs vs→aC c' (LV.qy id cs xs) vs
 | [],vs,h=>by simpa only [LV.qy,aC] using h
 | x :: xs,vs,h=>by
  simp only [LV.qy,aC] at h ⊢
  obtain ⟨v,fH,rfl,h1,h2⟩:=h
  exact ⟨v,fH,rfl,wY hV hp x v h1,k6 hV hp xs fH h2⟩
end
mutual
theorem wX {k:Nat} {xs:List LV} (hV:∀ x v,x.a7 id=true→au c x v→au c' x v) (hp:∀ v,au c (.arr id xs.length) v→au c' (.ak k xs) v):∀ (x:LV) (v:Value),au c x v→au c' (x.eE id k xs) v
 | .eB,v,h=>by simp [LV.eE,au]
 | .int _ _,v,h=>by simp only [LV.eE]; exact hV _ _ (by simp [LV.a7]) h
 | .bool _,v,h=>by simp only [LV.eE]; exact hV _ _ (by simp [LV.a7]) h
 | .nil,v,h=>by simp only [LV.eE]; exact hV _ _ (by simp [LV.a7]) h
 | .pL _,v,h=>by simp only [LV.eE]; exact hV _ _ (by simp [LV.a7]) h
 | .full _ _,v,h=>by simp only [LV.eE]; exact hV _ _ (by simp [LV.a7]) h
 | .str _,v,h=>by simp only [LV.eE]; exact hV _ _ (by simp [LV.a7]) h
 | .it _,v,h=>by simp only [LV.eE]; exact hV _ _ (by simp [LV.a7]) h
 | .lZ,v,h=>by simp only [LV.eE]; exact hV _ _ (by simp [LV.a7]) h
 | .fe,v,h=>by simp only [LV.eE]; exact hV _ _ (by simp [LV.a7]) h
 | .ak _ _,v,h=>by simp only [LV.eE]; exact hV _ _ (by simp [LV.a7]) h
 | .aJ _ _ _ _,v,h=>by simp only [LV.eE]; exact hV _ _ (by simp [LV.a7]) h
 | .ag _,v,h=>by
  simp only [LV.eE]
  split
  ·rename_i hn; exact hV _ _ (by simpa [LV.a7] using hn) h
  ·simp [au]
 | .fI _ _,v,h=>by
  simp only [LV.eE]
  split
  ·rename_i hn; exact hV _ _ (by simpa [LV.a7] using hn) h
  ·simp [au]
 | .arr i n,v,h=>by
  simp only [LV.eE]
  split
  ·rename_i hi
   split
   ·rename_i hn; subst hi; subst hn; exact hp v h
   ·simp [au]
  ·rename_i hi; exact hV _ _ (by simp [LV.a7,hi]) h
 | .ptr i o,v,h=>by
  simp only [LV.eE]
  split
  ·simp [au]
  ·rename_i hi; exact hV _ _ (by simp [LV.a7,hi]) h
 | .bE i n j o,v,h=>by
  simp only [LV.eE]
  split
  ·simp [au]
  ·rename_i hi; exact hV _ _ (by simp [LV.a7,hi]) h
 | .mp i,v,h=>by
  simp only [LV.eE]
  split
  ·simp [au]
  ·rename_i hi; exact hV _ _ (by simp [LV.a7,hi]) h
 | .agg l,v,h=>by
  simp only [LV.eE,au] at h ⊢
  obtain ⟨vs,rfl,hl⟩:=h
  exact ⟨vs,rfl,jO hV hp l vs hl⟩
 | .de l,v,h=>by
  simp only [LV.eE,au] at h ⊢
  obtain ⟨vs,rfl,hl⟩:=h
  exact ⟨vs,rfl,jO hV hp l vs hl⟩
 | .fn f l,v,h=>by
  simp only [LV.eE,au] at h ⊢
  obtain ⟨vs,rfl,hl⟩:=h
  exact ⟨vs,rfl,jO hV hp l vs hl⟩
 | .vj f l,v,h=>by
  simp only [LV.eE,au] at h ⊢
  obtain ⟨vs,rfl,hl⟩:=h
  exact ⟨vs,rfl,jO hV hp l vs hl⟩
theorem jO {k:Nat} {xs:List LV} (hV:∀ x v,x.a7 id=true→au c x v→au c' x v) (hp:∀ v,au c (.arr id xs.length) v→au c' (.ak k xs) v):∀ (l:List LV) (vs:List Value),aC c l vs→aC c' (LV.fO id k xs l) vs
 | [],vs,h=>by simpa only [LV.fO,aC] using h
 | x :: l,vs,h=>by
  simp only [LV.fO,aC] at h ⊢
  obtain ⟨v,fH,rfl,h1,h2⟩:=h
  exact ⟨v,fH,rfl,wX hV hp x v h1,jO hV hp l fH h2⟩
end
end zP
mutual
theorem pC {c:Cx} {j:Nat} (hB:c.B j=.none):∀ (x:LV) (v:Value),au c x v→x.a7 j=true
 | .eB,v,h | .int _ _,v,h | .bool _,v,h | .nil,v,h | .pL _,v,h | .full _ _,v,h | .str _,v,h | .it _,v,h | .lZ,v,h | .fe,v,h | .ak _ _,v,h | .aJ _ _ _ _,v,h=>by simp [LV.a7]
 | .ag cs,v,h=>by
  simp only [au] at h
  obtain ⟨b,off,vs,_,_,_,hl,_⟩:=h
  simp only [LV.a7]; exact eO hB cs vs hl
 | .fI t cs,v,h=>by
  obtain ⟨vs,hl⟩:∃ vs,aC c cs vs:=by
   cases t
   ·simp only [au] at h; obtain ⟨b,off,vs,_,_,_,hl,_⟩:=h; exact ⟨vs,hl⟩
   ·simp only [au] at h; obtain ⟨b,off,vs,_,_,_,hl,_⟩:=h; exact ⟨vs,hl⟩
  simp only [LV.a7]; exact eO hB cs vs hl
 | .arr i n,v,h=>by
  simp only [au] at h
  obtain ⟨_,u,k,len,ins,h1,_⟩:=h
  by_cases hi:i=j
  ·subst hi; rw [hB] at h1; cases h1
  ·simp [LV.a7,hi]
 | .ptr i o,v,h=>by
  simp only [au] at h
  obtain ⟨b,n,h1,_⟩:=h
  by_cases hi:i=j
  ·subst hi; rw [hB] at h1; cases h1
  ·simp [LV.a7,hi]
 | .bE i n q o,v,h=>by
  simp only [au] at h
  obtain ⟨_,u,k,len,ins,h1,_⟩:=h
  by_cases hi:i=j
  ·subst hi; rw [hB] at h1; cases h1
  ·simp [LV.a7,hi]
 | .mp i,v,h=>by
  simp only [au] at h
  obtain ⟨b,h1,_⟩:=h
  by_cases hi:i=j
  ·subst hi; rw [hB] at h1; cases h1
  ·simp [LV.a7,hi]
 | .agg l,v,h=>by
  simp only [au] at h
  obtain ⟨vs,rfl,hl⟩:=h
  simp only [LV.a7]; exact eO hB l vs hl
 | .de l,v,h=>by
  simp only [au] at h
  obtain ⟨vs,rfl,hl⟩:=h
  simp only [LV.a7]; exact eO hB l vs hl
 | .fn f l,v,h=>by
  simp only [au] at h
  obtain ⟨vs,rfl,hl⟩:=h
  simp only [LV.a7]; exact eO hB l vs hl
 | .vj f l,v,h=>by
  simp only [au] at h
  obtain ⟨vs,rfl,hl⟩:=h
  simp only [LV.a7]; exact eO hB l vs hl
theorem eO {c:Cx} {j:Nat} (hB:c.B j=.none):∀ (xs:List LV) (vs:List Value),aC c xs vs→LV.cj j xs=true
 | [],vs,h=>by simp [LV.cj]
 | x :: xs,vs,h=>by
  simp only [aC] at h
  obtain ⟨v,fH,rfl,h1,h2⟩:=h
  simp only [LV.cj,Bool.and_eq_true]
  exact ⟨pC hB x v h1,eO hB xs fH h2⟩
end
theorem we {c:Cx} {j:Nat} (hB:c.B j=.none) (x:LV) (v:Value) (h:au c x v) (hx:x.a7 j=false):False:=by
 rw [pC hB x v h] at hx; cases hx
theorem bU.del {c:Cx} {m:Mem} (h:bU c m) (id:Nat) (pe:∀ i le,i ≠ id→m i=some le→le.kN id=true) :
  ∃ c':Cx,c'.w=c.w∧c'.OQ c∧bU c' (m.del id)∧(∀ x v,x.a7 id=true→au c x v→au c' x v)∧(∀ b,c'.own b→c.own b)∧(∀ b be,c.B id=some be→be.has b→¬ c'.X b)∧∀ i,i ≠ id→c'.B i=c.B i:=by
 obtain ⟨c',hw,hO,gW,hV,bd,Nd,hB⟩:=h.sub (m.del id) (fun i=>by unfold Mem.del; split <;> simp) (fun i le hi j hj=>by
  unfold Mem.del at hi ⊢
  split at hi
  ·cases hi
  ·rename_i ep
   have EN:j ≠ id:=fun he=>by subst he; rw [pe i le ep hi] at hj; cases hj
   simp only [EN,if_false]
   intro h0
   have he:=h.gr i
   rw [hi] at he
   have Bs:=h.fresh h0
   cases le with
   | box cs =>
    simp only [br] at he
    obtain ⟨b,us,e,_,_,hl,_⟩:=he
    obtain ⟨x,hx,VT⟩:∃ x ∈ cs,x.a7 j=false:=by
     have hn:LV.cj j cs=false:=hj
     rw [← Bool.not_eq_true,sW] at hn
     simp only [Classical.not_forall] at hn
     obtain ⟨x,hx,VS⟩:=hn
     exact ⟨x,hx,by simpa using VS⟩
    obtain ⟨q,hq⟩:=List.mem_iff_getElem?.1 hx
    obtain ⟨v,_,hv⟩:=hl.get hq
    exact we Bs x v hv VT
   | cU _ _ _ _ _ _ id2 n2 =>
    simp only [br] at he
    obtain ⟨_,_,_,_,_,_,_,⟨_,v,_,_,q3⟩,_⟩:=he
    exact we Bs _ v q3 hj
   | _=>simp [LE.kN] at hj)
 refine ⟨c',hw,hO,gW,fun x v hx hv=>hV x v (fun j hj=>?_) hv,bd,fun b be hb qz=>?_,fun i hi=>?_⟩
 ·have EN:j ≠ id:=fun he=>by subst he; rw [hx] at hj; cases hj
  unfold Mem.del
  simp only [EN,if_false]
  intro h0
  exact we (h.fresh h0) x v hv hj
 ·rintro ((TL | TM) | rb)
  ·rw [hO.1] at TL; exact h.jG b ⟨id,be,hb,qz⟩ TL
  ·rw [hO.2] at TM; exact (h.cN b TM).2.1 ⟨id,be,hb,qz⟩
  ·refine Nd b ⟨id,be,hb,qz⟩ (fun i ey hi Hy Hx=>?_) rb
   have:=h.inj i id ey be b Hy hb Hx qz
   subst this
   unfold Mem.del at hi
   simp at hi
 ·by_cases h0:m.del id i=.none
  ·have h1:=gW.fresh h0
   have h2:m i=.none:=by unfold Mem.del at h0; simpa [hi] using h0
   rw [h1,h.fresh h2]
  ·exact hB i h0
def su (id:Nat) (ml:List (Nat × LE)):Bool:=ml.all fun q=>q.1 == id || match q.2 with | .box cs=>LV.cj id cs | .arr _ _ _=>true | .map _ _ _=>true | .nest _ _ _ _=>true | .cU _ _ _ _ _ _ id2 _=>id2 != id | .dead=>true
theorem Mem.Aw (ml:List (Nat × LE)) (id:Nat):(Mem.of ml).del id=Mem.of (ml.filter fun q=>q.1 != id):=by
 funext i
 unfold Mem.del
 induction ml with
 | nil=>simp [Mem.of]
 | cons p ml ih =>
  obtain ⟨d,v⟩:=p
  by_cases hd:d=id
  ·subst hd
   simp only [List.filter_cons,bne_self_eq_false,Bool.false_eq_true,if_false,← ih,Mem.of]
   split
   ·rfl
   ·rename_i hi; simp [hi]
  ·have:(d != id)=true:=by simpa using hd
   simp only [List.filter_cons,this,if_true,Mem.of]
   by_cases hi:i=id
   ·subst hi
    simp only [if_true] at ih ⊢
    rw [if_neg (fun h=>hd h.symm)]; exact ih
   ·simp only [hi,if_false] at ih ⊢
    split
    ·rfl
    ·exact ih
theorem Env.of_map (el:List (Nat × LV)) (f:LV→LV) (hf:f .eB=.eB):(fun i=>f (Env.of el i))=Env.of (el.map fun p=>(p.1,f p.2)):=by
 funext i
 induction el with
 | nil=>simpa [Env.of] using hf
 | cons p el ih =>
  obtain ⟨d,v⟩:=p
  simp only [Env.of,List.map_cons]
  split
  ·rfl
  ·exact ih
theorem mr {id:Nat} {ml:List (Nat × LE)} (h:su id ml=true):∀ i le,i ≠ id→Mem.of ml i=some le→le.kN id=true:=by
 intro i le hi hm
 have:=List.all_eq_true.1 h _ (fl hm)
 cases le with
 | box cs=>simpa [hi,LE.kN] using this
 | cU _ _ _ _ _ _ _ _=>simpa [hi,LE.kN] using this
 | _=>rfl
theorem Wk.bk {pr:Nat→Prop} {el:List (Nat × LV)} {ml:List (Nat × LE)} (id:Nat) (cs:List LV) (bC:Mem.of ml id=some (.box cs)) (hp:LV.bj cs=true) (jX:su id ml=true) (lX:¬ pr id) :
  Wk pr (Env.of el) (Mem.of ml) (Env.of (el.map fun p=>(p.1,p.2.bk id cs))) (Mem.of (ml.filter fun q=>q.1 != id)):=by
 intro N c a bQ
 rw [← Env.of_map el (LV.bk id cs) (by simp [LV.bk]),← Mem.Aw]
 obtain ⟨c',hw,hO,gW,hV,bd,hX,hB⟩:=bQ.mem.del id (mr jX)
 obtain ⟨b,vs,e,zf,hh,hl,h1⟩:=iV bQ.mem bC
 refine ⟨c',hw,⟨fun i=>wY hV ?_ _ _ (bQ.env i),gW,bQ.size,bQ.defers⟩,?_⟩
 ·intro o v hv
  simp only [au] at hv ⊢
  obtain ⟨b',n,iq,rfl⟩:=hv
  rw [zf] at iq
  cases iq
  have fQ:=fm (mz hh) o
  simp only [Nat.zero_add] at fQ
  refine ⟨b,o,vs.drop o,rfl,by rw [hw]; exact (Array.getElem?_eq_some_iff.1 hh).1,hX b _ zf rfl,?_,fun y hy=>h1 y (List.mem_of_mem_drop hy),by rw [hw]; exact fQ⟩
  have hle:c.Le c':=Cx.sub_le hw hO bd
  exact (aC.mono hle cs vs (fun j hj=>by rw [ay cs hp] at hj; cases hj) hl).drop o
 ·refine Cx.mE hw hO bd (fun i be Ai hb=>?_)
  exact ⟨be,by rw [hB i (fun h=>lX (h ▸ Ai))]; exact hb,.refl be⟩
theorem Wk.eE {pr:Nat→Prop} {el:List (Nat × LV)} {ml:List (Nat × LE)} (id e k:Nat) (xs:List LV) (bC:Mem.of ml id=some (.arr e k xs)) (jX:su id ml=true) (lX:¬ pr id) :
  Wk pr (Env.of el) (Mem.of ml) (Env.of (el.map fun p=>(p.1,p.2.eE id k xs))) (Mem.of (ml.filter fun q=>q.1 != id)):=by
 intro N c a bQ
 rw [← Env.of_map el (LV.eE id k xs) (by simp [LV.eE]),← Mem.Aw]
 obtain ⟨c',hw,hO,gW,hV,bd,hX,hB⟩:=bQ.mem.del id (mr jX)
 refine ⟨c',hw,⟨fun i=>wX hV ?_ _ _ (bQ.env i),gW,bQ.size,bQ.defers⟩,?_⟩
 ·intro v hv
  obtain ⟨vs,zf,hk,hZ,hl,hc,hp⟩:=gf bQ.mem hv bC rfl
  simp only [au]
  have hle:c.Le c':=Cx.sub_le hw hO bd
  have iD:=aC.mono hle xs vs (fun j hj=>by rw [ay xs hp] at hj; cases hj) hl
  rcases hZ.2 with ⟨rfl,h0⟩ | ⟨g,cap,cur,rfl,_,hg,kf,_⟩
  ·exact ⟨.none,0,by rw [h0],by omega,fun _=>rfl,hp,.inl (List.eq_nil_of_length_eq_zero h0)⟩
  ·refine ⟨some ⟨g,0,.none⟩,cap,rfl,kf,by simp,hp,.inr ⟨g,0,vs,rfl,by rw [hw]; exact (Array.getElem?_eq_some_iff.1 hg).1,hX g _ zf (.inl rfl),iD,hc,?_⟩⟩
   rw [hw]; exact cR hZ rfl
 ·refine Cx.mE hw hO bd (fun i be Ai hb=>?_)
  exact ⟨be,by rw [hB i (fun h=>lX (h ▸ Ai))]; exact hb,.refl be⟩
theorem Wk.own {pr:Nat→Prop} {el fk:List (Nat × LV)} {ml:List (Nat × LE)} (id e k:Nat) (bC:Mem.of ml id=.none) (hk:0<k)
  (q9:fk.length=el.length) (hh:∀ i:Nat,∀ p q,el[i]?=some p→fk[i]?=some q→q.1=p.1∧(q.2=p.2 ∨ (p.2=.nil∧q.2=.arr id 0))) :
  Wk pr (Env.of el) (Mem.of ml) (Env.of fk) (Mem.of ((id,.arr e k []) :: ml)):=by
 intro N c a bQ
 have hB:=bQ.mem.fresh bC
 obtain ⟨c',hw,hb,h2,h3⟩:=bQ.mem.A9 (pr:=pr) id (.arr e k []) (.arr (.slice .none 0 0) k 0 []) c.w rfl rfl rfl (Nat.le_refl _) (Nat.le_refl _)
  (fun b _ _=>rfl) (fun b hb=>by simp [BE.has,Value.ownBlock] at hb) (by rw [hB]; trivial) (fun _ di h0=>by rw [hB] at h0; cases h0)
  (fun c' hw hle dw=>by
   simp only [br]
   exact ⟨.slice .none 0 0,[],rfl,hk,by rw [hw]; exact World.ownsRow_nil c.w 0 e k,by simp [aC],by simp,by simp [LV.bj]⟩)
 refine ⟨c',hw,⟨fun i=>?_,?_,bQ.size,bQ.defers⟩,h3.grow⟩
 ·have key:∀ (el fk:List (Nat × LV)),fk.length=el.length→(∀ i:Nat,∀ p q,el[i]?=some p→fk[i]?=some q→q.1=p.1∧(q.2=p.2 ∨ (p.2=.nil∧q.2=.arr id 0)))→Env.of fk i=Env.of el i ∨ (Env.of el i=.nil∧Env.of fk i=.arr id 0):=by
   intro el
   induction el with
   | nil=>intro fk hl _; have:fk=[]:=List.eq_nil_of_length_eq_zero (by simpa using hl); subst this; exact .inl rfl
   | cons p el ih =>
    intro fk hl hh
    cases fk with
    | nil=>simp at hl
    | cons q fk =>
     obtain ⟨h1,h2⟩:=hh 0 p q (by simp) (by simp)
     obtain ⟨d,v⟩:=p
     obtain ⟨d',v'⟩:=q
     simp only at h1 h2
     subst h1
     simp only [Env.of]
     split
     ·exact h2
     ·exact ih fk (by simpa using hl) (fun i p q hp hq=>hh (i+1) p q (by simpa using hp) (by simpa using hq))
  rcases key el fk q9 hh with he | ⟨he,z6⟩
  ·rw [he]; exact h3.wg (bQ.env i)
  ·rw [z6]
   have:=bQ.env i
   rw [he] at this
   simp only [au] at this ⊢
   exact ⟨by rw [this]; rfl,_,_,_,_,hb,Nat.le_refl _,fun _=>this⟩
 ·have:(Mem.of ml).put id (.arr e k [])=Mem.of ((id,.arr e k []) :: ml):=rfl
  rw [← this]; exact h2
def Env.args (l:List LV):Env:=fun i=>l.getD i .eB
def jZ (P:Program) (e:Env) (m:Mem):List ResultVar→(List LV→Prop)→Prop
 | [],K=>K []
 | .tmp t :: r,K=>jZ P e m r fun l=>K (e t :: l)
 | .cell a t :: r,K=>match e a with
  | .ptr id o=>match m id with
   | some (.box cs)=>o≤cs.length∧loadC P t (cs.drop o) fun lv=>jZ P e m r fun l=>K (lv :: l)
   | _=>False
  | .ag cs=>loadC P t cs fun lv=>jZ P e m r fun l=>K (lv :: l)
  | _=>False
def tB (tmps:Array Value):ResultVar→Sem Value
 | .tmp t=>pure (tmps.getD t undef)
 | .cell x t=>do loadVar t (← asAddr (tmps.getD x undef))
def oneOf:List LV→LV
 | [x]=>x
 | l=>.de l
theorem oC {P:Program} {e:Env} {m:Mem}:∀ (rs:List ResultVar) (K:List LV→Prop),jZ P e m rs K →
  ∃ l,K l∧∀ (N:Nat) (c:Cx) (a:Act),lS N c e m a→∃ vs,(rs.mapM (tB a.tmps)).run P c.w=.ok vs c.w∧aC c l vs
 | [],K,h=>⟨[],h,fun N c a hr=>⟨[],by simp,by simp [aC]⟩⟩
 | .tmp t :: r,K,h=>by
  simp only [jZ] at h
  obtain ⟨l,hK,hl⟩:=oC r _ h
  refine ⟨_,hK,fun N c a hr=>?_⟩
  obtain ⟨vs,h1,h2⟩:=hl N c a hr
  refine ⟨a.tmps.getD t undef :: vs,by simp only [List.mapM_cons,Sem.run_bind,tB,Sem.run_pure,Result.andThen_ok,h1],?_⟩
  simp only [aC]
  exact ⟨_,_,rfl,hr.env t,h2⟩
 | .cell x t :: r,K,h=>by
  simp only [jZ] at h
  have fin:∀ (cs:List LV),loadC P t cs (fun lv=>jZ P e m r fun l=>K (lv :: l))→(∀ (N:Nat) (c:Cx) (a:Act),lS N c e m a→∃ b off vs,a.tmps.getD x undef=.pointer (some ⟨b,off,.none⟩)∧aC c cs vs∧c.w.rangeAt b off vs)→∃ l,K l∧∀ (N:Nat) (c:Cx) (a:Act),lS N c e m a→∃ vs,((ResultVar.cell x t :: r).mapM (tB a.tmps)).run P c.w=.ok vs c.w∧aC c l vs:=by
   intro cs h Ru
   obtain ⟨lv,hK,hv⟩:=gQ h
   obtain ⟨l,vB,hl⟩:=oC r _ hK
   refine ⟨_,vB,fun N c a hr=>?_⟩
   obtain ⟨b,off,us,he,vJ,fQ⟩:=Ru N c a hr
   obtain ⟨v,kz,wE⟩:=hv c b off us vJ fQ
   obtain ⟨vs,h1,h2⟩:=hl N c a hr
   have Nc:(loadVar t ⟨b,off,.none⟩).run P c.w=.ok v c.w:=by
    simpa [Instr.loadAt,Instr.sureAddr] using kz
   refine ⟨v :: vs,?_,by simp only [aC]; exact ⟨_,_,rfl,wE,h2⟩⟩
   simp only [List.mapM_cons,tB,Sem.run_bind,he,asAddr,Sem.run_pure,Result.andThen_ok,Nc,h1]
  cases hx:e x <;> simp only [hx] at h
  case ag cs =>
   refine fin cs h fun N c a hr=>?_
   have:=hr.env x
   rw [hx] at this
   simp only [au] at this
   obtain ⟨b,off,vs,he,_,_,hl,_,fQ⟩:=this
   exact ⟨b,off,vs,he,hl,fQ⟩
  case ptr id o =>
   cases hm:m id with
   | none=>simp [hm] at h
   | some le =>
    cases le with
    | map _ _ _=>simp [hm] at h
    | nest _ _ _ _=>simp [hm] at h
    | cU _ _ _ _ _ _ _ _=>simp [hm] at h
    | dead=>simp [hm] at h
    | arr _ _ _=>simp [hm] at h
    | box cs =>
     simp only [hm] at h
     refine fin (cs.drop o) h.2 fun N c a hr=>?_
     obtain ⟨b,vs,q,hB,hh,hl,h1⟩:=iV hr.mem hm
     have:=hr.env x
     rw [hx] at this
     simp only [au] at this
     obtain ⟨b',n,iq,he⟩:=this
     rw [hB] at iq
     cases iq
     have fQ:=fm (mz hh) o
     simp only [Nat.zero_add] at fQ
     exact ⟨b,o,_,he,hl.drop o,fQ⟩
def LB (P:Program) (fn:Func) (pr:Nat→Prop) (R:LV→Mem→Prop):Exit→Env→Mem→Prop
 | .ret,e,m=>jZ P e m fn.results.toList fun l=>∃ ml,(∀ p ∈ ml,m p.1=some p.2)∧aU [(0,oneOf l)] ml=true∧(∀ id,pr id→m id=.none ∨ Mem.of ml id ≠ .none)∧R (oneOf l) (Mem.of ml)
 | .normal,e,m=>jZ P e m fn.results.toList fun l=>∃ ml,(∀ p ∈ ml,m p.1=some p.2)∧aU [(0,oneOf l)] ml=true∧(∀ id,pr id→m id=.none ∨ Mem.of ml id ≠ .none)∧R (oneOf l) (Mem.of ml)
 | _,_,_=>False
theorem aP.HV {P:Program} {f:Nat} {fn:Func} {code:Code} {args:List LV} {m:Mem} {R:LV→Mem→Prop} (hf:P.funcs[f]?=some fn) (hb:fn.body=some code) (hn:args.length≤fn.ntmps)
  (h:LH P fn.ntmps (fun id=>m id ≠ .none) code (LB P fn (fun id=>m id ≠ .none) R) (Env.args args) m):∃ lv m',aP P f args m lv m'∧R lv m':=by
 obtain ⟨ex,e',m1,hx,hq⟩:=h
 have main:(jZ P e' m1 fn.results.toList fun l=>∃ ml,(∀ p ∈ ml,m1 p.1=some p.2)∧aU [(0,oneOf l)] ml=true∧(∀ id,m id ≠ .none→m1 id=.none ∨ Mem.of ml id ≠ .none)∧R (oneOf l) (Mem.of ml))→(ex=.ret ∨ ex=.normal)→∃ lv m',aP P f args m lv m'∧R lv m':=by
  intro KN hex
  obtain ⟨l,⟨ml,h1,h2,h3,hR⟩,hl⟩:=oC _ _ KN
  refine ⟨oneOf l,Mem.of ml,fun c vs hm ha=>?_,hR⟩
  refine calls_of_wp hf hb ?_
  have hlen:=ha.length
  have bQ:lS fn.ntmps c (Env.args args) m { tmps:=vs.toArray++Array.replicate (fn.ntmps - vs.toArray.size) undef,defers:=[] }:=by
   refine ⟨fun i=>?_,hm,by simp; omega,rfl⟩
   simp only [Env.args,List.getD_eq_getElem?_getD]
   cases hi:args[i]? with
   | none=>simp [au]
   | some x =>
    obtain ⟨v,hv,hr⟩:=ha.get hi
    have xi:i<vs.length:=(List.getElem?_eq_some_iff.1 hv).1
    have:(vs.toArray++Array.replicate (fn.ntmps - vs.toArray.size) undef).getD i undef=v:=by
     rw [Array.getD_eq_getD_getElem?,Array.getElem?_append_left (by simpa using xi)]
     simp [hv]
    rw [this]; exact hr
  refine wp_mono (hx c _ bQ) ?_
  rintro x a' w' ⟨rfl,c1,rfl,ec,zj⟩
  obtain ⟨us,Fb,vJ⟩:=hl _ c1 a' ec
  have Kt:(results fn a'.tmps).run P c1.w=.ok (if h:us.toArray.size=1 then us.toArray[0] else .tuple us.toArray) c1.w:=by
   have e1:results fn a'.tmps=(do let vs ← fn.results.mapM (tB a'.tmps); pure (if h:vs.size=1 then vs[0] else .tuple vs)):=by
    unfold results
    congr 2
   rw [e1,Array.mapM_eq_mapM_toList]
   simp only [Sem.run_bind,Sem.run_map,Fb,Result.andThen_ok,Sem.run_pure]
  have VG:au c1 (oneOf l) (if h:us.toArray.size=1 then us.toArray[0] else .tuple us.toArray):=by
   have M9:=vJ.length
   match l,us,vJ with
   | [],us,vJ=>simp only [aC] at vJ; subst vJ; simp [oneOf,au,aC]
   | [x],us,vJ =>
    simp only [aC] at vJ
    obtain ⟨v,fH,rfl,hv,rfl⟩:=vJ
    simpa [oneOf] using hv
   | x :: y :: l,us,vJ =>
    have eY:¬ us.toArray.size=1:=by have:=vJ.length; simp at this ⊢; omega
    rw [dif_neg eY]
    simp only [oneOf,au]
    exact ⟨us,rfl,vJ⟩
  obtain ⟨c2,qC,⟨MR,jc,_,_⟩,pg⟩:=Wk.cut (pr:=fun id=>m id ≠ .none) (e:=Env.of [(0,oneOf l)]) (m:=m1) [(0,oneOf l)] ml (by simp [Env.of]) h1 h2 (fun id hp=>h3 id hp) 1 c1 { tmps:=#[if h:us.toArray.size=1 then us.toArray[0] else .tuple us.toArray],defers:=[] }
   ⟨fun i=>by
    by_cases hi:i=0
    ·subst hi; simpa [Env.of] using VG
    ·simp [Env.of,hi,au],ec.mem,rfl,rfl⟩
  have wE:=MR 0
  simp only [Env.of,if_true] at wE
  have IQ:a'.defers=[]∧∃ v,(results fn a'.tmps).run P c1.w=.ok v c1.w∧∃ v' c',Ending.returned v=.returned v'∧c'.w=c1.w∧bU c' (Mem.of ml)∧au c' (oneOf l) v'∧Grow (fun id=>m id ≠ .none) c c' :=
   ⟨ec.defers,_,Kt,_,c2,rfl,qC,jc,by simpa using wE,zj.trans pg⟩
  rcases hex with rfl | rfl
  ·exact IQ
  ·exact IQ
 cases ex with
 | ret=>exact main hq (.inl rfl)
 | normal=>exact main hq (.inr rfl)
 | _=>exact hq.elim
def rV (P:Program) (f:Nat) (args:List LV) (lv:LV):Prop:=aP P f args Mem.none lv Mem.none
theorem Mem.uP (m:Mem):m.over Mem.none=m:=by funext i; rfl
theorem yD {c:Cx} {i j:Nat} {le:LE} (hp:(match le with | .box cs=>LV.bj cs | .arr _ _ _=>true | .map _ _ _=>true | .nest _ _ _ _=>true | .cU _ _ _ _ _ _ _ _=>false | .dead=>true)=true) (hm:bU c (Mem.of [(i,le)])) :
  ∃ c':Cx,c'.w=c.w∧c'.OQ c∧bU c' (Mem.of [(j,le)])∧c'.B j=c.B i∧(∀ b,c'.own b→c.own b):=by
 let c':Cx:=⟨c.w,fun k=>if k=j then c.B i else .none,c.O,c.Q⟩
 have bd:∀ b,c'.own b→c.own b:=by
  rintro b ⟨k,be,h1,h2⟩
  simp only [c'] at h1
  split at h1
  ·exact ⟨i,be,h1,h2⟩
  ·cases h1
 have hle:c.Le c':=Cx.sub_le rfl ⟨rfl,rfl⟩ bd
 refine ⟨c',rfl,⟨rfl,rfl⟩,⟨fun k=>?_,?_,fun b ho=>hm.jG b (bd b ho),hm.o3,hm.nq rfl ⟨rfl,rfl⟩ bd⟩,by simp [c'],bd⟩
 ·by_cases hk:k=j
  ·subst hk
   have he:=hm.gr i
   have hb:c'.B k=c.B i:=by simp [c']
   rw [hb]
   simp only [Mem.of,if_true] at he ⊢
   cases le with
   | box cs =>
    simp only [br] at he ⊢
    obtain ⟨b,us,e,h1,h2,h3,h4⟩:=he
    exact ⟨b,us,e,h1,h2,aC.mono hle cs us (fun q hq=>by rw [ay cs hp] at hq; cases hq) h3,h4⟩
   | arr e k' xs =>
    simp only [br] at he ⊢
    obtain ⟨u,us,h1,h0,h2,h3,h4,h5⟩:=he
    exact ⟨u,us,h1,h0,h2,aC.mono hle xs us (fun q hq=>by rw [ay xs h5] at hq; cases hq) h3,h4,h5⟩
   | nest e k' os xs =>
    simp only [br] at he ⊢
    obtain ⟨u,us,bs,h1,h0,h2,h3,h4⟩:=he
    exact ⟨u,us,bs,h1,h0,h2,h3.mono hle (fun b _=>rfl),h4⟩
   | cU _ _ _ _ _ _ _ _=>cases hp
   | dead=>simpa only [br] using he
   | map kt vt es =>
    simp only [br] at he ⊢
    obtain ⟨b,jn,ck,h1,h2,h3,h4,h5,h6,h7⟩:=he
    exact ⟨b,jn,ck,h1,h2,aC.mono hle _ _ (fun j hj=>by rw [ay _ h5] at hj; cases hj) h3,aC.mono hle _ _ (fun j hj=>by rw [ay _ h6] at hj; cases hj) h4,h5,h6,h7⟩
  ·simp [Mem.of,hk,br,c']
 ·intro k k' be ey b h1 h2 h3 h4
  simp only [c'] at h1 h2
  split at h1
  ·rename_i hk
   split at h2
   ·rename_i DL; rw [hk,DL]
   ·cases h2
  ·cases h1
theorem aP.Dr {P:Program} {f:Nat} {args:List LV} {i o:Nat} {le:LE} (j:Nat) (hp:(match le with | .box cs=>LV.bj cs | .arr _ _ _=>true | .map _ _ _=>true | .nest _ _ _ _=>true | .cU _ _ _ _ _ _ _ _=>false | .dead=>true)=true) (h:aP P f args Mem.none (.ptr i o) (Mem.of [(i,le)])):aP P f args Mem.none (.ptr j o) (Mem.of [(j,le)]):=by
 intro c vs hm ha
 refine (h c vs hm ha).mono ?_
 rintro en w' ⟨v,c1,rfl,rfl,iv,kz,hg⟩
 obtain ⟨c2,hw,hO,jc,hB,bd⟩:=yD (j:=j) hp iv
 refine ⟨v,c2,rfl,hw,jc,?_,hg.sub hw hO bd (fun id be hp=>absurd rfl hp)⟩
 simp only [au] at kz ⊢
 rw [hB]; exact kz
theorem rV.Mw {P:Program} {f:Nat} {args:List LV} {lv:LV} (h:rV P f args lv) (hp:LV.bj args=true) (m:Mem) {K:LV→Mem→Prop} (hK:K lv m):Bd P f args m K:=by
 refine ⟨lv,Mem.none,Mem.none,h,fun id bC=>absurd rfl bC,fun id _ bC=>absurd rfl bC,fun id bC=>?_,rfl,(fun id cs bC=>by cases bC),by rw [Mem.uP]; exact hK⟩
 rw [ay args hp] at bC; cases bC
theorem rV.calls {P:Program} {f:Nat} {args:List LV} {lv:LV} (h:rV P f args lv) (w:World) (vs:List Value) (ha:aC ⟨w,fun _=>.none,fun _=>False,fun _=>.none⟩ args vs) :
  Calls P f vs.toArray w fun en w'=>(∃ v c',en=.returned v∧c'.w=w'∧au c' lv v)∧RowKit.Below w.heap.size w w':=by
 have hm:bU ⟨w,fun _=>.none,fun _=>False,fun _=>.none⟩ Mem.none :=
  ⟨fun id=>rfl,fun i i' be ey b h1=>by simp at h1,fun b ho=>fun h=>h,fun b h=>h.elim,fun b h=>absurd rfl h⟩
 refine (h _ vs hm ha).mono ?_
 rintro en w' ⟨v,c',he,rfl,_,hv,hg⟩
 refine ⟨⟨v,c',he,rfl,hv⟩,hg.os,hg.tape,hg.output,hg.size,fun b hb=>hg.jr b hb ?_ (.inl rfl)⟩
 rintro ⟨id,be,h1,_⟩
 simp at h1
end Go.L
namespace Go.L
section
variable {P:Program} {N:Nat} {pr:Nat→Prop} {ro:List Nat} {ops:Array Oper} {e:Env} {m:Mem} {ev:Operand→LV} {d:Option Nat} {ty:TypeId} {pos:String} {af:Array Edge} {g:Option (Nat × Bool)}
theorem nX (op:Op) (j:Nat) (want:Bool) (K:Env→Mem→Prop):Be P pr ro ops ⟨d,op,ty,pos,af,some (j,want)⟩ K e m=match (ops[j]?).bind (·.dst) with
  | some q=>match e q with
   | .bool t=>if t=want then LOp P pr ro ⟨d,op,ty,pos,af,some (j,want)⟩ (cZ e) m fun lv m'=>K (e.fC d lv) m' else K (e.fC d (.de [])) m
   | .de []=>K (e.fC d (.de [])) m
   | _=>False
  | .none=>False:=rfl
section ops
variable {K:LV→Mem→Prop}
@[go_sem] theorem LOp_move (x:Operand):LOp P pr ro ⟨d,.move x,ty,pos,af,g⟩ ev m K=K (ev x) m:=rfl
@[go_sem] theorem LOp_assign (x:Operand):LOp P pr ro ⟨d,.assign x,ty,pos,af,g⟩ ev m K=K (ev x) m:=rfl
@[go_sem] theorem LOp_pick (c a b:Operand):LOp P pr ro ⟨d,.pick c a b,ty,pos,af,g⟩ ev m K=match ev c with | .bool t=>K (if t then ev a else ev b) m | _=>False:=rfl
@[go_sem] theorem LOp_alloc (t:TypeId) (i:Nat):LOp P pr ro ⟨some i,.alloc t,ty,pos,af,g⟩ ev m K=match tzero P t with
  | some z=>m (100+i)=.none∧K (.ptr (100+i) 0) (m.put (100+i) (.box z.cells))
  | .none=>False:=by
 simp only [LOp]; cases tzero P t <;> rfl
@[go_sem] theorem LOp_box (t:TypeId) (x:Operand) (i:Nat):LOp P pr ro ⟨some i,.box t x,ty,pos,af,g⟩ ev m K=((ev x).cells.all LV.scalar=true ∧
      if ro.contains i=true then K (.ag (ev x).cells) m
      else m (100+i)=.none∧K (.ptr (100+i) 0) (m.put (100+i) (.box (ev x).cells))):=rfl
@[go_sem] theorem LOp_build (t:TypeId) (l:List (Nat × Operand)):LOp P pr ro ⟨d,.build t l.toArray,ty,pos,af,g⟩ ev m K=(tbuild P t=true∧match tzero P t with
  | some (.agg z)=>match lN P t z (l.map fun p=>(p.1,ev p.2)) with
   | some cs=>K (.agg cs) m
   | .none=>False
  | _=>False):=rfl
@[go_sem] theorem LOp_buildSlice (t:TypeId) (len:Nat) (l:List (Nat × Operand)):LOp P pr ro ⟨d,.buildSlice t len l.toArray,ty,pos,af,g⟩ ev m K=match telem P t with
  | some e=>gy P e=true∧len * tsize P e≤16777216∧l.map (·.1)=List.range len∧qE (tsize P e) (l.map fun p=>ev p.2)∧K (.ak (tsize P e) (l.map fun p=>ev p.2)) m
  | .none=>False:=rfl
@[go_sem] theorem LOp_load (t:TypeId) (a:Operand):LOp P pr ro ⟨d,.load t a,ty,pos,af,g⟩ ev m K=match ev a with
  | .ag cs=>loadC P t cs fun lv=>K lv m
  | .ptr id o=>match m id with
   | some (.box cs)=>o≤cs.length∧loadC P t (cs.drop o) fun lv=>K lv m
   | _=>False
  | .bE id n i o=>match m id with
   | some (.arr _ _ xs)=>n=xs.length∧∃ x,xs[i]?=some x∧x.cells.all LV.scalar=true∧o≤x.cells.length∧loadC P t (x.cells.drop o) fun lv=>K lv m
   | _=>False
  | _=>False:=rfl
@[go_sem] theorem LOp_store (t:TypeId) (a x:Operand):LOp P pr ro ⟨d,.store t a x,ty,pos,af,g⟩ ev m K=((ev x).cells.all LV.scalar=true∧tok P t=true∧tsize P t=(ev x).cells.length∧match ev a with
  | .ptr id o=>match m id with
   | some (.box cs)=>o+(ev x).cells.length≤cs.length∧K .eB (m.put id (.box (rep cs o (ev x).cells)))
   | _=>False
  | .bE id n i o=>match m id with
   | some (.arr e k xs)=>n=xs.length∧LV.bj (ev x).cells=true∧∃ y z,xs[i]?=some y∧yK y o (ev x)=some z∧K .eB (m.put id (.arr e k (xs.set i z)))
   | _=>False
  | _=>False):=rfl
@[go_sem] theorem LOp_nilCheck (x:Operand):LOp P pr ro ⟨d,.nilCheck x,ty,pos,af,g⟩ ev m K=match ev x with
  | .ptr _ _=>K (ev x) m
  | .ag _=>K (ev x) m
  | .bE id n _ _=>(match m id with | some (.arr _ _ xs)=>n=xs.length | _=>False)∧K (ev x) m
  | .fn _ _=>K (ev x) m
  | _=>False:=rfl
@[go_sem] theorem LOp_binOp (op:BinOp) (t t':TypeId) (x y:Operand):LOp P pr ro ⟨d,.binOp op t x y t',ty,pos,af,g⟩ ev m K=match ev x,ev y with
  | .int k a,.int k' b=>k=k'∧oz op k a b fun lv=>K lv m
  | .bool a,.bool b=>yW P t=true∧(match op with | .eql=>K (.bool (a == b)) m | .neq=>K (.bool (!(a == b))) m | _=>False)
  | .agg xs,.agg ys=>∃ b,oZ P t xs ys b∧(match op with | .eql=>K (.bool b) m | .neq=>K (.bool (!b)) m | _=>False)
  | _,_=>False:=rfl
@[go_sem] theorem LOp_not (t:TypeId) (x:Operand):LOp P pr ro ⟨d,.unOp .not t x,ty,pos,af,g⟩ ev m K=match ev x with
  | .bool b=>K (.bool (!b)) m
  | _=>False:=by
 simp only [LOp]; cases ev x <;> rfl
@[go_sem] theorem LOp_convert (s t:TypeId) (x:Operand):LOp P pr ro ⟨d,.convert s t x,ty,pos,af,g⟩ ev m K=(tok P s=true∧match tint P t,ev x with
  | some k,.int _ n=>K (.int k (k.wrap n)) m
  | _,_=>False):=rfl
@[go_sem] theorem LOp_slice (t:TypeId) (x:Operand) (lo hi mx:Option Operand):LOp P pr ro ⟨d,.slice t x lo hi mx,ty,pos,af,g⟩ ev m K=((telem P t).isSome=true∧tok P ((telem P t).getD 0)=true∧mx=.none∧match ev x with
  | .ak k xs=>some k=(telem P t).map (tsize P)∧∃ l h:Nat,(match lo with | .none=>l=0 | some y=>ev y=.int .i64 l)∧(match hi with | .none=>h=xs.length | some y=>ev y=.int .i64 h) ∧
    l≤h∧h≤xs.length∧K (.ak k ((xs.take h).drop l)) m
  | .nil=>(match lo with | .none=>True | some y=>ev y=.int .i64 0)∧(match hi with | .none=>True | some y=>ev y=.int .i64 0)∧K .nil m
  | _=>False):=rfl
@[go_sem] theorem LOp_fieldAddr (t:TypeId) (x:Operand) (f:Nat):LOp P pr ro ⟨d,.fieldAddr t x f,ty,pos,af,g⟩ ev m K=match tfield P t f with
  | some (off,ft)=>tok P ft=true∧tsize P ft ≠ 0∧match ev x with
   | .ag cs=>off≤cs.length∧K (.ag (cs.drop off)) m
   | .ptr id o=>K (.ptr id (o+off)) m
   | .bE id n i o=>(match m id with | some (.arr _ _ xs)=>n=xs.length | _=>False)∧K (.bE id n i (o+off)) m
   | _=>False
  | .none=>False:=rfl
@[go_sem] theorem LOp_indexAddr (t:TypeId) (x i:Operand):LOp P pr ro ⟨d,.indexAddr t x i,ty,pos,af,g⟩ ev m K=match telem P t,ev x,ev i with
  | some e,.ak k xs,.int _ n=>tok P e=true∧k=tsize P e∧0≤n∧∃ y,xs[n.toNat]?=some y∧y.cells.all LV.scalar=true∧K (.ag y.cells) m
  | some e,.arr id l,.int _ n=>match m id with
   | some (.arr _ k xs)=>tok P e=true∧l=xs.length∧k=tsize P e∧0≤n∧n<l∧K (.bE id l n.toNat 0) m
   | _=>False
  | _,_,_=>False:=rfl
@[go_sem] theorem LOp_extract (t:Operand) (i:Nat):LOp P pr ro ⟨d,.extract t i,ty,pos,af,g⟩ ev m K=match ev t with
  | .de vs=>∃ v,vs[i]?=some v∧K v m
  | _=>False:=rfl
@[go_sem] theorem LOp_makeFunc (f:Nat) (cap:List Operand):LOp P pr ro ⟨d,.makeFunc (.func f) #[] cap.toArray,ty,pos,af,g⟩ ev m K=K (.fn f (cap.map ev)) m:=by
 simp [LOp]
@[go_sem] theorem LOp_makeSlice (t:TypeId) (l c:Operand) (i:Nat):LOp P pr ro ⟨some i,.makeSlice t l c,ty,pos,af,g⟩ ev m K=match telem P t,tzero P ((telem P t).getD 0),ev l,ev c,some i with
  | some e,some z,.int .i64 n,.int .i64 n',some d=>n=n'∧0≤n∧n≤549755813888∧gy P e=true∧z.pure=true∧m (100+d)=.none ∧
    K (.arr (100+d) n.toNat) (m.put (100+d) (.arr e (tsize P e) (List.replicate n.toNat z)))
  | _,_,_,_,_=>False:=rfl
@[go_sem] theorem LOp_len (x:Operand) (t:TypeId):LOp P pr ro ⟨d,.call ⟨.builtin .len,#[x],#[t]⟩,ty,pos,af,g⟩ ev m K=((telem P t).isSome=true∧match ev x with
        | .ak _ xs=>K (.int .i64 xs.length) m
        | .nil=>K (.int .i64 0) m
        | .arr id n=>(match m id with | some (.arr _ _ xs)=>n=xs.length | _=>False)∧K (.int .i64 n) m
        | _=>False):=rfl
def qp (P:Program) (pr:Nat→Prop) (m:Mem) (i e:Nat) (x:LV) (K:LV→Mem→Prop) (ys:List LV):Prop :=
 match x with
 | .arr id n=>¬ pr id∧match m id with
  | some (.arr e' k xs)=>e'=e∧k=tsize P e∧n=xs.length∧xs.length+ys.length≤549755813888∧K (.arr id (n+ys.length)) (m.put id (.arr e k (xs++ys)))
  | _=>False
 | .nil=>m (100+i)=.none∧ys.length≤549755813888∧K (.arr (100+i) ys.length) (m.put (100+i) (.arr e (tsize P e) ys))
 | _=>False
attribute [go_sem] qp
@[go_sem] theorem LOp_append (x y:Operand) (t t':TypeId) (i:Nat):LOp P pr ro ⟨some i,.call ⟨.builtin .append,#[x,y],#[t,t']⟩,ty,pos,af,g⟩ ev m K=(t=t'∧match telem P t with
        | some e=>gy P e=true∧match ev y with
          | .ak k ys=>k=tsize P e∧qp P pr m i e (ev x) K ys
          | .nil=>qp P pr m i e (ev x) K []
          | .aJ _ _ k ys=>k=tsize P e∧qp P pr m i e (ev x) K ys
          | _=>False
        | .none=>False):=by
  have h0:LOp P pr ro ⟨some i,.call ⟨.builtin .append,#[x,y],#[t,t']⟩,ty,pos,af,g⟩ ev m K=(t=t'∧match telem P t with
        | some e=>gy P e=true∧∃ ys,Src (tsize P e) (ev y) ys∧qp P pr m i e (ev x) K ys
        | .none=>False):=rfl
  rw [h0]
  cases telem P t with
  | none=>rfl
  | some e =>
    simp only
    congr 2
    cases hy:ev y <;> simp [Src]
    case ak k ys =>
      constructor
      · rintro ⟨zs,⟨rfl,rfl⟩,h⟩; exact ⟨rfl,h⟩
      · rintro ⟨rfl,h⟩; exact ⟨ys,⟨rfl,rfl⟩,h⟩
    case aJ k ys =>
      constructor
      · rintro ⟨zs,⟨rfl,rfl⟩,h⟩; exact ⟨rfl,h⟩
      · rintro ⟨rfl,h⟩; exact ⟨ys,⟨rfl,rfl⟩,h⟩
@[go_sem] theorem LOp_call (x:Operand) (l:List Operand) (ts:Array TypeId):LOp P pr ro ⟨d,.call ⟨.value x,l.toArray,ts⟩,ty,pos,af,g⟩ ev m K=match ev x with
      | .fn f cap => (∃ fn, P.funcs[f]? = some fn ∧ (fn.name == "runtime.NumGoroutine") = false ∧ fn.body.isNone = false) ∧ Bd P f (l.map ev ++ cap) m K
      | _=>False:=rfl
end ops
attribute [go_sem] LV.refs LV.bG LV.cells oz rep lN LV.scalar LV.pure LV.bj DW ug yK jZ oneOf List.all_cons List.all_nil List.map_cons List.map_nil List.drop_zero List.drop_succ_cons List.drop_nil List.take_succ_cons List.take_zero List.take_nil List.length_cons List.length_nil List.nil_append List.cons_append List.getElem?_cons_zero List.getElem?_cons_succ Bool.and_true Bool.true_and Bool.and_self List.getD_cons_zero List.getD_cons_succ List.getD_nil
@[go_sem] theorem loadC_def (t:TypeId) (cs:List LV) (K:LV→Prop):loadC P t cs K=(tok P t=true∧if tagg P t=true then tsize P t≤cs.length∧K (.agg (cs.take (tsize P t))) else match cs with | x :: _=>K x | []=>False):=rfl
def lE (m:Mem):List (Nat × LE)→Prop
 | []=>True
 | (i,v) :: r=>m i=some v∧lE m r
theorem lE.all:∀ {l:List (Nat × LE)},lE m l→∀ p ∈ l,m p.1=some p.2
 | [],_,p,hp=>by cases hp
 | (i,v) :: r,h,p,hp=>by
  rcases List.mem_cons.1 hp with rfl | hp
  ·exact h.1
  ·exact lE.all h.2 p hp
theorem LH.mid {x y:Code} {Q:Exit→Env→Mem→Prop} (M:Env→Mem→Prop) (h1:LH P N pr x (yX M Q) e m) (h2:∀ e m,M e m→LH P N pr y Q e m):LH P N pr (.seq x y) Q e m :=
 LH.seq (h1.mono fun ex e m h=>by cases ex <;> first | exact h2 e m h | exact h)
theorem aP.Mv {f:Nat} {args:List LV} {lv:LV} {ml dg:List (Nat × LE)} {K:LV→Mem→Prop} (h:aP P f args (Mem.of ml) lv (Mem.of dg)) (hm:lE m ml) (ra:∀ p ∈ dg,(ml.any fun q=>q.1 == p.1)=true ∨ m p.1=.none) (hargs:aU (args.map fun x=>(0,x)) ml=true) (hK:K lv (m.over (Mem.of dg))) (vI:Mem.of ml dj=.none:=by exact rfl):Bd P f args m K:=by
 simp only [aU,Bool.and_eq_true,List.all_eq_true] at hargs
 refine ⟨lv,_,_,h,fun i hi=>?_,fun i hi gV=>?_,fun i hi=>?_,vI,fun i cs hi j hj=>?_,hK⟩
 ·cases hq:Mem.of ml i with
  | none=>exact absurd hq hi
  | some le=>exact hm.all _ (fl hq)
 ·cases hq:Mem.of dg i with
  | none=>exact absurd hq gV
  | some le =>
   rcases ra _ (fl hq) with h1 | h1
   ·exact absurd hi (jf h1)
   ·exact h1
 ·have key:∀ (l:List LV),LV.cj i l=false→∃ x ∈ l,i ∈ x.refs:=by
   intro l
   induction l with
   | nil=>intro h; simp [LV.cj] at h
   | cons x l ih =>
    intro h
    simp only [LV.cj,Bool.and_eq_false_iff] at h
    rcases h with h | h
    ·exact ⟨x,by simp,iP x h⟩
    ·obtain ⟨y,hy,hr⟩:=ih h
     exact ⟨y,by simp [hy],hr⟩
  obtain ⟨x,hx,hr⟩:=key args hi
  exact jf (hargs.1 (0,x) (List.mem_map.2 ⟨x,hx,rfl⟩) i hr)
 ·have h2:=hargs.2 _ (fl hi)
  cases cs with
  | box cs =>
   simp only [List.all_eq_true] at h2
   exact jf (h2 j (c5 cs hj))
  | cU _ _ _ _ _ _ id2 _ =>
   simp only [LE.kN,bne_eq_false_iff_eq] at hj
   subst hj
   exact jf h2
  | _=>simp [LE.kN] at hj
end
end Go.L
namespace Go.L
section
variable {P:Program} {N:Nat} {pr:Nat→Prop} {ro:List Nat} {o:Oper} {ev Hr:Operand→LV} {m:Mem} {K:LV→Mem→Prop}
theorem nj {t:TypeId} {cs:List LV} {K:LV→Prop} (h:loadC P t cs K):∃ lv,K lv∧∀ K':LV→Prop,K' lv→loadC P t cs K':=by
 obtain ⟨ht,h⟩:=h
 by_cases hg:tagg P t=true
 ·rw [if_pos hg] at h
  exact ⟨_,h.2,fun K' hK=>⟨ht,by rw [if_pos hg]; exact ⟨h.1,hK⟩⟩⟩
 ·rw [if_neg hg] at h
  match cs,h with
  | x :: cs,h=>exact ⟨x,h,fun K' hK=>⟨ht,by rw [if_neg hg]; exact hK⟩⟩
theorem Ap {op:BinOp} {k:IntKind} {a b:Int} {K:LV→Prop} (h:oz op k a b K):∃ lv,K lv∧∀ K':LV→Prop,K' lv→oz op k a b K':=by
 cases op <;> simp only [oz] at h ⊢ <;> first | exact h.elim | exact ⟨_,h,fun K' hK=>hK⟩ | exact ⟨_,h.2,fun K' hK=>⟨h.1,hK⟩⟩
theorem xD {m:Mem} {id:Nat} {x:LE}:m.put id x ≠ Mem.none:=fun h=>by
 have:=congrFun h id
 simp [Mem.put,Mem.none] at this
theorem vh (h:LOp P pr ro o ev m K):∃ lv m',K lv m'∧(∀ K':LV→Mem→Prop,K' lv m'→LOp P pr ro o ev m K')∧(m=Mem.none→m'=Mem.none→∀ m0,∀ K':LV→Mem→Prop,K' lv m0→LOp P pr ro o ev m0 K'):=by
 have plain:∀ lv,K lv m→(∀ m0,∀ K':LV→Mem→Prop,K' lv m0→LOp P pr ro o ev m0 K')→∃ lv m',K lv m'∧(∀ K':LV→Mem→Prop,K' lv m'→LOp P pr ro o ev m K')∧(m=Mem.none→m'=Mem.none→∀ m0,∀ K':LV→Mem→Prop,K' lv m0→LOp P pr ro o ev m0 K') :=
  fun lv hK lT=>⟨lv,m,hK,fun K' vB=>lT m K' vB,fun _ _=>lT⟩
 have reader:∀ lv,K lv m→(∀ K':LV→Mem→Prop,K' lv m→LOp P pr ro o ev m K')→(m=Mem.none→False)→∃ lv m',K lv m'∧(∀ K':LV→Mem→Prop,K' lv m'→LOp P pr ro o ev m K')∧(m=Mem.none→m'=Mem.none→∀ m0,∀ K':LV→Mem→Prop,K' lv m0→LOp P pr ro o ev m0 K') :=
  fun lv hK lT hn=>⟨lv,m,hK,lT,fun h0=>(hn h0).elim⟩
 have writer:∀ lv id x,K lv (m.put id x)→(∀ K':LV→Mem→Prop,K' lv (m.put id x)→LOp P pr ro o ev m K')→∃ lv m',K lv m'∧(∀ K':LV→Mem→Prop,K' lv m'→LOp P pr ro o ev m K')∧(m=Mem.none→m'=Mem.none→∀ m0,∀ K':LV→Mem→Prop,K' lv m0→LOp P pr ro o ev m0 K') :=
  fun lv id x hK lT=>⟨lv,_,hK,lT,fun _ h0=>absurd h0 xD⟩
 obtain ⟨d,op,ty,pos,af,g⟩:=o
 cases op
 case move x=>exact plain _ h fun m0 K' hK=>hK
 case assign x=>exact plain _ h fun m0 K' hK=>hK
 case pick c a b =>
  simp only [LOp] at h
  cases hc:ev c <;> simp only [hc] at h
  case bool t=>exact plain _ h fun m0 K' hK=>by simp only [LOp,hc]; exact hK
 case alloc t =>
  simp only [LOp] at h
  split at h
  ·rename_i z i hz
   exact writer _ _ _ h.2 fun K' hK=>by simp only [LOp,hz]; exact ⟨h.1,hK⟩
  ·cases h
 case box t x =>
  simp only [LOp] at h
  split at h
  ·rename_i i
   obtain ⟨hs,h⟩:=h
   split at h
   ·rename_i tR
    exact plain _ h fun m0 K' hK=>by simp only [LOp]; exact ⟨hs,by rw [if_pos tR]; exact hK⟩
   ·rename_i tR
    exact writer _ _ _ h.2 fun K' hK=>by simp only [LOp]; exact ⟨hs,by rw [if_neg tR]; exact ⟨h.1,hK⟩⟩
  ·cases h
 case build t parts =>
  simp only [LOp] at h
  obtain ⟨Mf,h⟩:=h
  split at h
  ·rename_i z hz
   split at h
   ·rename_i cs hf
    exact plain _ h fun m0 K' hK=>by simp only [LOp,hz,hf]; exact ⟨Mf,hK⟩
   ·cases h
  ·cases h
 case buildSlice t len parts =>
  simp only [LOp] at h
  cases lK:telem P t <;> simp only [lK] at h
  case some e =>
   obtain ⟨h1,h2,h3,h4,hK⟩:=h
   exact plain _ hK fun m0 K' hK=>by simp only [LOp,lK]; exact ⟨h1,h2,h3,h4,hK⟩
 case load t a =>
  simp only [LOp] at h
  cases hx:ev a <;> simp only [hx] at h
  case ag cs =>
   obtain ⟨lv,hK,hl⟩:=nj h
   exact plain lv hK fun m0 K' vB=>by simp only [LOp,hx]; exact hl _ vB
  case ptr id o =>
   cases hm:m id with
   | none=>simp [hm] at h
   | some le =>
    cases le with
    | map _ _ _=>simp [hm] at h
    | nest _ _ _ _=>simp [hm] at h
    | cU _ _ _ _ _ _ _ _=>simp [hm] at h
    | dead=>simp [hm] at h
    | arr e k xs=>simp [hm] at h
    | box cs =>
     simp only [hm] at h
     obtain ⟨ho,h⟩:=h
     obtain ⟨lv,hK,hl⟩:=nj h
     exact reader lv hK (fun K' vB=>by simp only [LOp,hx,hm]; exact ⟨ho,hl _ vB⟩) (fun h0=>by rw [h0] at hm; cases hm)
  case bE id n i o =>
   cases hm:m id with
   | none=>simp [hm] at h
   | some le =>
    cases le with
    | map _ _ _=>simp [hm] at h
    | nest _ _ _ _=>simp [hm] at h
    | cU _ _ _ _ _ _ _ _=>simp [hm] at h
    | dead=>simp [hm] at h
    | box cs=>simp [hm] at h
    | arr e k xs =>
     simp only [hm] at h
     obtain ⟨h1,x,h2,h3,h4,h⟩:=h
     obtain ⟨lv,hK,hl⟩:=nj h
     exact reader lv hK (fun K' vB=>by simp only [LOp,hx,hm]; exact ⟨h1,x,h2,h3,h4,hl _ vB⟩) (fun h0=>by rw [h0] at hm; cases hm)
 case store t a x =>
  simp only [LOp] at h
  obtain ⟨h1,h2,h3,h⟩:=h
  cases hx:ev a <;> simp only [hx] at h
  case ptr id o =>
   cases hm:m id with
   | none=>simp [hm] at h
   | some le =>
    cases le with
    | map _ _ _=>simp [hm] at h
    | nest _ _ _ _=>simp [hm] at h
    | cU _ _ _ _ _ _ _ _=>simp [hm] at h
    | dead=>simp [hm] at h
    | arr e k xs=>simp [hm] at h
    | box cs =>
     simp only [hm] at h
     exact writer _ _ _ h.2 fun K' hK=>by simp only [LOp,hx,hm]; exact ⟨h1,h2,h3,h.1,hK⟩
  case bE id n i o =>
   cases hm:m id with
   | none=>simp [hm] at h
   | some le =>
    cases le with
    | map _ _ _=>simp [hm] at h
    | nest _ _ _ _=>simp [hm] at h
    | cU _ _ _ _ _ _ _ _=>simp [hm] at h
    | dead=>simp [hm] at h
    | box cs=>simp [hm] at h
    | arr e k xs =>
     simp only [hm] at h
     obtain ⟨h4,h5,y,z,h6,h7,hK⟩:=h
     exact writer _ _ _ hK fun K' hK=>by simp only [LOp,hx,hm]; exact ⟨h1,h2,h3,h4,h5,y,z,h6,h7,hK⟩
 case nilCheck x =>
  simp only [LOp] at h
  cases hx:ev x <;> simp only [hx] at h
  case ptr=>exact plain _ h fun m0 K' hK=>by simp only [LOp,hx]; exact hK
  case ag=>exact plain _ h fun m0 K' hK=>by simp only [LOp,hx]; exact hK
  case fn=>exact plain _ h fun m0 K' hK=>by simp only [LOp,hx]; exact hK
  case bE id n i o =>
   obtain ⟨h1,hK⟩:=h
   refine reader _ hK (fun K' hK=>by simp only [LOp,hx]; exact ⟨h1,hK⟩) (fun h0=>?_)
   rw [h0] at h1; simp [Mem.none] at h1
 case binOp op t x y t' =>
  simp only [LOp] at h
  cases hx:ev x <;> simp only [hx] at h
  case int k a =>
   cases hy:ev y <;> simp only [hy] at h
   case int k' b =>
    obtain ⟨h1,h⟩:=h
    obtain ⟨lv,hK,hl⟩:=Ap h
    exact plain lv hK fun m0 K' vB=>by simp only [LOp,hx,hy]; exact ⟨h1,hl _ vB⟩
  case bool a =>
   cases hy:ev y <;> simp only [hy] at h
   case bool b =>
    obtain ⟨h1,h⟩:=h
    cases op <;> simp only [] at h
    case eql=>exact plain _ h fun m0 K' hK=>by simp only [LOp,hx,hy]; exact ⟨h1,hK⟩
    case neq=>exact plain _ h fun m0 K' hK=>by simp only [LOp,hx,hy]; exact ⟨h1,hK⟩
  case agg xs =>
   cases hy:ev y <;> simp only [hy] at h
   case agg ys =>
    obtain ⟨b,h1,h⟩:=h
    cases op <;> simp only [] at h
    case eql=>exact plain _ h fun m0 K' hK=>by simp only [LOp,hx,hy]; exact ⟨b,h1,hK⟩
    case neq=>exact plain _ h fun m0 K' hK=>by simp only [LOp,hx,hy]; exact ⟨b,h1,hK⟩
 case unOp op t x =>
  simp only [LOp] at h
  cases op <;> cases hx:ev x <;> simp only [hx] at h
  case neg.int=>exact plain _ h fun m0 K' hK=>by simp only [LOp,hx]; exact hK
  case not.bool=>exact plain _ h fun m0 K' hK=>by simp only [LOp,hx]; exact hK
 case convert s t x =>
  simp only [LOp] at h
  obtain ⟨h1,h⟩:=h
  cases ht:tint P t <;> simp only [ht] at h
  case some k =>
   cases hx:ev x <;> simp only [hx] at h
   case int=>exact plain _ h fun m0 K' hK=>by simp only [LOp,ht,hx]; exact ⟨h1,hK⟩
 case slice t x lo hi mx =>
  simp only [LOp] at h
  obtain ⟨h1,h2,h3,h⟩:=h
  cases hx:ev x <;> simp only [hx] at h
  case ak k xs =>
   obtain ⟨h4,l,q,h5,h6,h7,h8,hK⟩:=h
   exact plain _ hK fun m0 K' hK=>by simp only [LOp,hx]; exact ⟨h1,h2,h3,h4,l,q,h5,h6,h7,h8,hK⟩
  case nil =>
   obtain ⟨h5,h6,hK⟩:=h
   exact plain _ hK fun m0 K' hK=>by simp only [LOp,hx]; exact ⟨h1,h2,h3,h5,h6,hK⟩
 case fieldAddr t x f =>
  simp only [LOp] at h
  cases ng:tfield P t f <;> simp only [ng] at h
  case some q =>
   obtain ⟨off,ft⟩:=q
   obtain ⟨h1,h2,h⟩:=h
   cases hx:ev x <;> simp only [hx] at h
   case ag cs=>exact plain _ h.2 fun m0 K' hK=>by simp only [LOp,ng,hx]; exact ⟨h1,h2,h.1,hK⟩
   case ptr=>exact plain _ h fun m0 K' hK=>by simp only [LOp,ng,hx]; exact ⟨h1,h2,hK⟩
   case bE id n i o =>
    obtain ⟨h3,hK⟩:=h
    refine reader _ hK (fun K' hK=>by simp only [LOp,ng,hx]; exact ⟨h1,h2,h3,hK⟩) (fun h0=>?_)
    rw [h0] at h3; simp [Mem.none] at h3
 case field t x f =>
  simp only [LOp] at h
  cases ng:tfield P t f <;> simp only [ng] at h
  case some q =>
   obtain ⟨off,ft⟩:=q
   cases hx:ev x <;> simp only [hx] at h
   case agg cs =>
    obtain ⟨h1,h⟩:=h
    obtain ⟨lv,hK,hl⟩:=nj h
    exact plain lv hK fun m0 K' vB=>by simp only [LOp,ng,hx]; exact ⟨h1,hl _ vB⟩
 case indexAddr t x i =>
  simp only [LOp] at h
  cases lK:telem P t <;> simp only [lK] at h
  case some e =>
   cases hx:ev x <;> simp only [hx] at h
   case ak k xs =>
    cases hi:ev i <;> simp only [hi] at h
    case int ki n =>
     obtain ⟨h1,h2,h3,y,h4,h5,hK⟩:=h
     exact plain _ hK fun m0 K' hK=>by simp only [LOp,lK,hx,hi]; exact ⟨h1,h2,h3,y,h4,h5,hK⟩
   case arr id l =>
    cases hi:ev i <;> simp only [hi] at h
    case int ki n =>
     cases hm:m id with
     | none=>simp [hm] at h
     | some le =>
      cases le with
      | map _ _ _=>simp [hm] at h
      | nest _ _ _ _=>simp [hm] at h
      | cU _ _ _ _ _ _ _ _=>simp [hm] at h
      | dead=>simp [hm] at h
      | box cs=>simp [hm] at h
      | arr e' k xs =>
       simp only [hm] at h
       obtain ⟨h1,h2,h3,h4,h5,hK⟩:=h
       exact reader _ hK (fun K' hK=>by simp only [LOp,lK,hx,hi,hm]; exact ⟨h1,h2,h3,h4,h5,hK⟩) (fun h0=>by rw [h0] at hm; cases hm)
 case extract t i =>
  simp only [LOp] at h
  cases hx:ev t <;> simp only [hx] at h
  case de vs =>
   obtain ⟨v,h1,hK⟩:=h
   exact plain _ hK fun m0 K' hK=>by simp only [LOp,hx]; exact ⟨v,h1,hK⟩
 case makeFunc f first cap =>
  simp only [LOp] at h
  cases f <;> simp only [] at h
  case func f=>exact plain _ h.2 fun m0 K' hK=>by simp only [LOp]; exact ⟨h.1,hK⟩
 case makeSlice t l c =>
  simp only [LOp] at h
  split at h
  ·rename_i e z n n' i lK hz hx hy
   obtain ⟨h1,h2,h3,h4,h5,h6,hK⟩:=h
   refine writer _ _ _ hK fun K' hK=>?_
   rw [lK] at hz
   simp only [LOp,lK,hz,hx,hy]
   exact ⟨h1,h2,h3,h4,h5,h6,hK⟩
  ·cases h
 case call c =>
  obtain ⟨callee,args,LP⟩:=c
  cases callee
  case value x =>
   simp only [LOp] at h
   cases hx:ev x <;> simp only [hx] at h
   case fn f cap =>
    obtain ⟨Qz,lv,mc,mf,hc,h1,h2,h3,L6,h4,hK⟩:=h
    refine ⟨lv,_,hK,fun K' vB=>by simp only [LOp,hx]; exact ⟨Qz,lv,mc,mf,hc,h1,h2,h3,L6,h4,vB⟩,fun ph gW m0 K' vB=>?_⟩
    subst ph
    have e1:mc=Mem.none:=by
     funext id
     cases hq:mc id with
     | none=>rfl
     | some le=>have:=h1 id (by simp [hq]); rw [hq] at this; cases this
    have e2:mf=Mem.none:=by
     funext id
     have:=congrFun gW id
     unfold Mem.over at this
     cases hq:mf id with
     | none=>rfl
     | some le=>simp [hq,Mem.none] at this
    subst e1; subst e2
    simp only [LOp,hx]
    exact ⟨Qz,lv,Mem.none,Mem.none,hc,fun id bC=>absurd rfl bC,fun id _ bC=>absurd rfl bC,h3,L6,h4,by rw [Mem.uP]; exact vB⟩
  case builtin b =>
   cases b
   case len =>
    simp only [LOp] at h
    split at h
    ·rename_i x t hargs ua
     obtain ⟨h1,h⟩:=h
     cases hx:ev x <;> simp only [hx] at h
     case ak=>exact plain _ h fun m0 K' hK=>by simp only [LOp,hargs,ua,hx]; exact ⟨h1,hK⟩
     case nil=>exact plain _ h fun m0 K' hK=>by simp only [LOp,hargs,ua,hx]; exact ⟨h1,hK⟩
     case arr id n =>
      obtain ⟨h2,hK⟩:=h
      refine reader _ hK (fun K' hK=>by simp only [LOp,hargs,ua,hx]; exact ⟨h1,h2,hK⟩) (fun h0=>?_)
      rw [h0] at h2; simp [Mem.none] at h2
    ·cases h
   case append =>
    simp only [LOp] at h
    split at h
    ·rename_i x y t t' hargs ua
     obtain ⟨h1,h⟩:=h
     cases lK:telem P t <;> simp only [lK] at h
     case some e =>
      obtain ⟨h2,ys,h3,h⟩:=h
      cases hx:ev x <;> simp only [hx] at h
      case arr id n =>
       obtain ⟨h4,h⟩:=h
       cases hm:m id with
       | none=>simp [hm] at h
       | some le =>
        cases le with
        | map _ _ _=>simp [hm] at h
        | nest _ _ _ _=>simp [hm] at h
        | cU _ _ _ _ _ _ _ _=>simp [hm] at h
        | dead=>simp [hm] at h
        | box cs=>simp [hm] at h
        | arr e' k xs =>
         simp only [hm] at h
         obtain ⟨h5,h6,h7,h8,hK⟩:=h
         exact writer _ _ _ hK fun K' hK=>by simp only [LOp,hargs,ua,lK,hx,hm]; exact ⟨h1,h2,ys,h3,h4,h5,h6,h7,h8,hK⟩
      case nil =>
       cases d <;> simp only [] at h
       case some i =>
        obtain ⟨h5,h6,hK⟩:=h
        exact writer _ _ _ hK fun K' hK=>by simp only [LOp,hargs,ua,lK,hx]; exact ⟨h1,h2,ys,h3,h5,h6,hK⟩
    ·cases h
   all_goals exact h.elim
  all_goals exact h.elim
 all_goals exact h.elim
theorem mV (bw:∀ x ∈ o.op.operands,ev x=Hr x) (h:LOp P pr ro o ev m K):LOp P pr ro o Hr m K:=by
 obtain ⟨d,op,ty,pos,af,g⟩:=o
 have Ta:∀ l:List (Nat × Operand),(∀ x ∈ l.map (·.2),ev x=Hr x)→(l.map fun p=>ev p.2)=l.map fun p=>Hr p.2:=fun l hl =>
  List.map_congr_left fun p hp=>hl _ (List.mem_map.2 ⟨p,hp,rfl⟩)
 have OY:∀ l:List (Nat × Operand),(∀ x ∈ l.map (·.2),ev x=Hr x)→(l.map fun p=>(p.1,ev p.2))=l.map fun p=>(p.1,Hr p.2):=fun l hl =>
  List.map_congr_left fun p hp=>by rw [hl _ (List.mem_map.2 ⟨p,hp,rfl⟩)]
 cases op <;> simp only [Op.operands] at bw
 case build t parts=>simp only [LOp] at h ⊢; rw [← OY parts.toList (fun x hx=>bw x (by simpa using hx))]; exact h
 case buildSlice t n parts=>simp only [LOp] at h ⊢; rw [← Ta parts.toList (fun x hx=>bw x (by simpa using hx))]; exact h
 case makeFunc f first cap =>
  simp only [LOp] at h ⊢
  cases f <;> simp only [] at h ⊢
  case func f=>rw [← List.map_congr_left (f:=ev) (g:=Hr) (l:=cap.toList) (fun x hx=>bw x (by simp at hx ⊢; exact .inr hx))]; exact h
 case slice t x lo hi mx =>
  have hx:=bw x (by simp)
  cases lo with
  | none =>
   cases hi with
   | none=>simp only [LOp] at h ⊢; rw [← hx]; exact h
   | some q=>have hq:=bw q (by simp); simp only [LOp] at h ⊢; rw [← hx,← hq]; exact h
  | some r =>
   have hr:=bw r (by simp)
   cases hi with
   | none=>simp only [LOp] at h ⊢; rw [← hx,← hr]; exact h
   | some q=>have hq:=bw q (by simp); simp only [LOp] at h ⊢; rw [← hx,← hr,← hq]; exact h
 case move x=>simp only [LOp] at h ⊢; rw [← bw x (by simp)]; exact h
 case assign x=>simp only [LOp] at h ⊢; rw [← bw x (by simp)]; exact h
 case pick x y z=>simp only [LOp] at h ⊢; rw [← bw x (by simp),← bw y (by simp),← bw z (by simp)]; exact h
 case alloc t=>simp only [LOp] at h ⊢; exact h
 case box t x=>simp only [LOp] at h ⊢; rw [← bw x (by simp)]; exact h
 case load t x=>simp only [LOp] at h ⊢; rw [← bw x (by simp)]; exact h
 case store t x y=>simp only [LOp] at h ⊢; rw [← bw x (by simp),← bw y (by simp)]; exact h
 case nilCheck x=>simp only [LOp] at h ⊢; rw [← bw x (by simp)]; exact h
 case binOp op t x y t'=>simp only [LOp] at h ⊢; rw [← bw x (by simp),← bw y (by simp)]; exact h
 case unOp op t x=>simp only [LOp] at h ⊢; rw [← bw x (by simp)]; exact h
 case convert s t x=>simp only [LOp] at h ⊢; rw [← bw x (by simp)]; exact h
 case fieldAddr t x f=>simp only [LOp] at h ⊢; rw [← bw x (by simp)]; exact h
 case field t x f=>simp only [LOp] at h ⊢; rw [← bw x (by simp)]; exact h
 case indexAddr t x y=>simp only [LOp] at h ⊢; rw [← bw x (by simp),← bw y (by simp)]; exact h
 case extract x i=>simp only [LOp] at h ⊢; rw [← bw x (by simp)]; exact h
 case makeSlice t x y=>simp only [LOp] at h ⊢; rw [← bw x (by simp),← bw y (by simp)]; exact h
 case call c =>
  obtain ⟨callee,args,LP⟩:=c
  have hargs:args.toList.map ev=args.toList.map Hr:=List.map_congr_left fun x hx=>bw x (by simp [Call.operands]; exact .inr (by simpa using hx))
  cases callee
  case value x =>
   simp only [LOp] at h ⊢
   rw [← bw x (by simp [Call.operands]),← hargs]; exact h
  case builtin b =>
   cases b <;> simp only [LOp] at h ⊢
   case len =>
    split at h
    ·rename_i x t hx ht
     rw [← bw x (by simp [Call.operands]; rw [← Array.mem_toList_iff,hx]; simp)]; exact h
    ·cases h
   case append =>
    split at h
    ·rename_i x y t t' hx ht
     rw [← bw x (by simp [Call.operands]; rw [← Array.mem_toList_iff,hx]; simp),← bw y (by simp [Call.operands]; rw [← Array.mem_toList_iff,hx]; simp)]; exact h
    ·cases h
  all_goals exact h.elim
 all_goals exact h.elim
end
end Go.L
namespace Go.L
section
variable {P:Program} {N:Nat} {pr:Nat→Prop} {ro:List Nat} {ops:Array Oper}
def bm (P:Program) (pr:Nat→Prop) (o:Oper) (ev:Operand→LV) (m:Mem) (lv:LV) (m':Mem):Prop :=
 ∀ (c:Cx) (a:Act) (Q:Exit→Act→World→Prop),(∀ x ∈ o.op.operands,au c (ev x) (a.eval x))→bU c m →
  o.wp P a c.w (fun a' w'=>∃ v c',a'=a.put o.dst v∧c'.w=w'∧au c' lv v∧bU c' m'∧Step pr c c') Q
def gd (ops:Array Oper) (o:Oper) (e:Env):Option Bool :=
 match o.guard with
 | .none=>some true
 | some (j,want)=>match (ops[j]?).bind (·.dst) with
  | some g=>match e g with
   | .bool t=>some (t == want)
   | .de []=>some false
   | _=>.none
  | .none=>.none
def fT (md:Nat):Nat:=if md<100000 then md - 1000 else md - 100000
def IC (md:Nat):List Nat:=[(md - 1000000000) % 1000,(md - 1000000000) / 1000 % 1000,(md - 1000000000) / 1000000 % 1000].filter fun i=>!(i == 0)
def qT (P:Program) (pr:Nat→Prop) (o:Oper) (ev:Operand→LV) (ids:List Nat) (m:Mem) (lv:LV) (m':Mem):Prop:=(∀ i,i ∉ ids→m' i=m i)∧∀ m0:Mem,(∀ i,i ∈ ids→m0 i=m i)→bm P pr o ev m0 lv (fun i=>if i ∈ ids then m' i else m0 i)
theorem qT.ok {o:Oper} {ev:Operand→LV} {ids:List Nat} {m m':Mem} {lv:LV} (h:qT P pr o ev ids m lv m'):bm P pr o ev m lv m':=by
 have:=h.2 m (fun _ _=>rfl)
 have he:(fun i=>if i ∈ ids then m' i else m i)=m':=by
  funext i
  by_cases hi:i ∈ ids
  ·simp [hi]
  ·simp [hi,h.1 i hi]
 rwa [he] at this
def JI (P:Program) (pr:Nat→Prop) (ro:List Nat) (o:Oper) (ev:Operand→LV) (id:Nat) (le:LE) (lv:LV):Prop:=∀ m0:Mem,m0 id=some le→∀ K':LV→Mem→Prop,K' lv m0→LOp P pr ro o ev m0 K'
def JJ (P:Program) (pr:Nat→Prop) (ro:List Nat) (o:Oper) (ev:Operand→LV) (id:Nat) (le oB:LE) (lv:LV):Prop:=∀ m0:Mem,m0 id=some le→∀ K':LV→Mem→Prop,K' lv (m0.over (Mem.of [(id,oB)]))→LOp P pr ro o ev m0 K'
def fL (P:Program) (pr:Nat→Prop) (ro:List Nat) (ops:Array Oper) (md:Nat) (o:Oper) (K:Env→Mem→Prop) (e:Env) (m:Mem):Prop :=
 match gd ops o e with
 | some true=>match md with
  | 0=>LOp P pr ro o (cZ e) Mem.none fun lv m'=>m'=Mem.none∧K (e.fC o.dst lv) m
  | 1=>LOp P pr ro o (cZ e) m fun lv m'=>m'=m∧K (e.fC o.dst lv) m
  | 3=>∃ lv m',bm P pr o (cZ e) m lv m'∧K (e.fC o.dst lv) m'
  | 4=>∃ lv,(∀ m0,bm P pr o (cZ e) m0 lv m0)∧K (e.fC o.dst lv) m
  | _=>if md<1000 then LOp P pr ro o (cZ e) m fun lv m'=>K (e.fC o.dst lv) m'
    else if md<100000 then ∃ lv le,m (fT md)=some le∧JI P pr ro o (cZ e) (fT md) le lv∧K (e.fC o.dst lv) m
    else if md<1000000000 then ∃ lv le oB,m (fT md)=some le∧JJ P pr ro o (cZ e) (fT md) le oB lv∧K (e.fC o.dst lv) (m.over (Mem.of [(fT md,oB)]))
    else ∃ lv m',qT P pr o (cZ e) (IC md) m lv m'∧K (e.fC o.dst lv) m'
 | some false=>K (e.fC o.dst (.de [])) m
 | .none=>False
def cA (P:Program) (pr:Nat→Prop) (ro:List Nat) (ops:Array Oper):List (Oper × Nat)→(Env→Mem→Prop)→Env→Mem→Prop
 | [],K=>K
 | (o,md) :: r,K=>fL P pr ro ops md o (cA P pr ro ops r K)
def Out (P:Program) (pr:Nat→Prop) (ro:List Nat) (ops:Array Oper) (o:Oper) (e:Env) (md:Nat) (m:Mem) (lv:LV) (m':Mem):Prop :=
 match gd ops o e with
 | some true=>(md=4∧m'=m∧∀ m0,bm P pr o (cZ e) m0 lv m0) ∨ ((md=3 ∨ 1000000000≤md)∧(md=3→bm P pr o (cZ e) m lv m')∧(1000000000≤md→qT P pr o (cZ e) (IC md) m lv m')) ∨ (1000≤md∧md<100000∧m'=m∧∃ le,m (fT md)=some le∧JI P pr ro o (cZ e) (fT md) le lv) ∨ ((100000≤md∧md<1000000000)∧∃ le oB,m (fT md)=some le∧m'=m.over (Mem.of [(fT md,oB)])∧JJ P pr ro o (cZ e) (fT md) le oB lv) ∨ (md<1000∧md ≠ 3∧md ≠ 4)∧(md=0→m'=m∧∀ m0,∀ K':LV→Mem→Prop,K' lv m0→LOp P pr ro o (cZ e) m0 K')∧(md=1→m'=m)∧∀ K':LV→Mem→Prop,K' lv m'→LOp P pr ro o (cZ e) m K'
 | some false=>lv=.de []∧m'=m
 | .none=>False
theorem zC {md:Nat} {o:Oper} {K:Env→Mem→Prop} {e:Env} {m:Mem} (h:fL P pr ro ops md o K e m):∃ lv m',K (e.fC o.dst lv) m'∧Out P pr ro ops o e md m lv m':=by
 unfold fL at h
 unfold Out
 cases hg:gd ops o e with
 | none=>simp [hg] at h
 | some b =>
  cases b with
  | false=>simp only [hg] at h ⊢; exact ⟨_,_,h,rfl,rfl⟩
  | true =>
   simp only [hg] at h ⊢
   split at h
   ·obtain ⟨lv,m',⟨gW,hK⟩,h1,h2⟩:=vh h
    exact ⟨lv,m,hK,.inr (.inr (.inr (.inr ⟨by simp,fun _=>⟨rfl,h2 rfl gW⟩,by simp,fun K' vB=>h2 rfl gW m K' vB⟩)))⟩
   ·obtain ⟨lv,m',⟨rfl,hK⟩,h1,h2⟩:=vh h
    exact ⟨lv,_,hK,.inr (.inr (.inr (.inr ⟨by simp,by simp,fun _=>rfl,h1⟩)))⟩
   ·obtain ⟨lv,m',h1,hK⟩:=h
    exact ⟨lv,m',hK,.inr (.inl ⟨.inl rfl,fun _=>h1,fun h=>absurd h (by decide)⟩)⟩
   ·obtain ⟨lv,h1,hK⟩:=h
    exact ⟨lv,m,hK,.inl ⟨rfl,rfl,h1⟩⟩
   ·rename_i n0 n1 n3 n4
    split at h
    ·rename_i dN
     obtain ⟨lv,m',hK,h1,h2⟩:=vh h
     exact ⟨lv,m',hK,.inr (.inr (.inr (.inr ⟨⟨dN,by simpa using n3,by simpa using n4⟩,fun h0=>absurd h0 (by simpa using n0),fun h0=>absurd h0 (by simpa using n1),h1⟩)))⟩
    ·rename_i MV
     split at h
     ·rename_i dN
      obtain ⟨lv,le,h1,h2,hK⟩:=h
      exact ⟨lv,m,hK,.inr (.inr (.inl ⟨by omega,dN,rfl,le,h1,h2⟩))⟩
     ·split at h
      ·obtain ⟨lv,le,oB,h1,h2,hK⟩:=h
       exact ⟨lv,_,hK,.inr (.inr (.inr (.inl ⟨by omega,le,oB,h1,rfl,h2⟩)))⟩
      ·obtain ⟨lv,m',h1,hK⟩:=h
       exact ⟨lv,m',hK,.inr (.inl ⟨.inr (by omega),fun h=>absurd h (by simpa using n3),fun _=>h1⟩)⟩
theorem Fy {o:Oper} {e e':Env} (h:∀ t ∈ o.looksAt ops,e t=e' t):∀ x ∈ o.op.operands,cZ e x=cZ e' x:=by
 intro x hx
 cases x with
 | tmp t =>
  refine h t ?_
  unfold Oper.looksAt
  exact List.mem_append.2 (.inl (List.mem_filterMap.2 ⟨.tmp t,by simpa using hx,rfl⟩))
 | const v=>rfl
 | global g=>rfl
 | func f=>rfl
theorem vw {o:Oper} {e e':Env} (h:∀ t ∈ o.looksAt ops,e t=e' t):gd ops o e=gd ops o e':=by
 unfold gd
 cases hg:o.guard with
 | none=>rfl
 | some q =>
  obtain ⟨j,want⟩:=q
  cases hj:(ops[j]?).bind (·.dst) with
  | none=>simp only [hj]
  | some g =>
   simp only [hj]
   rw [h g]
   unfold Oper.looksAt
   refine List.mem_append.2 (.inr ?_)
   simp [hg,hj]
theorem Out.congr {o:Oper} {e e':Env} {md:Nat} {m m':Mem} {lv:LV} (h:∀ t ∈ o.looksAt ops,e t=e' t) (ho:Out P pr ro ops o e md m lv m'):Out P pr ro ops o e' md m lv m':=by
 unfold Out at ho ⊢
 rw [← vw h]
 have hl:=Fy h
 split at ho
 ·rcases ho with ⟨h3,h4,ho⟩ | ⟨h3,ho,hf⟩ | ⟨g1,g2,g3,le,g4,g5⟩ | ⟨g1,le,oB,g2,g3,g4⟩ | ⟨h3,h1,h2,h4⟩
  ·exact .inl ⟨h3,h4,fun m0 c a Q bw hm=>ho m0 c a Q (fun x hx=>by rw [hl x hx]; exact bw x hx) hm⟩
  ·exact .inr (.inl ⟨h3,fun h c a Q bw hm=>ho h c a Q (fun x hx=>by rw [hl x hx]; exact bw x hx) hm,fun h=>⟨(hf h).1,fun m0 ph c a Q bw hm=>(hf h).2 m0 ph c a Q (fun x hx=>by rw [hl x hx]; exact bw x hx) hm⟩⟩)
  ·exact .inr (.inr (.inl ⟨g1,g2,g3,le,g4,fun m0 ph K' hK=>mV hl (g5 m0 ph K' hK)⟩))
  ·exact .inr (.inr (.inr (.inl ⟨g1,le,oB,g2,g3,fun m0 ph K' hK=>mV hl (g4 m0 ph K' hK)⟩)))
  ·exact .inr (.inr (.inr (.inr ⟨h3,fun h0=>⟨(h1 h0).1,fun m0 K' hK=>mV hl ((h1 h0).2 m0 K' hK)⟩,h2,fun K' hK=>mV hl (h4 K' hK)⟩)))
 ·exact ho
 ·exact ho
def rC (o:Oper):Bool:=(match o.op with | .alloc _=>true | _=>false) && o.guard.isNone
def vv (o:Oper):Bool:=(match o.op with | .alloc _=>true | .makeSlice _ _ _=>true | .call c=>(match c.callee with | .value _=>true | _=>false) | _=>false) && o.guard.isNone
def Mj (md:Nat):Bool:=Nat.ble 1000 md && Nat.blt md 100000
def Mi (md:Nat):Bool:=Nat.ble 1000 md && Nat.blt md 1000000000
def pa (md:Nat):List Nat:=if Nat.ble 1000000000 md then IC md else [fT md]
def yV (ops:Array Oper) (x y:Oper × Nat):Bool:=x.1.apart ops y.1 && (x.2 == 0 || y.2 == 0 || (decide (x.2≤1) && decide (y.2≤1)) || (rC y.1 && vv x.1 && x.2 == 2 && y.2 == 2)
 || (Mi x.2 && Mi y.2 && !(fT x.2 == fT y.2)) || ((Mj x.2 || Nat.ble x.2 1) && (Mj y.2 || Nat.ble y.2 1)) || (rC y.1 && Mi x.2 && y.2 == 2) || (x.2 == 4 || y.2 == 4) || (Nat.ble 1000 x.2 && Nat.ble 1000 y.2 && (pa x.2).all fun i=>!(pa y.2).contains i))
theorem rF {m:Mem} {A B:Nat} {x y:LE} (h:A ≠ B):(m.put A x).put B y=(m.put B y).put A x:=by
 funext i
 simp only [Mem.put]
 by_cases h1:i=A
 ·subst h1; simp [h]
 ·simp [h1]
theorem pV {o:Oper} {ev:Operand→LV} {m m':Mem} {lv:LV} {t:TypeId} (ho:o.op=.alloc t) (h:∀ K':LV→Mem→Prop,K' lv m'→LOp P pr ro o ev m K') :
  ∃ z d,tzero P t=some z∧o.dst=some d∧m (100+d)=.none∧lv=.ptr (100+d) 0∧m'=m.put (100+d) (.box z.cells):=by
 have:=h (fun l mm=>lv=l∧m'=mm) ⟨rfl,rfl⟩
 simp only [LOp,ho] at this
 split at this
 ·rename_i z d hz hd
  exact ⟨z,d,hz,hd,this.1,this.2.1,this.2.2⟩
 ·exact this.elim
theorem Co {o:Oper} {ev:Operand→LV} {m m':Mem} {lv:LV} (hf:vv o=true) (h:∀ K':LV→Mem→Prop,K' lv m'→LOp P pr ro o ev m K') {A:Nat} (hA:m' A=.none) (x:LE) :
  m A=.none∧∀ K':LV→Mem→Prop,K' lv (m'.put A x)→LOp P pr ro o ev (m.put A x) K':=by
 simp only [vv,Bool.and_eq_true] at hf
 cases ho:o.op <;> simp only [ho] at hf <;> try (simp at hf; done)
 case alloc t =>
  obtain ⟨z,d,hz,hd,hm,rfl,rfl⟩:=pV ho h
  have ep:100+d ≠ A:=fun he=>by subst he; simp [Mem.put] at hA
  have IP:m A=.none:=by simp only [Mem.put] at hA; rw [if_neg (Ne.symm ep)] at hA; exact hA
  refine ⟨IP,fun K' hK=>?_⟩
  simp only [LOp,ho,hz,hd]
  refine ⟨by simp only [Mem.put]; rw [if_neg ep]; exact hm,?_⟩
  rw [rF (Ne.symm ep)]; exact hK
 case makeSlice t l c =>
  have:=h (fun l mm=>lv=l∧m'=mm) ⟨rfl,rfl⟩
  simp only [LOp,ho] at this
  split at this
  ·rename_i e z n n' d he hz hl hc hd
   obtain ⟨hn,h0,hb,hr,hp,hm,rfl,rfl⟩:=this
   have ep:100+d ≠ A:=fun he=>by subst he; simp [Mem.put] at hA
   have IP:m A=.none:=by simp only [Mem.put] at hA; rw [if_neg (Ne.symm ep)] at hA; exact hA
   refine ⟨IP,fun K' hK=>?_⟩
   simp only [LOp,ho]
   rw [hz,hl,hc,hd,he]
   refine ⟨hn,h0,hb,hr,hp,by simp only [Mem.put]; rw [if_neg ep]; exact hm,?_⟩
   rw [rF (Ne.symm ep)]; exact hK
  ·exact this.elim
 case call c =>
  obtain ⟨cl,args,LP⟩:=c
  cases cl <;> simp only at hf <;> try (simp at hf; done)
  case value y =>
   have:=h (fun l mm=>lv=l∧m'=mm) ⟨rfl,rfl⟩
   simp only [LOp,ho] at this
   cases hy:ev y <;> simp only [hy] at this
   case fn f cap =>
    obtain ⟨Qz,Ul,mc,mf,hc,h1,h2,h3,L6,h4,rfl,rfl⟩:=this
    have Kq:mf A=.none:=by
     cases hq:mf A with
     | none=>rfl
     | some q=>simp [Mem.over,hq] at hA
    have IP:m A=.none:=by simpa [Mem.over,Kq] using hA
    have Vq:mc A=.none:=by
     cases hq:mc A with
     | none=>rfl
     | some q=>have:=h1 A (by simp [hq]); rw [IP,hq] at this; cases this
    refine ⟨IP,fun K' hK=>?_⟩
    simp only [LOp,ho,hy]
    refine ⟨Qz,lv,mc,mf,hc,fun id bC=>?_,fun id bC M0=>?_,h3,L6,h4,?_⟩
    ·have:id ≠ A:=fun he=>by subst he; exact bC Vq
     simp only [Mem.put]; rw [if_neg this]; exact h1 id bC
    ·have:id ≠ A:=fun he=>by subst he; exact M0 Kq
     simp only [Mem.put]; rw [if_neg this]; exact h2 id bC M0
    ·have:(m.put A x).over mf=(m.over mf).put A x:=by
      funext i
      simp only [Mem.over,Mem.put]
      by_cases hi:i=A
      ·subst hi; simp [Kq]
      ·simp only [hi,if_false]
     rw [this]; exact hK
def nL (P:Program) (pr:Nat→Prop) (ro:List Nat) (ops:Array Oper):List (Oper × Nat)→Env→Mem→Env→Mem→Prop
 | [],e,m,e',m'=>e'=e∧m'=m
 | (o,md) :: r,e,m,e',m'=>∃ lv m1,Out P pr ro ops o e md m lv m1∧nL P pr ro ops r (e.fC o.dst lv) m1 e' m'
theorem ku:∀ (l:List (Oper × Nat)) {K:Env→Mem→Prop} {e:Env} {m:Mem},cA P pr ro ops l K e m→∃ e' m',K e' m'∧nL P pr ro ops l e m e' m'
 | [],K,e,m,h=>⟨e,m,h,rfl,rfl⟩
 | (o,md) :: r,K,e,m,h=>by
  simp only [cA] at h
  obtain ⟨lv,m1,h1,ho⟩:=zC h
  obtain ⟨e',m',hK,hc⟩:=ku r h1
  exact ⟨e',m',hK,lv,m1,ho,hc⟩
theorem C0 {e:Env} {x y:Option Nat} {u v:LV} (h:∀ d,x=some d→y ≠ some d):(e.fC x u).fC y v=(e.fC y v).fC x u:=by
 cases x with
 | none=>rfl
 | some a =>
  cases y with
  | none=>rfl
  | some b =>
   have pd:a ≠ b:=fun hh=>h a rfl (by rw [hh])
   funext i
   simp only [Env.fC,Env.put]
   by_cases h1:i=a
   ·subst h1; simp [pd]
   ·simp [h1]
theorem gI {e:Env} {o:Oper} {d:Option Nat} {v:LV} (h:∀ i,d=some i→i ∉ o.looksAt ops):∀ t ∈ o.looksAt ops,(e.fC d v) t=e t:=by
 intro t ht
 cases d with
 | none=>rfl
 | some i =>
  have:t ≠ i:=fun hh=>h i rfl (hh ▸ ht)
  simp [Env.fC,Env.put,this]
theorem sR {o:Oper} {e:Env} {md:Nat} {m m':Mem} {lv:LV} (h:Out P pr ro ops o e md m lv m') (Ab:md≤1):m'=m:=by
 unfold Out at h
 split at h
 ·rcases h with ⟨h3,_⟩ | ⟨h3,_⟩ | ⟨g1,_⟩ | ⟨g1,_⟩ | ⟨_,h1,h2,_⟩
  ·omega
  ·omega
  ·omega
  ·omega
  ·rcases (by omega:md=0 ∨ md=1) with h0 | h0
   ·exact (h1 h0).1
   ·exact h2 h0
 ·exact h.2
 ·exact h.elim
theorem pG {m:Mem} {i:Nat} {le:LE}:m.over (Mem.of [(i,le)])=m.put i le:=by
 funext j
 simp only [Mem.over,Mem.of,Mem.put]
 by_cases h:j=i <;> simp [h]
theorem Gz {o:Oper} {e:Env} {md:Nat} {m m':Mem} {lv:LV} (h:Out P pr ro ops o e md m lv m') (Ab:(Mj md || Nat.ble md 1)=true):m'=m:=by
 by_cases h1:md≤1
 ·exact sR h h1
 ·have hr:1000≤md∧md<100000:=by
   simp only [Mj,Bool.or_eq_true,Bool.and_eq_true,Nat.ble_eq,Nat.blt_eq] at Ab
   omega
  unfold Out at h
  split at h
  ·rcases h with ⟨h3,_⟩ | ⟨h3,_⟩ | ⟨_,_,h3,_⟩ | ⟨g1,_⟩ | ⟨g1,_⟩
   ·omega
   ·omega
   ·exact h3
   ·omega
   ·omega
  ·exact h.2
  ·exact h.elim
theorem ry {o:Oper} {e:Env} {md:Nat} {m m':Mem} {lv:LV} (h:Out P pr ro ops o e md m lv m') (Ab:Mi md=true):(m'=m∧gd ops o e=some false∧lv=.de []) ∨ ∃ le oB,m (fT md)=some le∧m'=m.put (fT md) oB∧∀ m0:Mem,m0 (fT md)=some le→Out P pr ro ops o e md m0 lv (m0.put (fT md) oB):=by
 have TH:1000≤md∧md<1000000000:=by simpa [Mi] using Ab
 have hh:=h
 unfold Out at h
 split at h
 ·rename_i hg
  rcases h with ⟨h3,_⟩ | ⟨h3,_⟩ | ⟨g1,g2,g3,le,g4,g5⟩ | ⟨g1,le,oB,g2,g3,g4⟩ | ⟨g1,_⟩
  ·omega
  ·omega
  ·right
   have self:∀ m0:Mem,m0 (fT md)=some le→m0.put (fT md) le=m0:=fun m0 h0=>by
    funext j; simp only [Mem.put]; split
    ·rename_i hj; subst hj; exact h0.symm
    ·rfl
   refine ⟨le,le,g4,by rw [g3,self m g4],fun m0 h0=>?_⟩
   rw [self m0 h0]
   unfold Out
   rw [hg]
   exact .inr (.inr (.inl ⟨g1,g2,rfl,le,h0,g5⟩))
  ·right
   refine ⟨le,oB,g2,by rw [g3,pG],fun m0 h0=>?_⟩
   unfold Out
   rw [hg]
   exact .inr (.inr (.inr (.inl ⟨g1,le,oB,h0,by rw [pG],g4⟩)))
  ·omega
 ·rename_i hg; exact .inl ⟨h.2,hg,h.1⟩
 ·exact h.elim
theorem Out.skip {o:Oper} {e:Env} {md:Nat} {m:Mem} (hg:gd ops o e=some false):Out P pr ro ops o e md m (.de []) m:=by
 unfold Out; rw [hg]; exact ⟨rfl,rfl⟩
theorem wW {o:Oper} {e:Env} {md:Nat} {m m':Mem} {lv:LV} (h:Out P pr ro ops o e md m lv m') (Ab:1000≤md):(∀ i,i ∉ pa md→m' i=m i)∧∀ m0:Mem,(∀ i,i ∈ pa md→m0 i=m i)→Out P pr ro ops o e md m0 lv (fun i=>if i ∈ pa md then m' i else m0 i):=by
 by_cases hd:md<1000000000
 ·have hf:pa md=[fT md]:=by
   have:Nat.ble 1000000000 md=false:=by
    cases hb:Nat.ble 1000000000 md with
    | false=>rfl
    | true=>have:=Nat.le_of_ble_eq_true hb; omega
   simp [pa,this]
  rw [hf]
  rcases ry h (by simp [Mi]; omega) with ⟨rfl,hg,rfl⟩ | ⟨le,oB,g1,rfl,g3⟩
  ·refine ⟨fun _ _=>rfl,fun m0 ph=>?_⟩
   have:(fun i=>if i ∈ [fT md] then m' i else m0 i)=m0:=by
    funext i
    by_cases hi:i ∈ [fT md]
    ·simp [hi,ph i hi]
    ·simp [hi]
   rw [this]; exact Out.skip hg
  ·refine ⟨fun i hi=>by simp at hi; simp [Mem.put,hi],fun m0 ph=>?_⟩
   have:=g3 m0 (by rw [ph _ (by simp)]; exact g1)
   refine Eq.mp (congrArg _ ?_) this
   funext i
   by_cases hi:i=fT md
   ·subst hi; simp [Mem.put]
   ·simp [Mem.put,hi]
 ·have hf:pa md=IC md:=by
   have:Nat.ble 1000000000 md=true:=Nat.ble_eq_true_of_le (by omega)
   simp [pa,this]
  rw [hf]
  have hh:=h
  unfold Out at h
  split at h
  ·rename_i hg
   rcases h with ⟨h3,_⟩ | ⟨h3,_,h4⟩ | ⟨g1,g2,_⟩ | ⟨g1,_⟩ | ⟨g1,_⟩
   ·omega
   ·have h4:=h4 (by omega)
    refine ⟨h4.1,fun m0 ph=>?_⟩
    unfold Out
    rw [hg]
    refine .inr (.inl ⟨.inr (by omega),fun h=>by omega,fun _=>⟨fun i hi=>by simp [hi],fun m1 iv=>?_⟩⟩)
    have:=h4.2 m1 (fun i hi=>(iv i hi).trans (ph i hi))
    refine Eq.mp (congrArg _ ?_) this
    funext i
    by_cases hi:i ∈ IC md <;> simp [hi]
   ·omega
   ·omega
   ·omega
  ·rename_i hg
   obtain ⟨rfl,rfl⟩:=h
   refine ⟨fun _ _=>rfl,fun m0 ph=>?_⟩
   have:(fun i=>if i ∈ IC md then m' i else m0 i)=m0:=by
    funext i
    by_cases hi:i ∈ IC md
    ·simp [hi,ph i hi]
    ·simp [hi]
   rw [this]; unfold Out; rw [hg]; exact ⟨rfl,rfl⟩
  ·exact h.elim
theorem FC {o:Oper} {e:Env} {m m':Mem} {lv:LV} (h:Out P pr ro ops o e 4 m lv m'):m'=m∧∀ m0,Out P pr ro ops o e 4 m0 lv m0:=by
 have hh:=h
 unfold Out at h
 split at h
 ·rename_i hg
  rcases h with ⟨_,h1,h2⟩ | ⟨h3,_⟩ | ⟨g1,_⟩ | ⟨g1,_⟩ | ⟨g1,_⟩
  ·refine ⟨h1,fun m0=>?_⟩
   unfold Out
   rw [hg]
   exact .inl ⟨rfl,rfl,h2⟩
  ·omega
  ·omega
  ·omega
  ·omega
 ·rename_i hg
  refine ⟨h.2,fun m0=>?_⟩
  unfold Out
  rw [hg]
  exact ⟨h.1,rfl⟩
 ·exact h.elim
theorem Out.any {o:Oper} {e:Env} {m m' m0:Mem} {lv:LV} (h:Out P pr ro ops o e 0 m lv m'):Out P pr ro ops o e 0 m0 lv m0:=by
 unfold Out at h ⊢
 split at h
 ·rename_i hg
  rcases h with ⟨h3,_⟩ | ⟨h3,_⟩ | ⟨g1,_⟩ | ⟨g1,_⟩ | ⟨_,h1,h2,h3⟩
  ·omega
  ·omega
  ·omega
  ·omega
  ·exact .inr (.inr (.inr (.inr ⟨by simp,fun _=>⟨rfl,(h1 rfl).2⟩,by simp,fun K' hK=>(h1 rfl).2 m0 K' hK⟩)))
 ·exact ⟨h.1,rfl⟩
 ·exact h.elim
theorem GP {x y:Oper × Nat} (hs:yV ops x y=true) {r:List (Oper × Nat)} {e e':Env} {m m':Mem} (h:nL P pr ro ops (x :: y :: r) e m e' m'):nL P pr ro ops (y :: x :: r) e m e' m':=by
 obtain ⟨o,a⟩:=x
 obtain ⟨q,b⟩:=y
 simp only [yV,Bool.and_eq_true,Bool.or_eq_true,beq_iff_eq,decide_eq_true_eq] at hs
 obtain ⟨JV,Ab⟩:=hs
 obtain ⟨U2,U3,L8⟩:=Oper.apart_spec JV
 obtain ⟨lv,m1,ho,wG,m2,hq,hc⟩:=h
 have oW:Out P pr ro ops q e b m1 wG m2:=hq.congr (gI U2)
 have rb:Out P pr ro ops o (e.fC q.dst wG) a m lv m1:=ho.congr fun t ht=>(gI L8 t ht).symm
 rw [C0 U3] at hc
 rcases Ab with (((((((h0 | h0) | ⟨h1,h2⟩) | ⟨⟨⟨zg,L9⟩,Rq⟩,JY⟩) | ⟨⟨hx,hy⟩,ep⟩) | ⟨hx,hy⟩) | ⟨⟨zg,hx⟩,JY⟩) | h4) | ⟨⟨hx,hy⟩,Cw⟩
 ·subst h0
  have:=sR ho (by omega)
  subst this
  exact ⟨wG,m2,oW,lv,m2,rb.any,hc⟩
 ·subst h0
  have:=sR hq (by omega)
  subst this
  exact ⟨wG,m,oW.any,lv,m2,rb,hc⟩
 ·have e1:=sR ho h1
  have e2:=sR hq h2
  subst e1; subst e2
  exact ⟨wG,m2,oW,lv,m2,rb,hc⟩
 ·subst Rq; subst JY
  have Rs:=zg
  have RC:=L9
  simp only [rC,vv,Bool.and_eq_true,Option.isNone_iff_eq_none] at zg L9
  have II:∀ e,gd ops o e=some true:=fun e=>by simp [gd,L9.2]
  have MX:∀ e,gd ops q e=some true:=fun e=>by simp [gd,zg.2]
  unfold Out at oW rb
  simp only [II,MX] at oW rb
  replace oW:=((((oW.resolve_left (fun h3=>by omega)).resolve_left (fun h3=>by have:=h3.1; omega)).resolve_left (fun h3=>by omega)).resolve_left (fun h3=>by omega)).2
  replace rb:=((((rb.resolve_left (fun h3=>by omega)).resolve_left (fun h3=>by have:=h3.1; omega)).resolve_left (fun h3=>by omega)).resolve_left (fun h3=>by omega)).2
  cases DN:q.op <;> simp only [DN] at zg <;> try (simp at zg; done)
  case alloc t =>
   obtain ⟨z,d,hz,hd,iv,rfl,rfl⟩:=pV DN oW.2.2
   obtain ⟨IP,RD⟩:=Co RC rb.2.2 iv (.box z.cells)
   refine ⟨.ptr (100+d) 0,m.put (100+d) (.box z.cells),?_,lv,m1.put (100+d) (.box z.cells),?_,hc⟩
   ·unfold Out
    simp only [MX]
    refine .inr (.inr (.inr (.inr ⟨by simp,by simp,by simp,fun K' hK=>?_⟩)))
    simp only [LOp,DN,hz,hd]
    exact ⟨IP,hK⟩
   ·unfold Out
    simp only [II]
    exact .inr (.inr (.inr (.inr ⟨by simp,by simp,by simp,RD⟩)))
 ·have Ae:fT a ≠ fT b:=by simpa using ep
  rcases ry ho hx with ⟨rfl,hg,rfl⟩ | ⟨le,oB,g1,rfl,g3⟩
  ·exact ⟨wG,m2,oW,_,m2,Out.skip (by rw [vw (ops:=ops) (o:=o) (e:=e.fC q.dst wG) (e':=e) (gI L8)]; exact hg),hc⟩
  ·rcases ry oW hy with ⟨rfl,hg,rfl⟩ | ⟨lf,S7,k1,rfl,k3⟩
   ·exact ⟨_,m,Out.skip hg,lv,_,rb,hc⟩
   ·have VZ:m (fT b)=some lf:=by simpa [Mem.put,Ne.symm Ae] using k1
    refine ⟨wG,m.put (fT b) S7,k3 m VZ,lv,(m.put (fT b) S7).put (fT a) oB,?_,by rw [rF (Ne.symm Ae)]; exact hc⟩
    exact (g3 (m.put (fT b) S7) (by simpa [Mem.put,Ae] using g1)).congr fun t ht=>(gI L8 t ht).symm
 ·have e1:=Gz ho (by simpa using hx)
  have e2:=Gz hq (by simpa using hy)
  subst e1; subst e2
  exact ⟨wG,m2,oW,lv,m2,rb,hc⟩
 ·subst JY
  have Rs:=zg
  simp only [rC,Bool.and_eq_true,Option.isNone_iff_eq_none] at zg
  have MX:∀ e,gd ops q e=some true:=fun e=>by simp [gd,zg.2]
  unfold Out at oW
  simp only [MX] at oW
  replace oW:=((((oW.resolve_left (fun h3=>by omega)).resolve_left (fun h3=>by have:=h3.1; omega)).resolve_left (fun h3=>by omega)).resolve_left (fun h3=>by omega)).2
  cases DN:q.op <;> simp only [DN] at zg <;> try (simp at zg; done)
  case alloc t =>
   obtain ⟨z,d,hz,hd,iv,rfl,rfl⟩:=pV DN oW.2.2
   have MK:∀ m0:Mem,m0 (100+d)=.none→Out P pr ro ops q e 2 m0 (.ptr (100+d) 0) (m0.put (100+d) (.box z.cells)):=fun m0 h0=>by
    unfold Out
    simp only [MX]
    refine .inr (.inr (.inr (.inr ⟨by simp,by simp,by simp,fun K' hK=>?_⟩)))
    simp only [LOp,DN,hz,hd]
    exact ⟨h0,hK⟩
   rcases ry ho hx with ⟨rfl,hg,rfl⟩ | ⟨le,oB,g1,rfl,g3⟩
   ·exact ⟨_,_,MK _ iv,_,_,Out.skip (by rw [vw (ops:=ops) (o:=o) (e':=e) (gI L8)]; exact hg),hc⟩
   ·have Ae:fT a ≠ 100+d:=fun h=>by rw [← h] at iv; simp [Mem.put] at iv
    have ph:m (100+d)=.none:=by simpa [Mem.put,Ne.symm Ae] using iv
    refine ⟨_,_,MK m ph,lv,(m.put (100+d) (.box z.cells)).put (fT a) oB,?_,by rw [rF (Ne.symm Ae)]; exact hc⟩
    exact (g3 (m.put (100+d) (.box z.cells)) (by simpa [Mem.put,Ae] using g1)).congr fun t ht=>(gI L8 t ht).symm
 ·rcases h4 with h4 | h4
  ·subst h4
   obtain ⟨rfl,lT⟩:=FC rb
   exact ⟨wG,m2,oW,lv,m2,lT m2,hc⟩
  ·subst h4
   obtain ⟨rfl,lT⟩:=FC oW
   exact ⟨wG,m,lT m,lv,_,rb,hc⟩
 ·obtain ⟨f1,f2⟩:=wW ho (by simpa using hx)
  obtain ⟨k1,k2⟩:=wW oW (by simpa using hy)
  have Rz:∀ i,i ∈ pa a→i ∉ pa b:=fun i hi=>by simpa using List.all_eq_true.1 Cw i hi
  refine ⟨wG,_,k2 m (fun i hi=>(f1 i (fun hj=>Rz i hj hi)).symm),lv,m2,?_,hc⟩
  have:=f2 (fun i=>if i ∈ pa b then m2 i else m i) (fun i hi=>by simp [Rz i hi])
  refine (Eq.mp (congrArg _ ?_) this).congr fun t ht=>(gI L8 t ht).symm
  funext i
  by_cases h1:i ∈ pa a
  ·simp [h1,k1 i (Rz i h1)]
  ·by_cases h2:i ∈ pa b
   ·simp [h1,h2]
   ·simp [h1,h2,k1 i h2,f1 i h1]
theorem oE {y:Oper × Nat}:∀ (l r:List (Oper × Nat)) {e e':Env} {m m':Mem},(∀ x ∈ l,yV ops x y=true)→nL P pr ro ops (l++y :: r) e m e' m'→nL P pr ro ops (y :: (l++r)) e m e' m'
 | [],r,e,e',m,m',_,h=>h
 | x :: l,r,e,e',m,m',hs,h=>by
  obtain ⟨o,a⟩:=x
  obtain ⟨lv,m1,ho,hc⟩:=h
  have:=oE l r (fun z hz=>hs z (by simp [hz])) hc
  exact GP (hs _ (by simp)) ⟨lv,m1,ho,this⟩
theorem wM {o:Oper} {md:Nat} {e:Env} {m m':Mem} {lv:LV} (hd:∀ q ∈ ops,∀ i,q.dst=some i→i<N) (HF:∀ i,o.dst=some i→i<N) (h:Out P pr ro ops o e md m lv m') (c:Cx) (a:Act) (R:Act→World→Prop) (Q:Exit→Act→World→Prop) (hr:lS N c e m a)
  (hR:∀ a' (c':Cx),lS N c' (e.fC o.dst lv) m' a'→Step pr c c'→R a' c'.w) :
  if Region.wanted o (yielded ops a.tmps) then o.wp P a c.w R Q ∨ (o.asks P a c.w∧LetsOut Q) else R (a.put o.dst undef) c.w:=by
 have IX:∀ b,gd ops o e=some b→Region.wanted o (yielded ops a.tmps)=b:=by
  intro b hb
  unfold gd at hb
  split at hb
  ·rename_i hg; cases hb; simp [Region.wanted,hg]
  ·rename_i j want hg
   split at hb
   ·rename_i g hj
    cases ht:e g <;> simp only [ht] at hb
    case bool t=>cases hb; exact ny hr hd hg hj ht
    case de vs =>
     cases vs with
     | cons x xs=>cases hb
     | nil=>cases hb; exact qP hr hd hg hj ht
    all_goals cases hb
   ·cases hb
 unfold Out at h
 split at h
 ·rename_i hg
  rw [IX true hg,if_pos rfl]
  have hL:(∀ K':LV→Mem→Prop,K' lv m'→LOp P pr ro o (cZ e) m K')→(o.wp P a c.w R Q ∨ (o.asks P a c.w∧LetsOut Q)):=fun hh=>by
   obtain ⟨Ul,m0,⟨rfl,rfl⟩,gv⟩:=kT (hh (fun l mm=>l=lv∧mm=m') ⟨rfl,rfl⟩)
   left
   refine Oper.wp_mono ?_ (gv c a Q hr.ev hr.mem)
   rintro a' w' ⟨v,c',rfl,rfl,hv,gW,hs⟩
   exact hR _ c' (hr.put hs gW HF hv) hs
  rcases h with ⟨_,rfl,gv⟩ | ⟨h3,gv,hf⟩ | ⟨_,_,rfl,le,g4,g5⟩ | ⟨_,le,oB,g2,rfl,g4⟩ | ⟨_,h⟩
  ·left
   refine Oper.wp_mono ?_ (gv _ c a Q (fun x _=>hr.ev x) hr.mem)
   rintro a' w' ⟨v,c',rfl,rfl,hv,gW,hs⟩
   exact hR _ c' (hr.put hs gW HF hv) hs
  ·left
   refine Oper.wp_mono ?_ ((h3.elim gv (fun h=>(hf h).ok)) c a Q (fun x _=>hr.ev x) hr.mem)
   rintro a' w' ⟨v,c',rfl,rfl,hv,gW,hs⟩
   exact hR _ c' (hr.put hs gW HF hv) hs
  ·exact hL fun K' hK=>g5 _ g4 K' hK
  ·exact hL fun K' hK=>g4 m g2 K' hK
  obtain ⟨Ul,m0,⟨rfl,rfl⟩,gv⟩:=kT (h.2.2 (fun l mm=>l=lv∧mm=m') ⟨rfl,rfl⟩)
  left
  refine Oper.wp_mono ?_ (gv c a Q hr.ev hr.mem)
  rintro a' w' ⟨v,c',rfl,rfl,hv,gW,hs⟩
  exact hR _ c' (hr.put hs gW HF hv) hs
 ·rename_i hg
  obtain ⟨rfl,rfl⟩:=h
  rw [IX false hg,if_neg (by simp)]
  exact hR _ c (hr.put (Step.refl pr c) hr.mem HF (oP c)) (Step.refl pr c)
 ·exact h.elim
def ahead (ops:Array Oper):Nat→Nat→Nat→Bool
 | 0,_,_=>false
 | f+1,k,i=>((ops[i]?).map fun o=>o.after.toList.any fun e=>Region.binds .any e && (e.on == k || ahead ops f k e.on)).getD false
def zL (ops:Array Oper) (ei:List Nat):Bool :=
 (List.range ops.size).all fun i=>match ops[i]? with
  | some o=>(o.after.toList.all fun e=>!Region.binds .any e || decide (e.on<i)) && (List.range i).all fun k=>match ops[k]? with
   | some q=>yV ops (q,ei.getD k 2) (o,ei.getD i 2) || ahead ops 6 k i
   | .none=>true
  | .none=>true
theorem jz {aO:Array Bool} (ll:∀ i o,ops[i]?=some o→aO.getD i true=true→∀ e ∈ o.after,Region.binds .any e=true→aO.getD e.on false=true) (eY:aO.size=ops.size):∀ (f k i:Nat) (o:Oper),ops[i]?=some o→(∀ e ∈ o.after,Region.binds .any e=true→aO.getD e.on false=true)→ahead ops f k i=true→aO.getD k false=true
 | 0,k,i,o,_,_,h=>by simp [ahead] at h
 | f+1,k,i,o,ho,p4,h=>by
  simp only [ahead,ho,Option.map_some,Option.getD_some,List.any_eq_true,Bool.and_eq_true,Bool.or_eq_true,beq_iff_eq] at h
  obtain ⟨e,he,hb,hk⟩:=h
  have he:e ∈ o.after:=by simpa using he
  have hl:=p4 e he hb
  rcases hk with hk | hk
  ·subst hk; exact hl
  ·have dN:e.on<aO.size:=by
    rcases Nat.lt_or_ge e.on aO.size with h' | h'
    ·exact h'
    ·simp [Array.getElem?_eq_none h'] at hl
   have Vx:∃ q,ops[e.on]?=some q:=⟨ops[e.on]'(by omega),by simp [eY ▸ dN]⟩
   obtain ⟨q,hq⟩:=Vx
   exact jz ll eY f k e.on q hq (ll e.on q hq (by simpa [dN] using hl)) hk
def left (ops:Array Oper) (aO:Array Bool):List Nat:=(List.range ops.size).filter fun i=>!aO.getD i true
theorem LH.B2 {id:Nat} {l:List Oper} {Q:Exit→Env→Mem→Prop} {e e':Env} {m m':Mem} (Ac:P.follows .mixedOrders=true) (ro:List Nat) (ei:List Nat) (hd:od N l=true) (gv:zL l.toArray ei=true)
  (hc:nL P pr ro l.toArray ((List.range l.length).map fun i=>(l.getD i default,ei.getD i 2)) e m e' m') (hK:Q .normal e' m'):LH P N pr (.region id l.toArray true) Q e m:=by
 refine ⟨.normal,e',m',fun c a hr=>?_,hK⟩
 refine wp_region_any Ac ?_
 have MQ:=rz hd
 have key : ∀ (fuel : Nat) (aO : Array Bool) (e0 : Env) (m0 : Mem) (c0 : Cx) (a0 : Act), aO.size = l.toArray.size → (left l.toArray aO).length ≤ fuel →
   (∀ i o,l.toArray[i]?=some o→aO.getD i true=true→∀ e ∈ o.after,Region.binds .any e=true→aO.getD e.on false=true) →
   nL P pr ro l.toArray ((left l.toArray aO).map fun i=>(l.getD i default,ei.getD i 2)) e0 m0 e' m'→lS N c0 e0 m0 a0→Grow pr c c0 →
   wpAny P .any l.toArray (fun x a' w'=>x=.normal∧∃ c':Cx,c'.w=w'∧lS N c' e' m' a'∧Grow pr c c') fuel aO a0 c0.w:=by
  have xd:=List.all_eq_true.1 gv
  have ox:∀ aO:Array Bool,∀ i ∈ Region.ready .any l.toArray aO,i ∈ left l.toArray aO∧∀ o,l.toArray[i]?=some o→∀ e ∈ o.after,Region.binds .any e=true→aO.getD e.on false=true:=by
   intro aO i hi
   unfold Region.ready at hi
   simp only [List.mem_filter,Bool.and_eq_true] at hi
   refine ⟨by unfold left; exact List.mem_filter.2 ⟨hi.1,hi.2.1⟩,fun o ho e he hb=>?_⟩
   have h2:=hi.2.2
   rw [ho] at h2
   simp only [Option.map_some,Option.getD_some] at h2
   have:=(Array.all_eq_true_iff_forall_mem.1 h2) e he
   simpa [hb] using this
  have oo:∀ (aO:Array Bool) (e0:Env) (m0:Mem) (c0:Cx) (a0:Act),left l.toArray aO=[]→nL P pr ro l.toArray ((left l.toArray aO).map fun i=>(l.getD i default,ei.getD i 2)) e0 m0 e' m'→lS N c0 e0 m0 a0→Grow pr c c0→(∃ c':Cx,c'.w=c0.w∧lS N c' e' m' a0∧Grow pr c c'):=by
   intro aO e0 m0 c0 a0 hl zh E3 vD
   rw [hl] at zh
   obtain ⟨rfl,rfl⟩:=zh
   exact ⟨c0,rfl,E3,vD⟩
  intro fuel
  induction fuel with
  | zero =>
   intro aO e0 m0 c0 a0 eY hlen ll zh E3 vD
   have hl:left l.toArray aO=[]:=List.eq_nil_of_length_eq_zero (by omega)
   refine ⟨?_,rfl,oo aO e0 m0 c0 a0 hl zh E3 vD⟩
   rw [List.eq_nil_iff_forall_not_mem]
   intro i hi
   have:=(ox aO i hi).1
   rw [hl] at this; cases this
  | succ fuel ih =>
   intro aO e0 m0 c0 a0 eY hlen ll zh E3 vD
   have E1:(left l.toArray aO).Pairwise (·<·):=by unfold left; exact List.Pairwise.filter _ List.pairwise_lt_range
   refine ⟨fun pj=>?_,fun i hi=>?_⟩
   ·refine ⟨rfl,oo aO e0 m0 c0 a0 ?_ zh E3 vD⟩
    cases hl:left l.toArray aO with
    | nil=>rfl
    | cons i r =>
     exfalso
     have xi:i ∈ left l.toArray aO:=by rw [hl]; simp
     have gu:=xi
     unfold left at gu
     simp only [List.mem_filter,List.mem_range] at gu
     have dN:=gu.1
     have sH:l.toArray[i]?=some (l.toArray[i]'dN):=by simp [dN]
     have M3:i ∈ Region.ready .any l.toArray aO:=by
      unfold Region.ready
      simp only [List.mem_filter,List.mem_range,Bool.and_eq_true]
      refine ⟨dN,gu.2,?_⟩
      rw [sH]
      simp only [Option.map_some,Option.getD_some]
      rw [Array.all_eq_true_iff_forall_mem]
      intro e he
      by_cases hb:Region.binds .any e=true
      ·have h1:=xd i (by simpa using dN)
       rw [sH] at h1
       simp only [Bool.and_eq_true,List.all_eq_true] at h1
       have h2:=h1.1 e (by simpa using he)
       simp only [hb,Bool.not_true,Bool.false_or,decide_eq_true_eq] at h2
       have h3:e.on ∉ left l.toArray aO:=by
        rw [hl]
        intro hm
        rw [hl] at E1
        rcases List.mem_cons.1 hm with h4 | h4
        ·omega
        ·have:=(List.pairwise_cons.1 E1).1 _ h4; omega
       unfold left at h3
       simp only [List.mem_filter,List.mem_range,not_and] at h3
       have h4:=h3 (by omega)
       have h5:e.on<aO.size:=by omega
       simp only [hb,Bool.not_true,Bool.false_or]
       simpa [h5] using h4
      ·simp [hb]
     rw [pj] at M3; cases M3
   ·obtain ⟨xi,p4⟩:=ox aO i hi
    have gu:=xi
    unfold left at gu
    simp only [List.mem_filter,List.mem_range] at gu
    have dN:=gu.1
    have Kk:i<l.length:=by simpa using dN
    have sH:l.toArray[i]?=some (l.getD i default):=by simp [Kk]
    obtain ⟨pre,post,jo⟩:=List.append_of_mem xi
    rw [jo] at E1
    have sJ:∀ k ∈ pre,k<i:=fun k hk=>(List.pairwise_append.1 E1).2.2 k hk i (by simp)
    have vF:∀ k ∈ post,i<k:=fun k hk=>(List.pairwise_cons.1 (List.pairwise_append.1 E1).2.1).1 k hk
    have sE:left l.toArray (aO.setIfInBounds i true)=pre++post:=by
     have e1:left l.toArray (aO.setIfInBounds i true)=(left l.toArray aO).filter fun k=>k != i:=by
      unfold left
      rw [List.filter_filter]
      apply List.filter_congr
      intro k hk
      by_cases xj:k=i
      ·subst xj
       have:k<aO.size:=by omega
       simp [this]
      ·simp [Array.getElem?_setIfInBounds_ne (Ne.symm xj),xj]
     rw [e1,jo,List.filter_append,List.filter_cons]
     simp only [bne_self_eq_false,Bool.false_eq_true,if_false]
     rw [List.filter_eq_self.2 (fun k hk=>by have:=sJ k hk; simp; omega),List.filter_eq_self.2 (fun k hk=>by have:=vF k hk; simp; omega)]
    rw [jo,List.map_append,List.map_cons] at zh
    have z8:=oE _ _ (by
     intro x hx
     simp only [List.mem_map] at hx
     obtain ⟨k,hk,rfl⟩:=hx
     have h1:=xd i (by simpa using dN)
     rw [sH] at h1
     simp only [Bool.and_eq_true,List.all_eq_true] at h1
     have xj:=sJ k hk
     have h2:=h1.2 k (by simpa using xj)
     have EW:l.toArray[k]?=some (l.getD k default):=by simp [show k<l.length by omega]
     rw [EW] at h2
     simp only [Bool.or_eq_true] at h2
     rcases h2 with h2 | h2
     ·exact h2
     ·exfalso
      have h3:=jz ll eY 6 k i _ sH (p4 _ sH) h2
      have h4:k ∈ left l.toArray aO:=by rw [jo]; simp [hk]
      unfold left at h4
      simp only [List.mem_filter,List.mem_range] at h4
      have h5:k<aO.size:=by omega
      have h6:=h4.2
      simp [h5] at h3 h6
      rw [h3] at h6; cases h6) zh
    obtain ⟨lv,m1,ov,jy⟩:=z8
    unfold wpOp
    rw [sH]
    simp only
    refine wM MQ (MQ _ (Array.mem_of_getElem? sH)) ov c0 a0 _ _ E3 ?_
    intro a' c' tZ E6
    refine ih (aO.setIfInBounds i true) _ m1 c' a' (by simpa using eY) ?_ ?_ ?_ tZ (vD.trans E6.grow)
    ·rw [sE]
     rw [jo] at hlen
     simp at hlen ⊢; omega
    ·intro j o Ng hj e he hb
     have iE:∀ q,aO.getD q false=true→(aO.setIfInBounds i true).getD q false=true:=by
      intro q hq
      by_cases Nl:q=i
      ·subst Nl
       have:q<aO.size:=by omega
       simp [this]
      ·simpa [Array.getElem?_setIfInBounds_ne (Ne.symm Nl)] using hq
     apply iE
     by_cases HB:j=i
     ·subst HB; exact p4 o Ng e he hb
     ·refine ll j o Ng ?_ e he hb
      simpa [Array.getElem?_setIfInBounds_ne (Ne.symm HB)] using hj
    ·rw [sE,List.map_append]; exact jy
 have hY:left l.toArray (Array.replicate l.toArray.size false)=List.range l.length:=by
  unfold left
  rw [List.filter_eq_self.2]
  ·simp
  ·intro i hi
   simp at hi
   simp [hi]
 have tZ:lS N ⟨{ c.w with drawn:=c.w.drawn+1 },c.B,c.O,c.Q⟩ e m a:=by
  obtain ⟨iv,Sl⟩:=hr.mem.ext (pr:=pr) { c.w with drawn:=c.w.drawn+1 } rfl rfl rfl (Nat.le_succ _) (Nat.le_refl _) (fun _ _=>rfl)
  exact ⟨fun i=>Sl.wg (hr.env i),iv,hr.size,hr.defers⟩
 have sA:Grow pr c ⟨{ c.w with drawn:=c.w.drawn+1 },c.B,c.O,c.Q⟩:=(hr.mem.ext (pr:=pr) { c.w with drawn:=c.w.drawn+1 } rfl rfl rfl (Nat.le_succ _) (Nat.le_refl _) (fun _ _=>rfl)).2.grow
 refine key l.toArray.size (Array.replicate l.toArray.size false) e m ⟨{ c.w with drawn:=c.w.drawn+1 },c.B,c.O,c.Q⟩ a (by simp) (by rw [hY]; simp) ?_ (by rw [hY]; exact hc) tZ sA
 intro i o ho hl
 have:i<l.toArray.size:=by
  rcases Nat.lt_or_ge i l.toArray.size with h' | h'
  ·exact h'
  ·simp at h'; simp [List.getElem?_eq_none h'] at ho
 simp at this
 simp [this] at hl
theorem qm (l:List Oper) (ei:List Nat) (h:ei.length=l.length):((List.range l.length).map fun i=>(l.getD i default,ei.getD i 2))=l.zip ei:=by
 apply List.ext_getElem?
 intro i
 simp only [List.getElem?_map,List.zip,List.getElem?_zipWith]
 by_cases hi:i<l.length
 ·have gV:i<ei.length:=by omega
  simp [hi,gV]
 ·simp [hi]
theorem LH.c7 {id:Nat} {l:List Oper} {y:Code} {Q:Exit→Env→Mem→Prop} {e:Env} {m:Mem} (Ac:P.follows .mixedOrders=true) (ro:List Nat) (ei:List Nat) (el:List (Nat × LV)) (ml:List (Nat × LE)) (hlen:ei.length=l.length) (hd:od N l=true) (gv:zL l.toArray ei=true)
  (h:cA P pr ro l.toArray (l.zip ei) (fun e m=>Wk pr e m (Env.of el) (Mem.of ml)) e m) (hr:LH P N pr y Q (Env.of el) (Mem.of ml)):LH P N pr (.seq (.region id l.toArray true) y) Q e m:=by
  obtain ⟨e',m',hK,hc⟩:=ku _ h
  rw [← qm l ei hlen] at hc
  exact LH.seq (LH.B2 Ac ro ei hd gv hc (LH.wk hK hr))
section
variable {e:Env} {m:Mem} {d:Option Nat} {ty:TypeId} {pos:String} {af:Array Edge} {K:Env→Mem→Prop}
theorem rQ (op:Op) (md j:Nat) (want:Bool):fL P pr ro ops md ⟨d,op,ty,pos,af,some (j,want)⟩ K e m=match (ops[j]?).bind (·.dst) with
  | some q=>match e q with
   | .bool t=>if t=want then fL P pr ro ops md ⟨d,op,ty,pos,af,.none⟩ K e m else K (e.fC d (.de [])) m
   | .de []=>K (e.fC d (.de [])) m
   | _=>False
  | .none=>False:=by
 unfold fL
 simp only [gd]
 cases hq:(ops[j]?).bind (·.dst) with
 | none=>rfl
 | some q =>
  simp only
  cases he:e q
  case de vs=>cases vs <;> rfl
  case bool t =>
   simp only
   by_cases ht:t=want
   ·subst ht
    simp only [beq_self_eq_true,if_true]
    split <;> first | exact Cb .. | rfl
   ·have:(t == want)=false:=by simpa using ht
    simp only [this,ht,if_false]
  all_goals rfl
where
 Cb {P:Program} {pr:Nat→Prop} {ro:List Nat} {d:Option Nat} {op:Op} {ty:TypeId} {pos:String} {af:Array Edge} {g g':Option (Nat × Bool)} {ev:Operand→LV} {m:Mem} {K:LV→Mem→Prop}:LOp P pr ro ⟨d,op,ty,pos,af,g⟩ ev m K=LOp P pr ro ⟨d,op,ty,pos,af,g'⟩ ev m K:=rfl
end
attribute [go_sem] List.zip_cons_cons List.zip_nil_left List.getElem?_toArray Option.bind_some
end
end Go.L
