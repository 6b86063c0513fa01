import Derived.Below
import Derived.Orders
import Derived.Deep.MidRow
import Derived.Laws.AppendOwn
import Derived.Laws.AppendOwnNone
import Derived.Laws.StructEq
import Derived.KernelRfl
import Derived.Laws.MakeOwn
import Derived.Laws.OwnMore
import Derived.Great.BuildSlice
import Derived.Deep.LoopGhost
set_option linter.unusedVariables false
set_option linter.unusedSimpArgs false
namespace Go.L
theorem oq (w:World) (o:Obj) (i:Nat) (h:i<w.heap.size):(w.alloc o).heap[i]?=w.heap[i]?:=by
 show (w.heap.push o)[i]?=_
 rw [Array.getElem?_push_lt h,Array.getElem?_eq_getElem h]
inductive LV where
 | eD
 | int (k:IntKind) (n:Int)
 | bool (b:Bool)
 | nil
 | fj
 | al (k:Nat) (xs:List LV)
 | ag (cs:List LV)
 | arr (id n:Nat)
 | ptr (id o:Nat)
 | bE (id n i o:Nat)
 | agg (cs:List LV)
 | cV (vs:List LV)
 | fn (f:Nat) (cap:List LV)
 /-- a slice of Hj the length alone is known -/
 | p7 (n:Nat)
 /-- a slice IK reads as xs,with no room behind,never written -/
 | full (k:Nat) (xs:List LV)
 | str (s:ByteArray)
 /-- the address of an iterator -/
 | it (r:Nat)
 /-- no function -/
 | k5
 /-- a function with U4 first arguments -/
 | vQ (f:Nat) (fs:List LV)
 | mp (id:Nat)
 /-- a slice over a whole row IK A2 turns,behind Hj A2 else reads (e: the element type); with false: 'WK -/
 | aJ (t:Bool) (e k:Nat) (xs:List LV)
 /-- the address of cells of Ua a row; with false: 'Ve -/
 | fS (t:Bool) (cs:List LV)
 deriving Inhabited
inductive LE where
 | box (cs:List LV)
 | arr (e k:Nat) (xs:List LV)
 | map (kt vt:Nat) (es:List (LV × LV))
 /-- a row Vi elements own My: os WS at Hj cells (and the element type and U4 cells of the My there) -/
 | nest (e k:Nat) (os:List (Nat × Nat × Nat)) (xs:List LV)
 /-- Ua a row,of Hj the slice at the cell o of the element i is the row id2 (of n2 elements) -/
 | c6 (e k:Nat) (os:List (Nat × Nat × Nat)) (xs:List LV) (i o id2 n2:Nat)
 /-- a row IK Xm given Vq -/
 | dead
abbrev Mem:=Nat→Option LE
abbrev Env:=Nat→LV
def Mem.none:Mem:=fun _=>Option.none
def Mem.put (m:Mem) (id:Nat) (x:LE):Mem:=fun i=>if i=id then some x else m i
def Env.put (e:Env) (d:Nat) (v:LV):Env:=fun i=>if i=d then v else e i
def Env.fM (e:Env) (d:Option Nat) (v:LV):Env:=match d with | some d=>e.put d v | .none=>e
def Env.of:List (Nat × LV)→Env
 | []=>fun _=>.eD
 | (d,v) :: r=>fun i=>if i=d then v else Env.of r i
def Mem.of:List (Nat × LE)→Mem
 | []=>fun _=>Option.none
 | (d,v) :: r=>fun i=>if i=d then some v else Mem.of r i
mutual
def LV.pure:LV→Bool
 | .ag cs=>LV.bo cs
 | .fS _ cs=>LV.bo cs
 | .arr _ _=>false
 | .ptr _ _=>false
 | .bE _ _ _ _=>false
 | .mp _=>false
 | .agg cs=>LV.bo cs
 | .cV cs=>LV.bo cs
 | .fn _ cs=>LV.bo cs
 | .vQ _ cs=>LV.bo cs
 | _=>true
def LV.bo:List LV→Bool
 | []=>true
 | x :: xs=>x.pure && LV.bo xs
end
mutual
/-- R1 the value not QT of id? -/
def LV.a8 (id:Nat):LV→Bool
 | .ag cs=>LV.cu id cs
 | .fS _ cs=>LV.cu id cs
 | .arr i _=>i != id
 | .ptr i _=>i != id
 | .bE i _ _ _=>i != id
 | .mp i=>i != id
 | .agg cs=>LV.cu id cs
 | .cV cs=>LV.cu id cs
 | .fn _ cs=>LV.cu id cs
 | .vQ _ cs=>LV.cu id cs
 | _=>true
def LV.cu (id:Nat):List LV→Bool
 | []=>true
 | x :: xs=>x.a8 id && LV.cu id xs
end
def LE.k6 (id:Nat):LE→Bool
 | .box cs=>LV.cu id cs
 | .c6 _ _ _ _ _ _ id2 _=>id2 != id
 | _=>true
def LV.cells:LV→List LV
 | .agg cs=>cs
 | x=>[x]
def LV.scalar:LV→Bool
 | .eD=>false
 | .agg _=>false
 | .cV _=>false
 | _=>true
inductive BE where
 | box (b n:Nat)
 | arr (v:Value) (k len:Nat) (ins:List Nat)
 | mp (b:Nat)
def BE.has:BE→Nat→Prop
 | .box b' _,b=>b'=b
 | .arr v _ _ ins,b=>v.ownBlock=some b ∨ b ∈ ins
 | .mp b',b=>b'=b
def BE.kV:BE→BE→Prop
 | .box b n,y=>y=.box b n
 | .arr u k len _,y=>∃ u' lG ins,y=.arr u' k lG ins∧len≤lG∧(len=lG→u'=u)
 | .mp b,y=>y=.mp b
theorem BE.kV.refl (x:BE):x.kV x:=by
 cases x with
 | box _ _=>rfl
 | arr u k len ins=>exact ⟨_,_,_,rfl,Nat.le_refl _,fun _=>rfl⟩
 | mp _=>rfl
theorem BE.kV.trans {x y z:BE} (h:x.kV y) (h':y.kV z):x.kV z:=by
 cases x with
 | box b n=>simp only [BE.kV] at h; subst h; exact h'
 | arr u k len ins=>simp only [BE.kV] at h; obtain ⟨u',lG,lE,rfl,h1,h2⟩:=h; obtain ⟨u2,WJ,WE,rfl,h3,h4⟩:=h'; exact ⟨_,_,_,rfl,by omega,fun he=>by rw [h4 (by omega),h2 (by omega)]⟩
 | mp b=>simp only [BE.kV] at h; subst h; exact h'
structure Cx where
 w:World
 B:Nat→Option BE
 O:Nat→Prop
 /-- blocks of rows IK A2 turns,with Vf RC -/
 Q:Nat→Option Nat
def Cx.own (c:Cx) (b:Nat):Prop:=∃ id be,c.B id=some be∧be.has b
def Cx.U (c:Cx) (b:Nat):Prop:=c.O b ∨ c.Q b ≠ Option.none
def Cx.X (c:Cx) (b:Nat):Prop:=c.U b ∨ c.own b
def flat (vs:List Value):List Value:=vs.flatMap fun v=>v.cells.toList
mutual
def av (c:Cx):LV→Value→Prop
 | .eD,_=>True
 | .int k n,v=>v=.int k n
 | .bool b,v=>v=.bool b
 | .nil,v=>v=.slice Option.none 0 0
 | .p7 n,v=>∃ a cap,v=.slice a n cap
 | .k5,v=>v=.nilFunc
 | .fj,v=>v=.pointer Option.none
 | .al k xs,v=>∃ a cap,v=.slice a xs.length cap∧xs.length≤cap∧(a=Option.none→cap=0)∧LV.bo xs=true ∧
   (xs=[] ∨ ∃ b off vs,a=some ⟨b,off,Option.none⟩∧b<c.w.heap.size∧¬ c.X b∧aC c xs vs∧(∀ u ∈ vs,u.cells.size=k∧∀ y ∈ u.cells,y.oneCell'=true)∧c.w.rangeAt b off (flat vs))
 | .full k xs,v=>∃ a,v=.slice a xs.length xs.length∧(a=Option.none→xs=[])∧LV.bo xs=true ∧
   (xs=[] ∨ ∃ b off vs,a=some ⟨b,off,Option.none⟩∧b<c.w.heap.size∧¬ c.X b∧aC c xs vs∧(∀ u ∈ vs,u.cells.size=k∧∀ y ∈ u.cells,y.oneCell'=true)∧c.w.rangeAt b off (flat vs))
 | .str s,v=>v=.string s
 | .it r,v=>v=.pointer (some ⟨r,0,Option.none⟩)
 | .ag cs,v=>∃ b off vs,v=.pointer (some ⟨b,off,Option.none⟩)∧b<c.w.heap.size∧¬ c.X b∧aC c cs vs∧(∀ y ∈ vs,y.oneCell'=true)∧c.w.rangeAt b off vs
 | .aJ false _ k xs,v=>∃ a cap,v=.slice a xs.length cap∧xs.length≤cap∧(a=Option.none→cap=0)∧LV.bo xs=true ∧
   (xs=[] ∨ ∃ b off vs,a=some ⟨b,off,Option.none⟩∧b<c.w.heap.size∧¬ c.X b∧aC c xs vs∧(∀ u ∈ vs,u.cells.size=k∧∀ y ∈ u.cells,y.oneCell'=true)∧c.w.rangeAt b off (flat vs))
 | .fS false cs,v=>∃ b off vs,v=.pointer (some ⟨b,off,Option.none⟩)∧b<c.w.heap.size∧¬ c.X b∧aC c cs vs∧(∀ y ∈ vs,y.oneCell'=true)∧c.w.rangeAt b off vs
 | .aJ true e k xs,v=>0<k∧LV.bo xs=true∧∃ vs,c.w.ownsRow 0 e k v xs.length (flat vs)∧aC c xs vs∧(∀ u ∈ vs,u.cells.size=k∧∀ y ∈ u.cells,y.oneCell'=true)∧∀ b,v.ownBlock=some b→c.Q b=some (xs.length * k)
 | .fS true cs,v=>∃ b off vs n,v=.pointer (some ⟨b,off,Option.none⟩)∧c.Q b=some n∧aC c cs vs∧(∀ y ∈ vs,y.oneCell'=true)∧c.w.rangeAt b off vs
 | .arr id n,v=>v.oneCell'=true∧∃ u k len ins,c.B id=some (.arr u k len ins)∧n≤len∧(n=len→v=u)
 | .ptr id o,v=>∃ b n,c.B id=some (.box b n)∧v=.pointer (some ⟨b,o,Option.none⟩)
 | .bE id n i o,v=>v.oneCell'=true∧∃ u k len ins,c.B id=some (.arr u k len ins)∧n≤len∧(n=len→∃ b,u.ownBlock=some b∧v=.pointer (some ⟨b,i * k+o,Option.none⟩))
 | .mp id,v=>∃ b,c.B id=some (.mp b)∧v=.map (some b)
 | .agg cs,v=>∃ vs,v=.agg vs.toArray∧aC c cs vs
 | .cV cs,v=>∃ vs,v=.tuple vs.toArray∧aC c cs vs
 | .fn f cs,v=>∃ vs,v=.func (.func f) #[] vs.toArray∧aC c cs vs
 | .vQ f cs,v=>∃ vs,v=.func (.func f) vs.toArray #[]∧aC c cs vs
def aC (c:Cx):List LV→List Value→Prop
 | [],vs=>vs=[]
 | x :: xs,vs=>∃ v fI,vs=v :: fI∧av c x v∧aC c xs fI
end
theorem aC.length {c:Cx}:∀ {xs:List LV} {vs:List Value},aC c xs vs→xs.length=vs.length
 | [],vs,h=>by simp [aC] at h; simp [h]
 | x :: xs,vs,h=>by
  simp only [aC] at h
  obtain ⟨v,fI,rfl,_,h'⟩:=h
  simp [h'.length]
theorem aC.get {c:Cx}:∀ {xs:List LV} {vs:List Value},aC c xs vs→∀ {i:Nat} {x:LV},xs[i]?=some x→∃ v,vs[i]?=some v∧av c x v
 | [],vs,h,i,x,hx=>by simp at hx
 | y :: xs,vs,h,i,x,hx=>by
  simp only [aC] at h
  obtain ⟨v,fI,rfl,hv,h'⟩:=h
  cases i with
  | zero=>simp at hx; subst hx; exact ⟨v,by simp,hv⟩
  | succ i=>simp at hx; obtain ⟨u,hu,hr⟩:=h'.get hx; exact ⟨u,by simpa using hu,hr⟩
theorem aC.of {c:Cx}:∀ {xs:List LV} {vs:List Value},xs.length=vs.length→(∀ (i:Nat) x v,xs[i]?=some x→vs[i]?=some v→av c x v)→aC c xs vs
 | [],vs,h,_=>by simp [aC]; exact List.eq_nil_of_length_eq_zero (by simpa using h.symm)
 | x :: xs,[],h,_=>by simp at h
 | x :: xs,v :: vs,h,hr=>by
  simp only [aC]
  exact ⟨v,vs,rfl,hr 0 x v (by simp) (by simp),aC.of (by simpa using h) fun i y u hy hu=>hr (i+1) y u (by simpa using hy) (by simpa using hu)⟩
theorem aC.append {c:Cx} {xs ys:List LV} {vs us:List Value} (h:aC c xs vs) (h':aC c ys us):aC c (xs++ys) (vs++us):=by
 induction xs generalizing vs with
 | nil=>simp [aC] at h; subst h; simpa using h'
 | cons x xs ih =>
  simp only [aC] at h
  obtain ⟨v,fI,rfl,hv,h2⟩:=h
  simp only [List.cons_append,aC]
  exact ⟨v,fI++us,rfl,hv,ih h2⟩
theorem aC.drop {c:Cx} {xs:List LV} {vs:List Value} (h:aC c xs vs) (n:Nat):aC c (xs.drop n) (vs.drop n):=by
 induction n generalizing xs vs with
 | zero=>simpa using h
 | succ n ih =>
  cases xs with
  | nil=>simp [aC] at h; subst h; simp [aC]
  | cons x xs =>
   simp only [aC] at h
   obtain ⟨v,fI,rfl,hv,h2⟩:=h
   simpa using ih h2
theorem aC.take {c:Cx} {xs:List LV} {vs:List Value} (h:aC c xs vs) (n:Nat):aC c (xs.take n) (vs.take n):=by
 induction n generalizing xs vs with
 | zero=>simp [aC]
 | succ n ih =>
  cases xs with
  | nil=>simp [aC] at h; subst h; simp [aC]
  | cons x xs =>
   simp only [aC] at h
   obtain ⟨v,fI,rfl,hv,h2⟩:=h
   simp only [List.take_succ_cons,aC]
   exact ⟨v,_,rfl,hv,ih h2⟩
theorem cK:∀ {xs:List LV},LV.bo xs=true ↔ ∀ x ∈ xs,x.pure=true
 | []=>by simp [LV.bo]
 | x :: xs=>by simp [LV.bo,cK (xs:=xs)]
theorem tm {id:Nat}:∀ {xs:List LV},LV.cu id xs=true ↔ ∀ x ∈ xs,x.a8 id=true
 | []=>by simp [LV.cu]
 | x :: xs=>by simp [LV.cu,tm (xs:=xs)]
mutual
theorem eX {id:Nat}:∀ (x:LV),x.pure=true→x.a8 id=true
 | .eD,_ | .int _ _,_ | .bool _,_ | .nil,_ | .p7 _,_ | .full _ _,_ | .str _,_ | .it _,_ | .k5,_ | .fj,_ | .al _ _,_ | .aJ _ _ _ _,_=>by simp [LV.a8]
 | .ag cs,h=>by simp only [LV.pure] at h; simp only [LV.a8]; exact az cs h
 | .fS _ cs,h=>by simp only [LV.pure] at h; simp only [LV.a8]; exact az cs h
 | .arr _ _,h | .ptr _ _,h | .bE _ _ _ _,h | .mp _,h=>by simp [LV.pure] at h
 | .agg cs,h=>by simp only [LV.pure] at h; simp only [LV.a8]; exact az cs h
 | .cV cs,h=>by simp only [LV.pure] at h; simp only [LV.a8]; exact az cs h
 | .fn _ cs,h=>by simp only [LV.pure] at h; simp only [LV.a8]; exact az cs h
 | .vQ _ cs,h=>by simp only [LV.pure] at h; simp only [LV.a8]; exact az cs h
theorem az {id:Nat}:∀ (xs:List LV),LV.bo xs=true→LV.cu id xs=true
 | [],_=>by simp [LV.cu]
 | x :: xs,h=>by
  simp only [LV.bo,Bool.and_eq_true] at h
  simp only [LV.cu,Bool.and_eq_true]
  exact ⟨eX x h.1,az xs h.2⟩
end
def jB (x y:Option BE):Prop :=
 match x with
 | .none=>True
 | some (.box b n)=>y=some (.box b n)
 | some (.arr u k len _)=>∃ u' lG lE,y=some (.arr u' k lG lE)∧len≤lG∧(len=lG→u'=u)
 | some (.mp b)=>y=some (.mp b)
theorem jB.refl (x:Option BE):jB x x:=by
 unfold jB; split
 ·trivial
 ·rfl
 ·exact ⟨_,_,_,rfl,Nat.le_refl _,fun _=>rfl⟩
 ·rfl
theorem jB.trans {x y z:Option BE} (h:jB x y) (h':jB y z):jB x z:=by
 unfold jB at *
 split
 ·trivial
 ·simp only at h; subst h; exact h'
 ·rename_i u k len ins
  obtain ⟨u',lG,lE,rfl,hl,hu⟩:=h
  obtain ⟨WY,PI,ON,rfl,iN,FA⟩:=h'
  refine ⟨WY,PI,ON,rfl,Nat.le_trans hl iN,fun e=>?_⟩
  rw [FA (by omega),hu (by omega)]
 ·simp only at h; subst h; exact h'
structure Cx.Le (c c':Cx):Prop where
 size:c.w.heap.size≤c'.w.heap.size
 heap:∀ b,b<c.w.heap.size→¬ c.X b→c'.w.heap[b]?=c.w.heap[b]?∧¬ c'.X b
 q:∀ b n,c.Q b=some n→c'.w.heap[b]?=c.w.heap[b]?∧c'.Q b=some n
theorem ek {w w':World} {b off:Nat} {cs:List Value} (h:w.rangeAt b off cs) (hb:w'.heap[b]?=w.heap[b]?):w'.rangeAt b off cs:=by
 intro j v hv
 rw [World.cell?_of_block (w:=w) (a:=⟨b,off+j,Option.none⟩) hb]
 exact h j v hv
theorem dR {w w':World} {base e k n:Nat} {u:Value} {vs:List Value} (h:w.ownsRow base e k u n vs) (hb:∀ b,u.ownBlock=some b→w'.heap[b]?=w.heap[b]?):w'.ownsRow base e k u n vs:=by
 refine ⟨h.1,?_⟩
 rcases h.2 with hn | ⟨g,cap,cur,rfl,h1,h2,rest⟩
 ·exact .inl hn
 ·exact .inr ⟨g,cap,cur,rfl,h1,(hb g rfl).trans h2,rest⟩
mutual
theorem av.mono {c c':Cx} (h:c.Le c'):∀ (x:LV) (v:Value),(∀ id,x.a8 id=false→jB (c.B id) (c'.B id))→av c x v→av c' x v
 | .eD,v,_,hr=>by simp only [av]
 | .int _ _,v,_,hr=>by simpa only [av] using hr
 | .bool _,v,_,hr=>by simpa only [av] using hr
 | .nil,v,_,hr=>by simpa only [av] using hr
 | .p7 _,v,_,hr=>by simpa only [av] using hr
 | .str _,v,_,hr=>by simpa only [av] using hr
 | .it _,v,_,hr=>by simpa only [av] using hr
 | .full k xs,v,_,hr=>by
  simp only [av] at hr ⊢
  obtain ⟨a,rfl,hn,hp,hx⟩:=hr
  refine ⟨a,rfl,hn,hp,?_⟩
  rcases hx with hx | ⟨b,off,vs,rfl,hb,hX,hl,hk,gi⟩
  ·exact .inl hx
  ·obtain ⟨h1,h2⟩:=h.heap b hb hX
   exact .inr ⟨b,off,vs,rfl,Nat.lt_of_lt_of_le hb h.size,h2,aC.mono h xs vs (fun id bB=>by rw [az xs hp] at bB; cases bB) hl,hk,ek gi h1⟩
 | .k5,v,_,hr=>by simpa only [av] using hr
 | .fj,v,_,hr=>by simpa only [av] using hr
 | .al k xs,v,_,hr=>by
  simp only [av] at hr ⊢
  obtain ⟨a,cap,rfl,mQ,hn,hp,hx⟩:=hr
  refine ⟨a,cap,rfl,mQ,hn,hp,?_⟩
  rcases hx with hx | ⟨b,off,vs,rfl,hb,hX,hl,hk,gi⟩
  ·exact .inl hx
  ·obtain ⟨h1,h2⟩:=h.heap b hb hX
   exact .inr ⟨b,off,vs,rfl,Nat.lt_of_lt_of_le hb h.size,h2,aC.mono h xs vs (fun id bB=>by rw [az xs hp] at bB; cases bB) hl,hk,ek gi h1⟩
 | .ag cs,v,hB,hr=>by
  simp only [av] at hr ⊢
  obtain ⟨b,off,vs,rfl,hb,hX,hl,hk,gi⟩:=hr
  obtain ⟨h1,h2⟩:=h.heap b hb hX
  exact ⟨b,off,vs,rfl,Nat.lt_of_lt_of_le hb h.size,h2,aC.mono h cs vs (fun id bB=>hB id (by simpa only [LV.a8] using bB)) hl,hk,ek gi h1⟩
 | .aJ true e k xs,v,hB,hr=>by
  simp only [av] at hr ⊢
  obtain ⟨h0,hp,vs,h1,hl,hk,hq⟩:=hr
  exact ⟨h0,hp,vs,dR h1 (fun b hb=>(h.q b _ (hq b hb)).1),aC.mono h xs vs (fun id bB=>by rw [az xs hp] at bB; cases bB) hl,hk,fun b hb=>(h.q b _ (hq b hb)).2⟩
 | .fS true cs,v,hB,hr=>by
  simp only [av] at hr ⊢
  obtain ⟨b,off,vs,n,rfl,hq,hl,hk,gi⟩:=hr
  exact ⟨b,off,vs,n,rfl,(h.q b n hq).2,aC.mono h cs vs (fun id bB=>hB id (by simpa only [LV.a8] using bB)) hl,hk,ek gi (h.q b n hq).1⟩
 | .aJ false e k xs,v,_,hr=>by
  simp only [av] at hr ⊢
  obtain ⟨a,cap,rfl,mQ,hn,hp,hx⟩:=hr
  refine ⟨a,cap,rfl,mQ,hn,hp,?_⟩
  rcases hx with hx | ⟨b,off,vs,rfl,hb,hX,hl,hk,gi⟩
  ·exact .inl hx
  ·obtain ⟨h1,h2⟩:=h.heap b hb hX
   exact .inr ⟨b,off,vs,rfl,Nat.lt_of_lt_of_le hb h.size,h2,aC.mono h xs vs (fun id bB=>by rw [az xs hp] at bB; cases bB) hl,hk,ek gi h1⟩
 | .fS false cs,v,hB,hr=>by
  simp only [av] at hr ⊢
  obtain ⟨b,off,vs,rfl,hb,hX,hl,hk,gi⟩:=hr
  obtain ⟨h1,h2⟩:=h.heap b hb hX
  exact ⟨b,off,vs,rfl,Nat.lt_of_lt_of_le hb h.size,h2,aC.mono h cs vs (fun id bB=>hB id (by simpa only [LV.a8] using bB)) hl,hk,ek gi h1⟩
 | .arr id n,v,hB,hr=>by
  simp only [av] at hr ⊢
  obtain ⟨h1,u,k,len,ins,hu,hn,hv⟩:=hr
  have:=hB id (by simp [LV.a8])
  rw [hu] at this
  obtain ⟨u',lG,lE,FA,hl,he⟩:=this
  refine ⟨h1,u',k,lG,lE,FA,Nat.le_trans hn hl,fun e=>?_⟩
  rw [he (by omega)]; exact hv (by omega)
 | .ptr id o,v,hB,hr=>by
  simp only [av] at hr ⊢
  obtain ⟨b,n,hu,hv⟩:=hr
  have:=hB id (by simp [LV.a8])
  rw [hu] at this
  exact ⟨b,n,this,hv⟩
 | .bE id n i o,v,hB,hr=>by
  simp only [av] at hr ⊢
  obtain ⟨h1,u,k,len,ins,hu,hn,hv⟩:=hr
  have:=hB id (by simp [LV.a8])
  rw [hu] at this
  obtain ⟨u',lG,lE,FA,hl,he⟩:=this
  refine ⟨h1,u',k,lG,lE,FA,Nat.le_trans hn hl,fun e=>?_⟩
  rw [he (by omega)]; exact hv (by omega)
 | .mp id,v,hB,hr=>by
  simp only [av] at hr ⊢
  obtain ⟨b,hu,hv⟩:=hr
  have:=hB id (by simp [LV.a8])
  rw [hu] at this
  exact ⟨b,this,hv⟩
 | .agg cs,v,hB,hr=>by
  simp only [av] at hr ⊢
  obtain ⟨vs,rfl,hl⟩:=hr
  exact ⟨vs,rfl,aC.mono h cs vs (fun id bB=>hB id (by simpa only [LV.a8] using bB)) hl⟩
 | .cV cs,v,hB,hr=>by
  simp only [av] at hr ⊢
  obtain ⟨vs,rfl,hl⟩:=hr
  exact ⟨vs,rfl,aC.mono h cs vs (fun id bB=>hB id (by simpa only [LV.a8] using bB)) hl⟩
 | .fn f cs,v,hB,hr=>by
  simp only [av] at hr ⊢
  obtain ⟨vs,rfl,hl⟩:=hr
  exact ⟨vs,rfl,aC.mono h cs vs (fun id bB=>hB id (by simpa only [LV.a8] using bB)) hl⟩
 | .vQ f cs,v,hB,hr=>by
  simp only [av] at hr ⊢
  obtain ⟨vs,rfl,hl⟩:=hr
  exact ⟨vs,rfl,aC.mono h cs vs (fun id bB=>hB id (by simpa only [LV.a8] using bB)) hl⟩
theorem aC.mono {c c':Cx} (h:c.Le c'):∀ (xs:List LV) (vs:List Value),(∀ id,LV.cu id xs=false→jB (c.B id) (c'.B id))→aC c xs vs→aC c' xs vs
 | [],vs,_,hr=>by simpa only [aC] using hr
 | x :: xs,vs,hB,hr=>by
  simp only [aC] at hr ⊢
  obtain ⟨v,fI,rfl,hv,hl⟩:=hr
  refine ⟨v,fI,rfl,av.mono h x v (fun id bB=>hB id (by simp [LV.cu,bB])) hv,aC.mono h xs fI (fun id bB=>hB id (by simp [LV.cu,bB])) hl⟩
end
theorem yo {c:Cx} {t:Bool} {e k:Nat} {xs:List LV} {v:Value} (h:av c (.aJ t e k xs) v):v.oneCell'=true:=by
 cases t
 ·simp only [av] at h; obtain ⟨_,_,rfl,_⟩:=h; rfl
 ·simp only [av] at h; obtain ⟨_,_,_,h,_⟩:=h; rcases h.2 with ⟨rfl,_⟩ | ⟨_,_,_,rfl,_⟩ <;> rfl
theorem wG {c:Cx} {t:Bool} {cs:List LV} {v:Value} (h:av c (.fS t cs) v):v.oneCell'=true:=by
 cases t
 ·simp only [av] at h; obtain ⟨_,_,_,rfl,_⟩:=h; rfl
 ·simp only [av] at h; obtain ⟨_,_,_,_,rfl,_⟩:=h; rfl
theorem eP {c:Cx} {x:LV} {v:Value} (hs:x.scalar=true) (h:av c x v):v.oneCell'=true:=by
 cases x
 case aJ=>exact yo h
 case fS=>exact wG h
 all_goals simp only [LV.scalar,av,Bool.false_eq_true] at hs h
 case int=>subst h; rfl
 case bool=>subst h; rfl
 case nil=>subst h; rfl
 case fj=>subst h; rfl
 case al=>obtain ⟨_,_,rfl,_⟩:=h; rfl
 case ag=>obtain ⟨_,_,_,rfl,_⟩:=h; rfl
 case arr=>exact h.1
 case ptr=>obtain ⟨_,_,_,rfl⟩:=h; rfl
 case bE=>exact h.1
 case fn=>obtain ⟨_,rfl,_⟩:=h; rfl
 case vQ=>obtain ⟨_,rfl,_⟩:=h; rfl
 case p7=>obtain ⟨_,_,rfl⟩:=h; rfl
 case full=>obtain ⟨_,rfl,_⟩:=h; rfl
 case str=>subst h; rfl
 case it=>subst h; rfl
 case k5=>subst h; rfl
 case mp=>obtain ⟨_,_,rfl⟩:=h; rfl
theorem mh {x:LV} (hs:x.scalar=true):x.cells=[x]:=by
 cases x <;> simp_all [LV.scalar,LV.cells]
theorem dw {v:Value} (h:v.oneCell'=true):v.cells=#[v]:=by
 cases v <;> simp_all [Value.oneCell',Value.cells]
theorem av.cellsOf {c:Cx} {x:LV} {v:Value} (h:av c x v) (hs:x.cells.all LV.scalar=true):aC c x.cells v.cells.toList∧∀ y ∈ v.cells,y.oneCell'=true:=by
 by_cases hx:x.scalar=true
 ·have h1:=eP hx h
  rw [mh hx,dw h1]
  simp [aC,h,h1]
 ·cases x <;> simp [LV.scalar,LV.cells] at hx hs
  case agg cs =>
   simp only [av] at h
   obtain ⟨vs,rfl,hl⟩:=h
   simp only [LV.cells,Value.cells]
   refine ⟨by simpa using hl,fun y hy=>?_⟩
   obtain ⟨i,hi⟩:=List.mem_iff_getElem?.1 (by simpa using hy:y ∈ vs)
   have hlen:=hl.length
   have ec:i<cs.length:=by rw [hlen]; exact (List.getElem?_eq_some_iff.1 hi).1
   obtain ⟨u,hu,Wm⟩:=hl.get (List.getElem?_eq_getElem ec)
   rw [hi] at hu; cases hu
   exact eP (hs _ (List.getElem_mem ec)) Wm
end Go.L
namespace Go.L
def so (c:Cx) (e k:Nat) (x:LV) (v:Value) (bs:List Nat):Prop :=
 (x=.eD∧bs=[]) ∨ ∃ ys us,x=.al k ys∧0<k∧c.w.ownsRow 0 e k v ys.length (flat us)∧aC c ys us∧(∀ u ∈ us,u.cells.size=k∧∀ y ∈ u.cells,y.oneCell'=true)∧LV.bo ys=true∧bs=v.ownBlock.toList
def fk (c:Cx) (os:List (Nat × Nat × Nat)) (o:Nat) (x:LV) (v:Value) (bs:List Nat):Prop :=
 match os.lookup o with
 | some (e,k)=>so c e k x v bs
 | .none=>av c x v∧x.pure=true∧bs=[]
def gu (c:Cx) (os:List (Nat × Nat × Nat)):Nat→List LV→List Value→List Nat→Prop
 | _,[],ws,bs=>ws=[]∧bs=[]
 | o,x :: xs,ws,bs=>∃ w CD b1 b2,ws=w :: CD∧bs=b1++b2∧fk c os o x w b1∧gu c os (o+1) xs CD b2
def HH (c:Cx) (os:List (Nat × Nat × Nat)) (x:LV) (v:Value) (bs:List Nat):Prop:=∃ cs ws,x=.agg cs∧v=.agg ws.toArray∧gu c os 0 cs ws bs
def dx (c:Cx) (os:List (Nat × Nat × Nat)):List LV→List Value→List Nat→Prop
 | [],vs,bs=>vs=[]∧bs=[]
 | x :: xs,vs,bs=>∃ v fI b1 b2,vs=v :: fI∧bs=b1++b2∧HH c os x v b1∧dx c os xs fI b2
def Ag (es:Array MapEntry) (ck:Nat):Prop:=(es.toList.map (·.born)).Nodup∧∀ x ∈ es.toList,x.born<ck
def bw (c:Cx):Option LE→Option BE→Prop
 | .none,y=>y=.none
 | some (.box cs),y=>∃ b vs e,y=some (.box b cs.length)∧c.w.heap[b]?=some (.cells vs.toArray e (0,0))∧aC c cs vs∧∀ v ∈ vs,v.oneCell'=true
 | some (.arr e k xs),y=>∃ u vs,y=some (.arr u k xs.length [])∧0<k∧c.w.ownsRow 0 e k u xs.length (flat vs)∧aC c xs vs∧(∀ v ∈ vs,v.cells.size=k∧∀ y ∈ v.cells,y.oneCell'=true)∧LV.bo xs=true
 | some (.map kt vt es),y=>∃ b jF clock,y=some (.mp b)∧c.w.heap[b]?=some (.map jF clock)∧aC c (es.map (·.1)) (jF.toList.map (·.key))∧aC c (es.map (·.2)) (jF.toList.map (·.val))∧LV.bo (es.map (·.1))=true∧LV.bo (es.map (·.2))=true∧(es.map (·.1)).Nodup∧Ag jF clock
 | some (.nest e k os xs),y=>∃ u vs bs,y=some (.arr u k xs.length bs)∧0<k∧c.w.ownsRow 0 e k u xs.length (flat vs)∧dx c os xs vs bs∧(∀ v ∈ vs,v.cells.size=k∧∀ y ∈ v.cells,y.oneCell'=true)∧bs.Nodup∧∀ b,u.ownBlock=some b→b ∉ bs
 | some (.c6 e k os xs i o id2 n2),y=>∃ u vs bs,y=some (.arr u k xs.length bs)∧0<k∧c.w.ownsRow 0 e k u xs.length (flat vs)∧dx c os xs vs bs∧(∃ g v,u.ownBlock=some g∧c.w.cell? ⟨g,i * k+o,Option.none⟩=some v∧av c (.arr id2 n2) v)∧(∀ v ∈ vs,v.cells.size=k∧∀ y ∈ v.cells,y.oneCell'=true)∧bs.Nodup∧∀ b,u.ownBlock=some b→b ∉ bs
 | some .dead,y=>∃ u k len,y=some (.arr u k len [])∧u.ownBlock=Option.none
theorem uV {w w':World} {g:Nat} (h:w'.heap[g]?=w.heap[g]?) (o:Nat):w'.cell? ⟨g,o,Option.none⟩=w.cell? ⟨g,o,Option.none⟩:=by simp [World.cell?,h]
theorem so.mono {c c':Cx} (hle:c.Le c') {e k:Nat} {x:LV} {v:Value} {bs:List Nat} (hh:∀ b ∈ bs,c'.w.heap[b]?=c.w.heap[b]?) (h:so c e k x v bs):so c' e k x v bs:=by
 rcases h with h | ⟨ys,us,h1,h0,h2,h3,h4,h5,h6⟩
 ·exact .inl h
 ·refine .inr ⟨ys,us,h1,h0,dR h2 (fun b hb=>hh b (by rw [h6,hb]; simp)),aC.mono hle ys us (fun id bB=>by rw [az ys h5] at bB; cases bB) h3,h4,h5,h6⟩
theorem so.lt {c:Cx} {e k:Nat} {x:LV} {v:Value} {bs:List Nat} (h:so c e k x v bs):∀ b ∈ bs,b<c.w.heap.size:=by
 rcases h with ⟨_,rfl⟩ | ⟨ys,us,h1,h0,h2,h3,h4,h5,rfl⟩
 ·simp
 ·intro b hb
  have:v.ownBlock=some b:=by simpa using hb
  exact (h2.lt b this).2
theorem fk.mono {c c':Cx} (hle:c.Le c') {os:List (Nat × Nat × Nat)} {o:Nat} {x:LV} {v:Value} {bs:List Nat} (hh:∀ b ∈ bs,c'.w.heap[b]?=c.w.heap[b]?) (h:fk c os o x v bs):fk c' os o x v bs:=by
 unfold fk at *
 split
 ·rename_i e k he
  rw [he] at h
  exact so.mono hle hh h
 ·rename_i he
  rw [he] at h
  exact ⟨av.mono hle x v (fun id bB=>by rw [eX x h.2.1] at bB; cases bB) h.1,h.2⟩
theorem fk.lt {c:Cx} {os:List (Nat × Nat × Nat)} {o:Nat} {x:LV} {v:Value} {bs:List Nat} (h:fk c os o x v bs):∀ b ∈ bs,b<c.w.heap.size:=by
 unfold fk at h
 split at h
 ·exact so.lt h
 ·rw [h.2.2]; simp
theorem gu.mono {c c':Cx} (hle:c.Le c') {os:List (Nat × Nat × Nat)}:∀ {o:Nat} {xs:List LV} {ws:List Value} {bs:List Nat},(∀ b ∈ bs,c'.w.heap[b]?=c.w.heap[b]?)→gu c os o xs ws bs→gu c' os o xs ws bs
 | _,[],_,_,_,h=>by simpa only [gu] using h
 | o,x :: xs,ws,bs,hh,h=>by
  simp only [gu] at h ⊢
  obtain ⟨w,CD,b1,b2,rfl,rfl,h1,h2⟩:=h
  exact ⟨w,CD,b1,b2,rfl,rfl,h1.mono hle (fun b hb=>hh b (by simp [hb])),gu.mono hle (fun b hb=>hh b (by simp [hb])) h2⟩
theorem gu.lt {c:Cx} {os:List (Nat × Nat × Nat)}:∀ {o:Nat} {xs:List LV} {ws:List Value} {bs:List Nat},gu c os o xs ws bs→∀ b ∈ bs,b<c.w.heap.size
 | _,[],_,_,h=>by simp only [gu] at h; rw [h.2]; simp
 | o,x :: xs,ws,bs,h=>by
  simp only [gu] at h
  obtain ⟨w,CD,b1,b2,rfl,rfl,h1,h2⟩:=h
  intro b hb
  rcases List.mem_append.1 hb with hb | hb
  ·exact h1.lt b hb
  ·exact gu.lt h2 b hb
theorem dx.mono {c c':Cx} (hle:c.Le c') {os:List (Nat × Nat × Nat)}:∀ {xs:List LV} {vs:List Value} {bs:List Nat},(∀ b ∈ bs,c'.w.heap[b]?=c.w.heap[b]?)→dx c os xs vs bs→dx c' os xs vs bs
 | [],_,_,_,h=>by simpa only [dx] using h
 | x :: xs,vs,bs,hh,h=>by
  simp only [dx] at h ⊢
  obtain ⟨v,fI,b1,b2,rfl,rfl,⟨cs,ws,rfl,hv,h1⟩,h2⟩:=h
  exact ⟨v,fI,b1,b2,rfl,rfl,⟨cs,ws,rfl,hv,h1.mono hle (fun b hb=>hh b (by simp [hb]))⟩,dx.mono hle (fun b hb=>hh b (by simp [hb])) h2⟩
theorem dx.lt {c:Cx} {os:List (Nat × Nat × Nat)}:∀ {xs:List LV} {vs:List Value} {bs:List Nat},dx c os xs vs bs→∀ b ∈ bs,b<c.w.heap.size
 | [],_,_,h=>by simp only [dx] at h; rw [h.2]; simp
 | x :: xs,vs,bs,h=>by
  simp only [dx] at h
  obtain ⟨v,fI,b1,b2,rfl,rfl,⟨cs,ws,rfl,hv,h1⟩,h2⟩:=h
  intro b hb
  rcases List.mem_append.1 hb with hb | hb
  ·exact h1.lt b hb
  ·exact dx.lt h2 b hb
theorem dx.length {c:Cx} {os:List (Nat × Nat × Nat)}:∀ {xs:List LV} {vs:List Value} {bs:List Nat},dx c os xs vs bs→xs.length=vs.length
 | [],_,_,h=>by simp only [dx] at h; simp [h.1]
 | x :: xs,vs,bs,h=>by
  simp only [dx] at h
  obtain ⟨v,fI,b1,b2,rfl,rfl,_,h2⟩:=h
  simp [dx.length h2]
structure b3 (c:Cx) (m:Mem):Prop where
 gE:∀ id,bw c (m id) (c.B id)
 inj:∀ id U3 be eF b,c.B id=some be→c.B U3=some eF→be.has b→eF.has b→id=U3
 jZ:∀ b,c.own b→¬ c.O b
 pw:∀ b,c.O b→b<c.w.heap.size
 cS:∀ b,c.Q b ≠ .none→¬ c.O b∧¬ c.own b∧b<c.w.heap.size
theorem bw.lt {c:Cx} {x:Option LE} {y:Option BE} (h:bw c x y) {be:BE} {b:Nat} (hy:y=some be) (hb:be.has b):b<c.w.heap.size:=by
 match x with
 | .none=>simp [bw] at h; rw [h] at hy; cases hy
 | some (.box cs) =>
  simp only [bw] at h
  obtain ⟨b',vs,e,rfl,hh,_⟩:=h
  cases hy
  simp only [BE.has] at hb
  subst hb
  exact (Array.getElem?_eq_some_iff.1 hh).1
 | some (.arr e k xs) =>
  simp only [bw] at h
  obtain ⟨u,vs,rfl,hk,bj,_⟩:=h
  cases hy
  have gH:u.ownBlock=some b:=by simpa [BE.has] using hb
  exact (bj.lt b gH).2
 | some (.nest e k os xs) =>
  simp only [bw] at h
  obtain ⟨u,vs,bs,rfl,hk,bj,hn,_⟩:=h
  cases hy
  rcases hb with hb | hb
  ·exact (bj.lt b hb).2
  ·exact hn.lt b hb
 | some (.c6 e k os xs i o id2 n2) =>
  simp only [bw] at h
  obtain ⟨u,vs,bs,rfl,hk,bj,hn,_⟩:=h
  cases hy
  rcases hb with hb | hb
  ·exact (bj.lt b hb).2
  ·exact hn.lt b hb
 | some .dead =>
  simp only [bw] at h
  obtain ⟨u,k,len,rfl,hu⟩:=h
  cases hy
  rcases hb with hb | hb
  ·rw [hu] at hb; cases hb
  ·cases hb
 | some (.map kt vt es) =>
  simp only [bw] at h
  obtain ⟨b',jF,ck,rfl,hh,_⟩:=h
  cases hy
  simp only [BE.has] at hb
  subst hb
  exact (Array.getElem?_eq_some_iff.1 hh).1
theorem b3.k8 {c:Cx} {m:Mem} (h:b3 c m) {b:Nat} (ho:c.own b):b<c.w.heap.size:=by
 obtain ⟨id,be,h1,h2⟩:=ho
 exact (h.gE id).lt h1 h2
theorem b3.fresh {c:Cx} {m:Mem} (h:b3 c m) {id:Nat} (hm:m id=.none):c.B id=.none:=by
 have:=h.gE id
 rw [hm] at this
 exact this
abbrev dv:Nat:=1
def hD (c c':Cx):Prop:=∀ b n,c.Q b=some n→c'.w.heap[b]?=c.w.heap[b]?∧c'.Q b=some n
theorem hD.refl (c:Cx):hD c c:=fun _ _ h=>⟨rfl,h⟩
theorem hD.trans {a b c:Cx} (h:hD a b) (k:hD b c):hD a c:=fun x n hx=>⟨(k x n (h x n hx).2).1.trans (h x n hx).1,(k x n (h x n hx).2).2⟩
structure Grow (pr:Nat→Prop) (c c':Cx):Prop where
 O:c'.O=c.O
 os:c'.w.os=c.w.os
 tape:c'.w.tape=c.w.tape
 output:c'.w.output=c.w.output
 drawn:c.w.drawn≤c'.w.drawn
 size:c.w.heap.size≤c'.w.heap.size
 jI:∀ b,b<c.w.heap.size→¬ c.own b→(c.Q b=.none ∨ ¬ pr dv)→c'.w.heap[b]?=c.w.heap[b]?
 q:¬ pr dv→∀ b n,c.Q b=some n→c'.Q b=some n
 qn:∀ b,c'.Q b ≠ .none→c.Q b ≠ .none ∨ c.own b ∨ c.w.heap.size≤b
 own:∀ b,c'.own b→c.own b ∨ c.w.heap.size≤b
 A9:∀ id be,pr id→c.B id=some be→∃ eF,c'.B id=some eF∧be.kV eF
theorem Grow.refl (pr:Nat→Prop) (c:Cx):Grow pr c c :=
 ⟨rfl,rfl,rfl,rfl,Nat.le_refl _,Nat.le_refl _,fun _ _ _ _=>rfl,fun _ _ _ h=>h,fun _ h=>.inl h,fun _ h=>.inl h,fun _ be _ h=>⟨be,h,.refl be⟩⟩
theorem Grow.trans {pr:Nat→Prop} {a b c:Cx} (h:Grow pr a b) (k:Grow pr b c):Grow pr a c where
  O:=k.O.trans h.O
  os:=k.os.trans h.os
  tape:=k.tape.trans h.tape
  output:=k.output.trans h.output
  drawn:=Nat.le_trans h.drawn k.drawn
  size:=Nat.le_trans h.size k.size
  jI:=fun x hx ho hq=>(k.jI x (Nat.lt_of_lt_of_le hx h.size) (fun hb=>(h.own x hb).elim ho (fun hs=>absurd hx (by omega))) (hq.imp (fun h0=>by
    cases ov:b.Q x with
    | none=>rfl
    | some n => rcases h.qn x (by rw [ov]; simp) with h1 | h1 | h1
                · exact absurd h0 h1
                · exact absurd h1 ho
                · omega) (fun h0=>h0))).trans (h.jI x hx ho hq)
  q:=fun hp x n hx=>k.q hp x n (h.q hp x n hx)
  qn:=fun x hx=>(k.qn x hx).elim (h.qn x) fun h'=>h'.elim (fun ho=>(h.own x ho).elim (fun h2=>.inr (.inl h2)) (fun h2=>.inr (.inr h2))) (fun hs=>.inr (.inr (Nat.le_trans h.size hs)))
  own:=fun x hx=>(k.own x hx).elim (h.own x) (fun hs=>.inr (Nat.le_trans h.size hs))
  A9:=fun id be hp hb=>by
    obtain ⟨Ra,h1,h2⟩:=h.A9 id be hp hb
    obtain ⟨BO,h3,h4⟩:=k.A9 id Ra hp h1
    exact ⟨BO,h3,h2.trans h4⟩
theorem Grow.le {pr:Nat→Prop} {c c':Cx} (h:Grow pr c c') (hq:hD c c'):c.Le c' where
 size:=h.size
 heap:=fun b hb hX=>⟨h.jI b hb (fun ho=>hX (.inr ho)) (.inl (by
  cases hx:c.Q b with
  | none=>rfl
  | some n=>exact absurd (.inl (.inr (by rw [hx]; simp))) hX)),fun Aw=>by
  rcases Aw with (hO | hQ) | ho
  ·rw [h.O] at hO; exact hX (.inl (.inl hO))
  ·rcases h.qn b hQ with h1 | h1 | h1
   ·exact hX (.inl (.inr h1))
   ·exact hX (.inr h1)
   ·omega
  ·rcases h.own b ho with ho | hs
   ·exact hX (.inr ho)
   ·omega⟩
 q:=hq
theorem Grow.keeps {pr:Nat→Prop} {c c':Cx} (h:Grow pr c c') (hp:¬ pr dv) {m:Mem} (hm:b3 c m):hD c c':=fun b n hb=>by
 have:=hm.cS b (by rw [hb]; simp)
 exact ⟨h.jI b this.2.2 this.2.1 (.inr hp),h.q hp b n hb⟩
structure Step (pr:Nat→Prop) (c c':Cx):Prop where
 grow:Grow pr c c'
 ble:∀ id,jB (c.B id) (c'.B id)
 q:hD c c'
theorem Step.refl (pr:Nat→Prop) (c:Cx):Step pr c c:=⟨.refl pr c,fun _=>.refl _,.refl c⟩
theorem Step.trans {pr:Nat→Prop} {a b c:Cx} (h:Step pr a b) (k:Step pr b c):Step pr a c:=⟨h.grow.trans k.grow,fun id=>(h.ble id).trans (k.ble id),h.q.trans k.q⟩
theorem Step.le {pr:Nat→Prop} {c c':Cx} (h:Step pr c c'):c.Le c':=h.grow.le h.q
theorem Step.wS {pr:Nat→Prop} {c c':Cx} (h:Step pr c c') {x:LV} {v:Value} (hr:av c x v):av c' x v:=av.mono h.le x v (fun id _=>h.ble id) hr
theorem Step.QM {pr:Nat→Prop} {c c':Cx} (h:Step pr c c') {x:List LV} {v:List Value} (hr:aC c x v):aC c' x v:=aC.mono h.le x v (fun id _=>h.ble id) hr
theorem bw.mono {c c':Cx} (hle:c.Le c') (hB:∀ id,jB (c.B id) (c'.B id)) {x:Option LE} {y:Option BE} (hh:∀ be b,y=some be→be.has b→c'.w.heap[b]?=c.w.heap[b]?) (h:bw c x y):bw c' x y:=by
 match x with
 | .none=>simpa only [bw] using h
 | some (.box cs) =>
  simp only [bw] at h ⊢
  obtain ⟨b,vs,e,rfl,h1,h2,h3⟩:=h
  exact ⟨b,vs,e,rfl,(hh _ b rfl rfl).trans h1,aC.mono hle cs vs (fun id _=>hB id) h2,h3⟩
 | some (.arr e k xs) =>
  simp only [bw] at h ⊢
  obtain ⟨u,vs,rfl,h0,h1,h2,h3⟩:=h
  exact ⟨u,vs,rfl,h0,dR h1 (fun b hb=>hh _ b rfl (.inl hb)),aC.mono hle xs vs (fun id _=>hB id) h2,h3⟩
 | some (.nest e k os xs) =>
  simp only [bw] at h ⊢
  obtain ⟨u,vs,bs,rfl,h0,h1,h2,h3⟩:=h
  exact ⟨u,vs,bs,rfl,h0,dR h1 (fun b hb=>hh _ b rfl (.inl hb)),h2.mono hle (fun b hb=>hh _ b rfl (.inr hb)),h3⟩
 | some (.c6 e k os xs i o id2 n2) =>
  simp only [bw] at h ⊢
  obtain ⟨u,vs,bs,rfl,h0,h1,h2,⟨g,v,q1,q2,q3⟩,h3⟩:=h
  exact ⟨u,vs,bs,rfl,h0,dR h1 (fun b hb=>hh _ b rfl (.inl hb)),h2.mono hle (fun b hb=>hh _ b rfl (.inr hb)),⟨g,v,q1,(uV (hh _ g rfl (.inl q1)) _).trans q2,av.mono hle (.arr id2 n2) v (fun id _=>hB id) q3⟩,h3⟩
 | some .dead=>simpa only [bw] using h
 | some (.map kt vt es) =>
  simp only [bw] at h ⊢
  obtain ⟨b,jF,ck,rfl,h1,h2,h3,h4⟩:=h
  exact ⟨b,jF,ck,rfl,(hh _ b rfl rfl).trans h1,aC.mono hle _ _ (fun id _=>hB id) h2,aC.mono hle _ _ (fun id _=>hB id) h3,h4⟩
theorem b3.Ac {pr:Nat→Prop} {c:Cx} {m:Mem} (h:b3 c m) (id:Nat) (le:LE) (be:BE) (w':World)
  (Ei:w'.os=c.w.os) (pR:w'.tape=c.w.tape) (oT:w'.output=c.w.output) (xN:c.w.drawn≤w'.drawn) (eK:c.w.heap.size≤w'.heap.size)
  (gC:∀ b,b<c.w.heap.size→(∀ dr,c.B id=some dr→¬ dr.has b)→w'.heap[b]?=c.w.heap[b]?)
  (hblk:∀ b,be.has b→(∃ dr,c.B id=some dr∧dr.has b) ∨ c.w.heap.size≤b)
  (hle:jB (c.B id) (some be)) (mE:pr id→∀ dr,c.B id=some dr→dr.kV be)
  (gS:∀ c':Cx,c'.w=w'→c.Le c'→(∀ i,jB (c.B i) (c'.B i))→bw c' (some le) (some be)) :
  ∃ c':Cx,c'.w=w'∧c'.B id=some be∧b3 c' (m.put id le)∧Step pr c c':=by
 let c':Cx:=⟨w',fun i=>if i=id then some be else c.B i,c.O,c.Q⟩
 have bj:∀ b,c'.own b→c.own b ∨ c.w.heap.size≤b:=by
  rintro b ⟨i,eF,h1,h2⟩
  by_cases hi:i=id
  ·simp only [c',hi,if_true] at h1
   cases h1
   rcases hblk b h2 with ⟨dr,h3,h4⟩ | hs
   ·exact .inl ⟨id,dr,h3,h4⟩
   ·exact .inr hs
  ·simp only [c',hi,if_false] at h1
   exact .inl ⟨i,eF,h1,h2⟩
 have jN:Grow pr c c':=by
  refine ⟨rfl,Ei,pR,oT,xN,eK,fun b hb ho _=>gC b hb (fun dr h0 h1=>ho ⟨id,dr,h0,h1⟩),fun _ _ _ h=>h,fun _ h=>.inl h,bj,fun i eF hp hb=>?_⟩
  by_cases hi:i=id
  ·subst hi; exact ⟨be,by simp only [c',if_true],mE hp eF hb⟩
  ·exact ⟨eF,by simp only [c',hi,if_false]; exact hb,.refl eF⟩
 have mn:hD c c':=fun b n hb=>by
  have hn:=h.cS b (by rw [hb]; simp)
  exact ⟨gC b hn.2.2 (fun dr h0 h1=>hn.2.1 ⟨id,dr,h0,h1⟩),hb⟩
 have mB:=jN.le mn
 have dz:∀ i,jB (c.B i) (c'.B i):=by
  intro i
  by_cases hi:i=id
  ·subst hi; simpa only [c',if_true] using hle
  ·simp only [c',hi,if_false]; exact jB.refl _
 refine ⟨c',rfl,by simp [c'],⟨fun i=>?_,?_,?_,?_,fun b hb=>⟨(h.cS b hb).1,fun ho=>(bj b ho).elim (h.cS b hb).2.1 (fun hs=>by have:=(h.cS b hb).2.2; omega),Nat.lt_of_lt_of_le (h.cS b hb).2.2 eK⟩⟩,jN,dz,mn⟩
 ·by_cases hi:i=id
  ·subst hi; simp only [c',Mem.put,if_true]; exact gS c' rfl mB dz
  ·simp only [Mem.put,hi,if_false]
   have:c'.B i=c.B i:=by simp [c',hi]
   rw [this]
   refine (h.gE i).mono mB dz fun eF b hb qU=>?_
   refine gC b ((h.gE i).lt hb qU) fun dr h0 h1=>?_
   exact hi (h.inj i id eF dr b hb h0 qU h1)
 ·intro i i' b1 b2 b h1 h2 h3 h4
  by_cases hi:i=id <;> by_cases gx:i'=id
  ·rw [hi,gx]
  ·simp only [c',hi,if_true] at h1
   simp only [c',gx,if_false] at h2
   cases h1
   rcases hblk b h3 with ⟨dr,h5,h6⟩ | hs
   ·rw [hi]; exact h.inj id i' dr b2 b h5 h2 h6 h4
   ·have:=(h.gE i').lt h2 h4; omega
  ·simp only [c',hi,if_false] at h1
   simp only [c',gx,if_true] at h2
   cases h2
   rcases hblk b h4 with ⟨dr,h5,h6⟩ | hs
   ·rw [gx]; exact h.inj i id b1 dr b h1 h5 h3 h6
   ·have:=(h.gE i).lt h1 h3; omega
  ·simp only [c',hi,if_false] at h1
   simp only [c',gx,if_false] at h2
   exact h.inj i i' b1 b2 b h1 h2 h3 h4
 ·intro b ho hO
  rcases bj b ho with ho | hs
  ·exact h.jZ b ho hO
  ·have:=h.pw b hO; omega
 ·intro b hO; exact Nat.lt_of_lt_of_le (h.pw b hO) eK
theorem b3.ext {pr:Nat→Prop} {c:Cx} {m:Mem} (h:b3 c m) (w':World)
  (Ei:w'.os=c.w.os) (pR:w'.tape=c.w.tape) (oT:w'.output=c.w.output) (xN:c.w.drawn≤w'.drawn) (eK:c.w.heap.size≤w'.heap.size)
  (gC:∀ b,b<c.w.heap.size→w'.heap[b]?=c.w.heap[b]?) :
  b3 ⟨w',c.B,c.O,c.Q⟩ m∧Step pr c ⟨w',c.B,c.O,c.Q⟩:=by
 have jN:Grow pr c ⟨w',c.B,c.O,c.Q⟩:=⟨rfl,Ei,pR,oT,xN,eK,fun b hb _ _=>gC b hb,fun _ _ _ h=>h,fun _ h=>.inl h,fun b ho=>.inl ho,fun _ be _ hb=>⟨be,hb,.refl be⟩⟩
 have mn:hD c ⟨w',c.B,c.O,c.Q⟩:=fun b n hb=>⟨gC b (h.cS b (by rw [hb]; simp)).2.2,hb⟩
 refine ⟨⟨fun i=>?_,h.inj,h.jZ,fun b hO=>Nat.lt_of_lt_of_le (h.pw b hO) eK,fun b hb=>⟨(h.cS b hb).1,(h.cS b hb).2.1,Nat.lt_of_lt_of_le (h.cS b hb).2.2 eK⟩⟩,jN,fun i=>jB.refl _,mn⟩
 exact (h.gE i).mono (jN.le mn) (fun i=>jB.refl _) fun be b hb qU=>gC b ((h.gE i).lt hb qU)
theorem b3.PT {c:Cx} {m:Mem} (h:b3 c m) {b:Nat} (hb:c.w.heap.size≤b):¬ c.X b:=by
 rintro ((hO | hQ) | ho)
 ·have:=h.pw b hO; omega
 ·have:=(h.cS b hQ).2.2; omega
 ·have:=h.k8 ho; omega
def aO (P:Program) (f:Nat) (args:List LV) (m:Mem) (lv:LV) (m':Mem):Prop :=
 ∀ (c:Cx) (vs:List Value),b3 c m→aC c args vs →
  Calls P f vs.toArray c.w fun en w'=>∃ v c',en=.returned v∧c'.w=w'∧b3 c' m'∧av c' lv v∧Grow (fun id=>m id ≠ .none) c c'
def Mem.over (m mc:Mem):Mem:=fun i=>match mc i with | some x=>some x | .none=>m i
theorem aO.frame {P:Program} {f:Nat} {args:List LV} {mc mJ m:Mem} {lv:LV} (h:aO P f args mc lv mJ)
  (oU:∀ id,mc id ≠ .none→m id=mc id) (rA:∀ id,mc id=.none→mJ id ≠ .none→m id=.none)
  (hargs:∀ id,LV.cu id args=false→mc id ≠ .none) (wq:mc dv=.none) (pH:∀ id le,mc id=some le→∀ j,le.k6 j=false→mc j ≠ .none)
  (pr:Nat→Prop) (c:Cx) (vs:List Value) (hm:b3 c m) (ha:aC c args vs) :
  Calls P f vs.toArray c.w fun en w'=>∃ v c',en=.returned v∧c'.w=w'∧b3 c' (m.over mJ)∧av c' lv v∧Step pr c c':=by
 classical
 let c0:Cx:=⟨c.w,fun id=>if mc id=.none then .none else c.B id,fun b=>c.O b ∨ ∃ id be,mc id=.none∧c.B id=some be∧be.has b,c.Q⟩
 have hX:∀ b,c0.X b ↔ c.X b:=by
  intro b
  constructor
  ·rintro (((hO | ⟨id,be,_,h2,h3⟩) | hQ) | ⟨id,be,h2,h3⟩)
   ·exact .inl (.inl hO)
   ·exact .inr ⟨id,be,h2,h3⟩
   ·exact .inl (.inr hQ)
   ·by_cases hi:mc id=.none
    ·simp [c0,hi] at h2
    ·simp only [c0,hi,if_false] at h2; exact .inr ⟨id,be,h2,h3⟩
  ·rintro ((hO | hQ) | ⟨id,be,h2,h3⟩)
   ·exact .inl (.inl (.inl hO))
   ·exact .inl (.inr hQ)
   ·by_cases hi:mc id=.none
    ·exact .inl (.inl (.inr ⟨id,be,hi,h2,h3⟩))
    ·exact .inr ⟨id,be,by simp [c0,hi,h2],h3⟩
 have mB:c.Le c0:=⟨Nat.le_refl _,fun b _ hx=>⟨rfl,fun ov=>hx ((hX b).1 ov)⟩,fun _ _ h=>⟨rfl,h⟩⟩
 have B0:∀ id,mc id ≠ .none→jB (c.B id) (c0.B id):=fun id hi=>by simp only [c0,hi,if_false]; exact jB.refl _
 have pM : b3 c0 mc := by
  refine ⟨fun id=>?_,?_,?_,?_,fun b hb=>⟨?_,?_,(hm.cS b hb).2.2⟩⟩
  ·by_cases hi:mc id=.none
   ·rw [hi]; simp [bw,c0,hi]
   ·have he:=hm.gE id
    rw [oU id hi] at he
    have hb:c0.B id=c.B id:=by simp [c0,hi]
    rw [hb]
    cases hx:mc id with
    | none=>exact absurd hx hi
    | some le =>
     rw [hx] at he
     cases le with
     | box cs =>
      simp only [bw] at he ⊢
      obtain ⟨b,us,e,h1,h2,h3,h4⟩:=he
      exact ⟨b,us,e,h1,h2,aC.mono mB cs us (fun j hj=>B0 j (pH id _ hx j hj)) h3,h4⟩
     | arr e k xs =>
      simp only [bw] at he ⊢
      obtain ⟨u,us,h1,h0,h2,h3,h4,h5⟩:=he
      exact ⟨u,us,h1,h0,h2,aC.mono mB xs us (fun j hj=>by rw [az xs h5] at hj; cases hj) h3,h4,h5⟩
     | nest e k os xs =>
      simp only [bw] at he ⊢
      obtain ⟨u,us,bs,h1,h0,h2,h3,h4⟩:=he
      exact ⟨u,us,bs,h1,h0,h2,h3.mono mB (fun b _=>rfl),h4⟩
     | c6 e k os xs i o id2 n2 =>
      simp only [bw] at he ⊢
      obtain ⟨u,us,bs,h1,h0,h2,h3,⟨ws,v,q1,q2,q3⟩,h4⟩:=he
      exact ⟨u,us,bs,h1,h0,h2,h3.mono mB (fun b _=>rfl),⟨ws,v,q1,q2,av.mono mB (.arr id2 n2) v (fun j hj=>B0 j (pH id _ hx j hj)) q3⟩,h4⟩
     | dead=>simpa only [bw] using he
     | map kt vt es =>
      simp only [bw] at he ⊢
      obtain ⟨b,jF,ck,h1,h2,h3,h4,h5,h6,h7⟩:=he
      exact ⟨b,jF,ck,h1,h2,aC.mono mB _ _ (fun j hj=>by rw [az _ h5] at hj; cases hj) h3,aC.mono mB _ _ (fun j hj=>by rw [az _ h6] at hj; cases hj) h4,h5,h6,h7⟩
  ·intro i i' be eF b h1 h2 h3 h4
   by_cases hi:mc i=.none
   ·simp [c0,hi] at h1
   ·by_cases gx:mc i'=.none
    ·simp [c0,gx] at h2
    ·simp only [c0,hi,gx,if_false] at h1 h2; exact hm.inj i i' be eF b h1 h2 h3 h4
  ·rintro b ⟨id,be,h1,h2⟩ hO
   by_cases hi:mc id=.none
   ·simp [c0,hi] at h1
   ·simp only [c0,hi,if_false] at h1
    rcases hO with hO | ⟨j,eF,h3,h4,h5⟩
    ·exact hm.jZ b ⟨id,be,h1,h2⟩ hO
    ·have:=hm.inj id j be eF b h1 h4 h2 h5
     subst this; exact hi h3
  ·rintro b (hO | ⟨j,eF,h3,h4,h5⟩)
   ·exact hm.pw b hO
   ·exact hm.k8 ⟨j,eF,h4,h5⟩
  ·rintro (hO | ⟨j,eF,h3,h4,h5⟩)
   ·exact (hm.cS b hb).1 hO
   ·exact (hm.cS b hb).2.1 ⟨j,eF,h4,h5⟩
  ·rintro ⟨id,be,h1,h2⟩
   by_cases hi:mc id=.none
   ·simp [c0,hi] at h1
   ·simp only [c0,hi,if_false] at h1; exact (hm.cS b hb).2.1 ⟨id,be,h1,h2⟩
 have VH:aC c0 args vs:=aC.mono mB args vs (fun id bB=>B0 id (hargs id bB)) ha
 refine (h c0 vs pM VH).mono ?_
 rintro en w' ⟨v,c1,rfl,rfl,iH,jY,hg⟩
 have Fc:∀ id,mc id ≠ .none→∃ be eF,c.B id=some be∧c1.B id=some eF∧be.kV eF:=by
  intro id hi
  have he:=pM.gE id
  cases hx:mc id with
  | none=>exact absurd hx hi
  | some le =>
   have hb:c0.B id=c.B id:=by simp [c0,hi]
   cases HV:c0.B id with
   | none=>rw [hx,HV] at he; cases le <;> simp [bw] at he
   | some be =>
    obtain ⟨eF,h1,h2⟩:=hg.A9 id be hi HV
    exact ⟨be,eF,by rw [← hb]; exact HV,h1,h2⟩
 have sZ:∀ id,mc id ≠ .none→mJ id ≠ .none:=by
  intro id hi gx
  have he:=iH.gE id
  rw [gx] at he
  simp only [bw] at he
  obtain ⟨be,eF,_,h2,_⟩:=Fc id hi
  rw [he] at h2; cases h2
 have MR:∀ id be,c.B id=some be→mc id=.none→mJ id=.none:=by
  intro id be hb hi
  by_cases gx:mJ id=.none
  ·exact gx
  ·have:=hm.fresh (rA id hi gx); rw [this] at hb; cases hb
 have Lf:¬ (fun id=>mc id ≠ .none) dv:=fun h'=>h' wq
 have NZ:hD c0 c1:=hg.keeps Lf pM
 let c':Cx:=⟨c1.w,fun id=>if mJ id=.none then c.B id else c1.B id,c.O,c1.Q⟩
 have Aw : ∀ b, c'.X b ↔ c1.X b := by
  intro b
  constructor
  ·rintro ((hO | hQ) | ⟨id,be,h2,h3⟩)
   ·exact .inl (.inl (by rw [hg.O]; exact .inl hO))
   ·exact .inl (.inr hQ)
   ·by_cases hi:mJ id=.none
    ·simp only [c',hi,if_true] at h2
     have hn:mc id=.none:=by
      cases hx:mc id with
      | none=>rfl
      | some le=>exact absurd hi (sZ id (by simp [hx]))
     exact .inl (.inl (by rw [hg.O]; exact .inr ⟨id,be,hn,h2,h3⟩))
    ·simp only [c',hi,if_false] at h2; exact .inr ⟨id,be,h2,h3⟩
  ·rintro ((hO | hQ) | ⟨id,be,h2,h3⟩)
   ·rw [hg.O] at hO
    rcases hO with hO | ⟨id,be,h1,h2,h3⟩
    ·exact .inl (.inl hO)
    ·exact .inr ⟨id,be,by simp [c',MR id be h2 h1,h2],h3⟩
   ·exact .inl (.inr hQ)
   ·refine .inr ⟨id,be,?_,h3⟩
    have:mJ id ≠ .none:=fun hn=>by have:=iH.fresh hn; rw [this] at h2; cases h2
    simp [c',this,h2]
 have AH:c1.Le c':=⟨Nat.le_refl _,fun b _ hx=>⟨rfl,fun ov=>hx ((Aw b).1 ov)⟩,fun _ _ h=>⟨rfl,h⟩⟩
 have HQ:∀ id,jB (c1.B id) (c'.B id):=by
  intro id
  by_cases hi:mJ id=.none
  ·rw [iH.fresh hi]; trivial
  ·simp only [c',hi,if_false]; exact jB.refl _
 have I7:∀ id be,c.B id=some be→∃ eF,c'.B id=some eF∧be.kV eF:=by
  intro id be hb
  by_cases hi:mJ id=.none
  ·exact ⟨be,by simp [c',hi,hb],.refl be⟩
  ·simp only [c',hi,if_false]
   by_cases hc:mc id=.none
   ·have:=MR id be hb hc; exact absurd this hi
   ·obtain ⟨Ra,eF,h1,h2,h3⟩:=Fc id hc
    rw [hb] at h1; cases h1
    exact ⟨eF,h2,h3⟩
 have u1:∀ b,c0.own b→c.own b:=by
  rintro b ⟨id,be,h1,h2⟩
  by_cases hi:mc id=.none
  ·simp [c0,hi] at h1
  ·simp only [c0,hi,if_false] at h1; exact ⟨id,be,h1,h2⟩
 have jN:Grow pr c c':=by
  refine ⟨rfl,hg.os,hg.tape,hg.output,hg.drawn,hg.size,fun b hb ho _=>hg.jI b hb ?_ (.inr Lf),fun _ b n hb=>(NZ b n hb).2,fun b hb=>(hg.qn b hb).elim .inl (fun h=>h.elim (fun h=>.inr (.inl (u1 b h))) (fun h=>.inr (.inr h))),?_,fun id be _ hb=>I7 id be hb⟩
  ·rintro ⟨id,be,h1,h2⟩
   by_cases hi:mc id=.none
   ·simp [c0,hi] at h1
   ·simp only [c0,hi,if_false] at h1; exact ho ⟨id,be,h1,h2⟩
  ·rintro b ⟨id,be,h1,h2⟩
   by_cases hi:mJ id=.none
   ·simp only [c',hi,if_true] at h1; exact .inl ⟨id,be,h1,h2⟩
   ·simp only [c',hi,if_false] at h1
    rcases hg.own b ⟨id,be,h1,h2⟩ with ⟨j,eF,h3,h4⟩ | hs
    ·by_cases hj:mc j=.none
     ·simp [c0,hj] at h3
     ·simp only [c0,hj,if_false] at h3; exact .inl ⟨j,eF,h3,h4⟩
    ·exact .inr hs
 have dz:∀ id,jB (c.B id) (c'.B id):=by
  intro id
  cases hb:c.B id with
  | none=>trivial
  | some be =>
   obtain ⟨eF,h1,h2⟩:=I7 id be hb
   rw [h1]
   cases be with
   | box b n=>simp only [BE.kV] at h2; subst h2; exact jB.refl _
   | arr u k len ins=>simp only [BE.kV] at h2; obtain ⟨u',lG,lE,rfl,h3,h4⟩:=h2; exact ⟨_,_,_,rfl,h3,h4⟩
   | mp b=>simp only [BE.kV] at h2; subst h2; exact jB.refl _
 have mn:hD c c':=fun b n hb=>NZ b n hb
 refine ⟨v,c',rfl,rfl,⟨fun id=>?_,?_,?_,?_,fun b hb=>⟨?_,?_,(iH.cS b hb).2.2⟩⟩,av.mono AH lv v (fun id _=>HQ id) jY,jN,dz,mn⟩
 ·by_cases hi:mJ id=.none
  ·have hb:c'.B id=c.B id:=by simp [c',hi]
   have SF:m.over mJ id=m id:=by simp [Mem.over,hi]
   rw [SF,hb]
   refine (hm.gE id).mono (jN.le mn) dz fun be b h1 h2=>?_
   refine hg.jI b ((hm.gE id).lt h1 h2) ?_ (.inr Lf)
   rintro ⟨j,eF,h3,h4⟩
   by_cases hj:mc j=.none
   ·simp [c0,hj] at h3
   ·simp only [c0,hj,if_false] at h3
    have:=hm.inj id j be eF b h1 h3 h2 h4
    subst this
    exact absurd hi (sZ id hj)
  ·have hb:c'.B id=c1.B id:=by simp [c',hi]
   cases hx:mJ id with
   | none=>exact absurd hx hi
   | some le =>
    have SF:m.over mJ id=mJ id:=by simp [Mem.over,hx]
    rw [SF,hb]
    exact (iH.gE id).mono AH HQ fun _ _ _ _=>rfl
 ·intro i i' be eF b h1 h2 h3 h4
  by_cases hi:mJ i=.none <;> by_cases gx:mJ i'=.none
  ·simp only [c',hi,gx,if_true] at h1 h2; exact hm.inj i i' be eF b h1 h2 h3 h4
  ·simp only [c',hi,if_true] at h1
   simp only [c',gx,if_false] at h2
   refine absurd ?_ (iH.jZ b ⟨i',eF,h2,h4⟩)
   rw [hg.O]
   refine .inr ⟨i,be,?_,h1,h3⟩
   cases hx:mc i with
   | none=>rfl
   | some le=>exact absurd hi (sZ i (by simp [hx]))
  ·simp only [c',hi,if_false] at h1
   simp only [c',gx,if_true] at h2
   refine absurd ?_ (iH.jZ b ⟨i,be,h1,h3⟩)
   rw [hg.O]
   refine .inr ⟨i',eF,?_,h2,h4⟩
   cases hx:mc i' with
   | none=>rfl
   | some le=>exact absurd gx (sZ i' (by simp [hx]))
  ·simp only [c',hi,gx,if_false] at h1 h2; exact iH.inj i i' be eF b h1 h2 h3 h4
 ·rintro b ⟨id,be,h1,h2⟩ hO
  by_cases hi:mJ id=.none
  ·simp only [c',hi,if_true] at h1; exact hm.jZ b ⟨id,be,h1,h2⟩ hO
  ·simp only [c',hi,if_false] at h1; exact iH.jZ b ⟨id,be,h1,h2⟩ (by rw [hg.O]; exact .inl hO)
 ·intro b hO; exact Nat.lt_of_lt_of_le (hm.pw b hO) hg.size
 ·intro hO; exact (iH.cS b hb).1 (by rw [hg.O]; exact .inl hO)
 ·rintro ⟨id,be,h1,h2⟩
  by_cases hi:mJ id=.none
  ·simp only [c',hi,if_true] at h1
   have hn:mc id=.none:=by
    cases hx:mc id with
    | none=>rfl
    | some le=>exact absurd hi (sZ id (by simp [hx]))
   exact (iH.cS b hb).1 (by rw [hg.O]; exact .inr ⟨id,be,hn,h1,h2⟩)
  ·simp only [c',hi,if_false] at h1; exact (iH.cS b hb).2.1 ⟨id,be,h1,h2⟩
def Cx.OQ (c' c:Cx):Prop:=c'.O=c.O∧c'.Q=c.Q
theorem Cx.OQ.refl (c:Cx):c.OQ c:=⟨rfl,rfl⟩
theorem Cx.OQ.U {c' c:Cx} (h:c'.OQ c) {b:Nat} (hb:c'.U b):c.U b:=by unfold Cx.U at *; rw [h.1,h.2] at hb; exact hb
theorem Cx.sub_le {c c':Cx} (hw:c'.w=c.w) (hO:c'.OQ c) (bj:∀ b,c'.own b→c.own b):c.Le c' :=
 ⟨by rw [hw]; exact Nat.le_refl _,fun b _ hx=>⟨by rw [hw],fun ov=>hx (ov.imp hO.U (bj b))⟩,fun b n hb=>⟨by rw [hw],by rw [hO.2]; exact hb⟩⟩
theorem Cx.ni {pr:Nat→Prop} {c c':Cx} (hw:c'.w=c.w) (hO:c'.OQ c) (bj:∀ b,c'.own b→c.own b) (hp:∀ id be,pr id→c.B id=some be→∃ eF,c'.B id=some eF∧be.kV eF):Grow pr c c' :=
 ⟨hO.1,by rw [hw],by rw [hw],by rw [hw],by rw [hw]; exact Nat.le_refl _,by rw [hw]; exact Nat.le_refl _,fun b _ _ _=>by rw [hw],fun _ b n hb=>by rw [hO.2]; exact hb,fun b hb=>.inl (by rw [hO.2] at hb; exact hb),fun b ho=>.inl (bj b ho),hp⟩
theorem Grow.sub {pr:Nat→Prop} {c c1 c':Cx} (h:Grow pr c c1) (hw:c'.w=c1.w) (hO:c'.OQ c1) (bj:∀ b,c'.own b→c1.own b) (hp:∀ id be,pr id→c.B id=some be→∃ eF,c'.B id=some eF∧be.kV eF):Grow pr c c' :=
 ⟨hO.1.trans h.O,by rw [hw]; exact h.os,by rw [hw]; exact h.tape,by rw [hw]; exact h.output,by rw [hw]; exact h.drawn,by rw [hw]; exact h.size,fun b hb ho hq=>by rw [hw]; exact h.jI b hb ho hq,fun hp b n hb=>by rw [hO.2]; exact h.q hp b n hb,fun b hb=>h.qn b (by rw [hO.2] at hb; exact hb),fun b ho=>h.own b (bj b ho),hp⟩
theorem b3.nq {c c':Cx} {m:Mem} (h:b3 c m) (hw:c'.w=c.w) (hO:c'.OQ c) (bj:∀ b,c'.own b→c.own b):∀ b,c'.Q b ≠ .none→¬ c'.O b∧¬ c'.own b∧b<c'.w.heap.size:=fun b hb=>by
 rw [hO.2] at hb; rw [hO.1,hw]
 exact ⟨(h.cS b hb).1,fun ho=>(h.cS b hb).2.1 (bj b ho),(h.cS b hb).2.2⟩
theorem b3.U9 {c c':Cx} {m:Mem} (h:b3 c m) (hO:c'.OQ c) (eK:c.w.heap.size≤c'.w.heap.size) (bj:∀ b,c'.own b→c.own b ∨ c.w.heap.size≤b):∀ b,c'.Q b ≠ .none→¬ c'.O b∧¬ c'.own b∧b<c'.w.heap.size:=fun b hb=>by
 rw [hO.2] at hb; rw [hO.1]
 exact ⟨(h.cS b hb).1,fun ho=>(bj b ho).elim (h.cS b hb).2.1 (fun hs=>by have:=(h.cS b hb).2.2; omega),Nat.lt_of_lt_of_le (h.cS b hb).2.2 eK⟩
theorem b3.FU {c c':Cx} {m:Mem} (h:b3 c m) (hO:c'.OQ c) (gC:∀ b,b<c.w.heap.size→¬ c.own b→c'.w.heap[b]?=c.w.heap[b]?):hD c c':=fun b n hb=>by
 have hn:=h.cS b (by rw [hb]; simp)
 exact ⟨gC b hn.2.2 hn.2.1,by rw [hO.2]; exact hb⟩
theorem b3.TW {c:Cx} {m:Mem} (h:b3 c m) {b:Nat} (hb:c.own b):¬ c.U b:=fun hu=>hu.elim (h.jZ b hb) (fun hq=>(h.cS b hq).2.1 hb)
end Go.L
namespace Go.L
def tsize (P:Program) (t:TypeId):Nat:=((P.info? t).map (·.size)).getD 0
def tagg (P:Program) (t:TypeId):Bool:=match P.underlying t with | some (.struct _)=>true | some (.array _ _)=>true | _=>false
def tok (P:Program) (t:TypeId):Bool:=(P.info? t).isSome && (P.underlying t).isSome
def telem (P:Program) (t:TypeId):Option Nat:=match P.underlying t with | some (.slice e)=>some e | _=>.none
def tfield (P:Program) (t:TypeId) (f:Nat):Option (Nat × Nat):=match P.underlying t with | some (.struct fs)=>(fs[f]?).map fun x=>(x.offset,x.type) | _=>.none
def vK (P:Program) (t:TypeId):Bool:=match P.underlying t with | some .bool=>true | _=>false
def tint (P:Program) (t:TypeId):Option IntKind:=match P.underlying t with | some (.int k)=>some k | _=>.none
def gz (P:Program) (t:TypeId):Bool:=match P.info? t with
 | some i=>(match i.zero with | some z=>z.cells.size == i.size && z.cells.all (·.oneCell') | .none=>false) && decide (0<i.size) && decide (i.bytes≤256)
 | .none=>false
def uF:Value→LV
 | .int k n=>.int k n
 | .bool b=>.bool b
 | .slice .none 0 0=>.nil
 | .pointer .none=>.fj
 | .nilFunc=>.k5
 | .string s=>.str s
 | _=>.eD
def Ds:Value→LV
 | .agg cs=>.agg (cs.toList.map uF)
 | v=>uF v
def tzero (P:Program) (t:TypeId):Option LV:=match P.info? t with
 | some i=>(match i.zero with | some z=>if z.cells.all (·.oneCell') then some (Ds z) else .none | .none=>.none)
 | .none=>.none
def tbuild (P:Program) (t:TypeId):Bool:=match P.underlying t with
 | some (.struct fields)=>(fields.toList.mapM (fun f=>(P.info? f.type).map fun i=>(f.offset,i.size))).isSome
 | _=>false
def da (e:Env):Operand→LV
 | .tmp t=>e t
 | .const v=>Ds v
 | .global _=>.eD
 | .func f=>.fn f []
def rep (cs:List LV) (o:Nat) (ns:List LV):List LV:=cs.take o++ns++cs.drop (o+ns.length)
def kj:LV→Option Value
 | .int k n=>some (.int k n)
 | .bool b=>some (.bool b)
 | _=>.none
def ew:List LV→Option (List Value)
 | []=>some []
 | x :: xs=>match kj x,ew xs with | some v,some vs=>some (v :: vs) | _,_=>.none
def oh (P:Program) (t:TypeId) (xs ys:List LV) (b:Bool):Prop :=
 P.eqGuardType P.depth t=false∧∃ vs us,ew xs=some vs∧ew ys=some us∧∀ w,(Op.equal t (.agg vs.toArray) (.agg us.toArray)).run P w=.ok b w
def loadC (P:Program) (t:TypeId) (cs:List LV) (K:LV→Prop):Prop :=
 tok P t=true∧if tagg P t=true then tsize P t≤cs.length∧K (.agg (cs.take (tsize P t))) else match cs with | x :: _=>K x | []=>False
def oV (op:BinOp) (k:IntKind) (a b:Int) (K:LV→Prop):Prop :=
 match op with
 | .add=>K (.int k (k.wrap (a+b)))
 | .sub=>K (.int k (k.wrap (a - b)))
 | .mul=>K (.int k (k.wrap (a * b)))
 | .quo=>b ≠ 0∧K (.int k (k.wrap (a.tdiv b)))
 | .rem=>b ≠ 0∧K (.int k (a.tmod b))
 | .eql=>K (.bool (a == b))
 | .neq=>K (.bool (a != b))
 | .lss=>K (.bool (decide (a<b)))
 | .leq=>K (.bool (decide (a≤b)))
 | .gtr=>K (.bool (decide (a > b)))
 | .geq=>K (.bool (decide (a ≥ b)))
 | _=>False
def mr (P:Program) (t:TypeId):List LV→List (Nat × LV)→Option (List LV)
 | cs,[]=>some cs
 | cs,(i,x) :: r=>match tfield P t i with
  | some (off,ft)=>if x.cells.length=tsize P ft∧off+x.cells.length≤cs.length∧tok P ft=true∧x.cells.all LV.scalar=true then mr P t (rep cs off x.cells) r else .none
  | .none=>.none
def zl (y:LV) (o:Nat) (x:LV):Option LV :=
 match y with
 | .agg cs=>if o+x.cells.length≤cs.length∧cs.all LV.scalar=true then some (.agg (rep cs o x.cells)) else .none
 | _=>if o=0∧x.scalar=true∧y.scalar=true then some x else .none
def BI (P:Program) (f:Nat) (args:List LV) (m:Mem) (K:LV→Mem→Prop):Prop :=
 ∃ lv mc mJ,aO P f args mc lv mJ∧(∀ id,mc id ≠ .none→m id=mc id)∧(∀ id,mc id=.none→mJ id ≠ .none→m id=.none) ∧
  (∀ id,LV.cu id args=false→mc id ≠ .none)∧mc dv=.none∧(∀ id le,mc id=some le→∀ j,le.k6 j=false→mc j ≠ .none)∧K lv (m.over mJ)
def Src (k:Nat) (y:LV) (ys:List LV):Prop:=y=.al k ys ∨ (y=.nil∧ys=[]) ∨ ∃ t e,y=.aJ t e k ys
def qX (k:Nat) (xs:List LV):Prop:=∀ x ∈ xs,x.pure=true∧x.cells.length=k∧x.cells.all LV.scalar=true
def LOp (P:Program) (pr:Nat→Prop) (ro:List Nat) (o:Oper) (ev:Operand→LV) (m:Mem) (K:LV→Mem→Prop):Prop :=
 match o.op with
 | .move x=>K (ev x) m
 | .assign x=>K (ev x) m
 | .pick c a b=>match ev c with | .bool t=>K (if t then ev a else ev b) m | _=>False
 | .alloc t=>match tzero P t,o.dst with
  | some z,some d=>m (100+d)=.none∧K (.ptr (100+d) 0) (m.put (100+d) (.box z.cells))
  | _,_=>False
 | .box _ x=>match o.dst with
  | some d=>(ev x).cells.all LV.scalar=true ∧
   if ro.contains d=true then K (.ag (ev x).cells) m
   else m (100+d)=.none∧K (.ptr (100+d) 0) (m.put (100+d) (.box (ev x).cells))
  | .none=>False
 | .build t parts=>tbuild P t=true∧match tzero P t with
  | some (.agg z)=>match mr P t z (parts.toList.map fun p=>(p.1,ev p.2)) with
   | some cs=>K (.agg cs) m
   | .none=>False
  | _=>False
 | .buildSlice t len parts=>match telem P t with
  | some e=>gz P e=true∧len * tsize P e≤16777216∧parts.toList.map (·.1)=List.range len∧qX (tsize P e) (parts.toList.map fun p=>ev p.2)∧K (.al (tsize P e) (parts.toList.map fun p=>ev p.2)) m
  | .none=>False
 | .load t a=>match ev a with
  | .ag cs=>loadC P t cs fun lv=>K lv m
  | .ptr id o=>match m id with
   | some (.box cs)=>o≤cs.length∧loadC P t (cs.drop o) fun lv=>K lv m
   | _=>False
  | .bE id n i o=>match m id with
   | some (.arr _ _ xs)=>n=xs.length∧∃ x,xs[i]?=some x∧x.cells.all LV.scalar=true∧o≤x.cells.length∧loadC P t (x.cells.drop o) fun lv=>K lv m
   | _=>False
  | _=>False
 | .store t a x=>(ev x).cells.all LV.scalar=true∧tok P t=true∧tsize P t=(ev x).cells.length∧match ev a with
  | .ptr id o=>match m id with
   | some (.box cs)=>o+(ev x).cells.length≤cs.length∧K .eD (m.put id (.box (rep cs o (ev x).cells)))
   | _=>False
  | .bE id n i o=>match m id with
   | some (.arr e k xs)=>n=xs.length∧LV.bo (ev x).cells=true∧∃ y z,xs[i]?=some y∧zl y o (ev x)=some z∧K .eD (m.put id (.arr e k (xs.set i z)))
   | _=>False
  | _=>False
 | .nilCheck x=>match ev x with
  | .ptr _ _=>K (ev x) m
  | .ag _=>K (ev x) m
  | .bE id n _ _=>(match m id with | some (.arr _ _ xs)=>n=xs.length | _=>False)∧K (ev x) m
  | .fn _ _=>K (ev x) m
  | _=>False
 | .binOp op t x y _=>match ev x,ev y with
  | .int k a,.int k' b=>k=k'∧oV op k a b fun lv=>K lv m
  | .bool a,.bool b=>vK P t=true∧(match op with | .eql=>K (.bool (a == b)) m | .neq=>K (.bool (!(a == b))) m | _=>False)
  | .agg xs,.agg ys=>∃ b,oh P t xs ys b∧(match op with | .eql=>K (.bool b) m | .neq=>K (.bool (!b)) m | _=>False)
  | _,_=>False
 | .unOp op _ x=>match op,ev x with
  | .not,.bool b=>K (.bool (!b)) m
  | .neg,.int k n=>K (.int k (k.wrap (0 - n))) m
  | _,_=>False
 | .convert s t x=>tok P s=true∧match tint P t,ev x with
  | some k,.int _ n=>K (.int k (k.wrap n)) m
  | _,_=>False
 | .slice t x lo hi mx=>(telem P t).isSome=true∧tok P ((telem P t).getD 0)=true∧mx=.none∧match ev x with
  | .al k xs=>some k=(telem P t).map (tsize P)∧∃ l h:Nat,(match lo with | .none=>l=0 | some y=>ev y=.int .i64 l)∧(match hi with | .none=>h=xs.length | some y=>ev y=.int .i64 h) ∧
    l≤h∧h≤xs.length∧K (.al k ((xs.take h).drop l)) m
  | .nil=>(match lo with | .none=>True | some y=>ev y=.int .i64 0)∧(match hi with | .none=>True | some y=>ev y=.int .i64 0)∧K .nil m
  | _=>False
 | .fieldAddr t x f=>match tfield P t f with
  | some (off,ft)=>tok P ft=true∧tsize P ft ≠ 0∧match ev x with
   | .ag cs=>off≤cs.length∧K (.ag (cs.drop off)) m
   | .ptr id o=>K (.ptr id (o+off)) m
   | .bE id n i o=>(match m id with | some (.arr _ _ xs)=>n=xs.length | _=>False)∧K (.bE id n i (o+off)) m
   | _=>False
  | .none=>False
 | .field t x f=>match tfield P t f,ev x with
  | some (off,ft),.agg cs=>off≤cs.length∧loadC P ft (cs.drop off) fun lv=>K lv m
  | _,_=>False
 | .indexAddr t x i=>match telem P t,ev x,ev i with
  | some e,.al k xs,.int _ n=>tok P e=true∧k=tsize P e∧0≤n∧∃ y,xs[n.toNat]?=some y∧y.cells.all LV.scalar=true∧K (.ag y.cells) m
  | some e,.arr id l,.int _ n=>match m id with
   | some (.arr _ k xs)=>tok P e=true∧l=xs.length∧k=tsize P e∧0≤n∧n<l∧K (.bE id l n.toNat 0) m
   | _=>False
  | _,_,_=>False
 | .extract t i=>match ev t with
  | .cV vs=>∃ v,vs[i]?=some v∧K v m
  | _=>False
 | .makeFunc f first cap=>match f with
  | .func f=>first=#[]∧K (.fn f (cap.toList.map ev)) m
  | _=>False
 | .makeSlice t l c=>match telem P t,tzero P ((telem P t).getD 0),ev l,ev c,o.dst with
  | some e,some z,.int .i64 n,.int .i64 n',some d=>n=n'∧0≤n∧n≤549755813888∧gz P e=true∧z.pure=true∧m (100+d)=.none ∧
    K (.arr (100+d) n.toNat) (m.put (100+d) (.arr e (tsize P e) (List.replicate n.toNat z)))
  | _,_,_,_,_=>False
 | .call c=>match c.callee with
  | .builtin .len=>match c.args.toList,c.argTypes.toList with
   | [x],[t]=>(telem P t).isSome=true∧match ev x with
    | .al _ xs=>K (.int .i64 xs.length) m
    | .nil=>K (.int .i64 0) m
    | .arr id n=>(match m id with | some (.arr _ _ xs)=>n=xs.length | _=>False)∧K (.int .i64 n) m
    | _=>False
   | _,_=>False
  | .builtin .append=>match c.args.toList,c.argTypes.toList with
   | [x, y], [t, t'] => t = t' ∧ match telem P t with
    | some e=>gz P e=true∧∃ ys,Src (tsize P e) (ev y) ys∧match ev x with
     | .arr id n=>¬ pr id∧match m id with
      | some (.arr e' k xs)=>e'=e∧k=tsize P e∧n=xs.length∧xs.length+ys.length≤549755813888∧K (.arr id (n+ys.length)) (m.put id (.arr e k (xs++ys)))
      | _=>False
     | .nil=>match o.dst with
      | some d=>m (100+d)=.none∧ys.length≤549755813888∧K (.arr (100+d) ys.length) (m.put (100+d) (.arr e (tsize P e) ys))
      | .none=>False
     | _=>False
    | .none=>False
   | _,_=>False
  | .value x=>match ev x with
   | .fn f cap => (∃ fn, P.funcs[f]? = some fn ∧ (fn.name == "runtime.NumGoroutine") = false ∧ fn.body.isNone = false) ∧ BI P f (c.args.toList.map ev ++ cap) m K
   | _=>False
  | _=>False
 | _=>False
def BJ (P:Program) (pr:Nat→Prop) (ro:List Nat) (ops:Array Oper) (o:Oper) (K:Env→Mem→Prop) (e:Env) (m:Mem):Prop :=
 match o.guard with
 | .none=>LOp P pr ro o (da e) m fun lv m'=>K (e.fM o.dst lv) m'
 | some (j,want)=>match (ops[j]?).bind (·.dst) with
  | some g=>match e g with
   | .bool t=>if t=want then LOp P pr ro o (da e) m fun lv m'=>K (e.fM o.dst lv) m' else K (e.fM o.dst (.cV [])) m
   | .cV []=>K (e.fM o.dst (.cV [])) m
   | _=>False
  | .none=>False
def cj (P:Program) (pr:Nat→Prop) (o:Oper) (ev:Operand→LV) (m:Mem) (lv:LV) (m':Mem):Prop :=
 ∀ (c:Cx) (a:Act) (Q:Exit→Act→World→Prop),(∀ x,av c (ev x) (a.eval x))→b3 c m →
  o.wp P a c.w (fun a' w'=>∃ v c',a'=a.put o.dst v∧c'.w=w'∧av c' lv v∧b3 c' m'∧Step pr c c') Q
end Go.L
namespace Go.L
section lists
theorem gw (v:Value) (vs:List Value):flat (v :: vs)=v.cells.toList++flat vs:=rfl
theorem eI (vs us:List Value):flat (vs++us)=flat vs++flat us:=by simp [flat]
theorem dm {k:Nat}:∀ {vs:List Value},(∀ v ∈ vs,v.cells.size=k)→(flat vs).length=vs.length * k
 | [],_=>by simp [flat]
 | v :: vs,h=>by
  rw [gw,List.length_append,dm (k:=k) (fun u hu=>h u (by simp [hu])),List.length_cons,Array.length_toList,h v (by simp),Nat.add_mul,Nat.one_mul,Nat.add_comm]
theorem fY {k:Nat} {vs:List Value} (h:∀ v ∈ vs,v.cells.size=k) {i:Nat} {u:Value} (hu:vs[i]?=some u) :
  flat vs=flat (vs.take i)++(u.cells.toList++flat (vs.drop (i+1)))∧(flat (vs.take i)).length=i * k:=by
 have hi:i<vs.length:=(List.getElem?_eq_some_iff.1 hu).1
 have he:vs[i]=u:=(List.getElem?_eq_some_iff.1 hu).2
 constructor
 ·rw [← gw,← he,← List.drop_eq_getElem_cons hi,← eI,List.take_append_drop]
 ·rw [dm (k:=k) (fun v hv=>h v (List.mem_of_mem_take hv)),List.length_take,Nat.min_eq_left (by omega)]
theorem iA {w:World} {b off:Nat} {l1 l2 l3:List Value} (h:w.rangeAt b off (l1++(l2++l3))):w.rangeAt b (off+l1.length) l2:=by
 intro j v hv
 have hj:j<l2.length:=(List.getElem?_eq_some_iff.1 hv).1
 have:=h (l1.length+j) v (by rw [List.getElem?_append_right (by omega)]; simp [List.getElem?_append_left hj,hv])
 rw [Nat.add_assoc]; exact this
theorem fu {w:World} {b off:Nat} {l:List Value} (h:w.rangeAt b off l) (n:Nat):w.rangeAt b (off+n) (l.drop n):=by
 intro j v hv
 rw [List.getElem?_drop] at hv
 rw [Nat.add_assoc]; exact h (n+j) v hv
theorem wM {w:World} {b off:Nat} {l:List Value} (h:w.rangeAt b off l) (n:Nat):w.rangeAt b off (l.take n):=by
 intro j v hv
 refine h j v ?_
 rw [List.getElem?_take] at hv
 split at hv
 ·exact hv
 ·cases hv
theorem q9 (w:World) (vs:List Value) (t:TypeId):(w.alloc (.cells vs.toArray t)).rangeAt w.heap.size 0 vs:=by
 intro j v hv
 rw [World.cell?_alloc_new]
 simpa using hv
theorem nd {w:World} {b:Nat} {vs:List Value} {e:TypeId} {fr:Nat × Nat} (h:w.heap[b]?=some (.cells vs.toArray e fr)):w.rangeAt b 0 vs:=by
 intro j v hv
 simp [World.cell?,h,hv]
theorem cY {w:World} {e k n:Nat} {u:Value} {vs:List Value} (h:w.ownsRow 0 e k u n vs) {b:Nat} (hb:u.ownBlock=some b):w.rangeAt b 0 vs:=by
 intro j v hv
 have:=h.cells hb j v hv
 rw [Addr.add_mid] at this
 exact this
end lists
theorem tF {xs:List LV} (h:LV.bo xs=true) (n:Nat):LV.bo (xs.drop n)=true :=
 cK.2 fun x hx=>cK.1 h x (List.mem_of_mem_drop hx)
theorem tG {xs:List LV} (h:LV.bo xs=true) (n:Nat):LV.bo (xs.take n)=true :=
 cK.2 fun x hx=>cK.1 h x (List.mem_of_mem_take hx)
theorem j3 {xs ys:List LV} (h:LV.bo xs=true) (h':LV.bo ys=true):LV.bo (xs++ys)=true :=
 cK.2 fun x hx=>(List.mem_append.1 hx).elim (cK.1 h x) (cK.1 h' x)
theorem qA (c:Cx) (v:Value):av c (uF v) v:=by
 unfold uF
 split <;> simp [av]
theorem qz (c:Cx):∀ (vs:List Value),aC c (vs.map uF) vs
 | []=>by simp [aC]
 | v :: vs=>by simp only [List.map_cons,aC]; exact ⟨v,vs,rfl,qA c v,qz c vs⟩
theorem ng (c:Cx) (v:Value):av c (Ds v) v:=by
 unfold Ds
 split
 ·rename_i cs; simp only [av]; exact ⟨cs.toList,by simp,qz c _⟩
 ·exact qA c v
theorem A3 (v:Value):(uF v).cells=[uF v]:=by
 unfold uF
 split <;> rfl
theorem nf (c:Cx) (z:Value):aC c (Ds z).cells z.cells.toList:=by
 unfold Ds
 split
 ·rename_i cs; simp only [LV.cells,Value.cells]; exact qz c _
 ·rename_i h
  rw [A3]
  have:z.cells=#[z]:=by cases z <;> simp_all [Value.cells]
  rw [this]
  simp only [aC]
  exact ⟨z,[],rfl,qA c z,rfl⟩
section ops
variable {P:Program} {pr:Nat→Prop} {o:Oper} {ev:Operand→LV} {m m':Mem} {lv:LV}
theorem cj.value (h:∀ (c:Cx) (a:Act),(∀ x,av c (ev x) (a.eval x))→b3 c m→∃ v c',(execOp a.eval o).run P c.w=.ok (.value v) c'.w∧av c' lv v∧b3 c' m'∧Step pr c c'):cj P pr o ev m lv m':=by
 intro c a Q bA hm
 obtain ⟨v,c',hr,h1,h2,h3⟩:=h c a bA hm
 unfold Oper.wp
 rw [hr]
 exact ⟨v,c',rfl,rfl,h1,h2,h3⟩
theorem cj.same (h:∀ (c:Cx) (a:Act),(∀ x,av c (ev x) (a.eval x))→b3 c m→∃ v,(execOp a.eval o).run P c.w=.ok (.value v) c.w∧av c lv v):cj P pr o ev m lv m :=
 cj.value fun c a bA hm=>let ⟨v,hr,h1⟩:=h c a bA hm; ⟨v,c,hr,h1,hm,Step.refl pr c⟩
theorem Ch (x:Operand) (ho:o.op=.move x ∨ o.op=.assign x):cj P pr o ev m (ev x) m :=
 cj.same fun c a bA _=>⟨a.eval x,by rcases ho with ho | ho <;> simp [execOp,ho],bA x⟩
theorem Is (x y z:Operand) (t:Bool) (ho:o.op=.pick x y z) (hx:ev x=.bool t):cj P pr o ev m (if t then ev y else ev z) m :=
 cj.same fun c a bA _=>by
  have h:=bA x
  rw [hx] at h
  simp only [av] at h
  refine ⟨if t then a.eval y else a.eval z,?_,?_⟩
  ·simp [execOp,ho,h,asBool]
  ·cases t
   ·exact bA z
   ·exact bA y
theorem Cf {c:Cx} {m:Mem} (hm:b3 c m) (id:Nat) (bB:m id=.none) (cs:List LV) (vs:List Value) (t:TypeId) (hl:aC c cs vs) (h1:∀ v ∈ vs,v.oneCell'=true) :
  ∃ c':Cx,c'.w=c.w.alloc (.cells vs.toArray t)∧av c' (.ptr id 0) (.pointer (some ⟨c.w.heap.size,0,.none⟩))∧b3 c' (m.put id (.box cs))∧Step pr c c':=by
 have hB:=hm.fresh bB
 obtain ⟨c',hw,hb,h2,h3⟩:=hm.Ac (pr:=pr) id (.box cs) (.box c.w.heap.size cs.length) (c.w.alloc (.cells vs.toArray t)) rfl rfl rfl (Nat.le_refl _) (by simp)
  (fun b hb _=>oq c.w _ b hb) (fun b hb=>by simp [BE.has] at hb; exact .inr (by omega)) (by rw [hB]; trivial) (fun _ dr h0=>by rw [hB] at h0; cases h0)
  (fun c' hw hle dz=>by
   simp only [bw]
   exact ⟨c.w.heap.size,vs,t,rfl,by rw [hw]; exact heap_alloc_new c.w _,aC.mono hle cs vs (fun id _=>dz id) hl,h1⟩)
 exact ⟨c',hw,by simp only [av]; exact ⟨_,_,hb,rfl⟩,h2,h3⟩
theorem yn (t:TypeId) (d:Nat) (z:LV) (ho:o.op=.alloc t) (hz:tzero P t=some z) (bB:m (100+d)=.none):cj P pr o ev m (.ptr (100+d) 0) (m.put (100+d) (.box z.cells)) :=
 cj.value fun c a bA hm=>by
  unfold tzero at hz
  split at hz
  ·rename_i i hi
   split at hz
   ·rename_i zv AX
    split at hz
    ·rename_i my
     cases hz
     have La:∀ v ∈ zv.cells.toList,v.oneCell'=true:=fun v hv=>(Array.all_eq_true_iff_forall_mem.1 my) v (by simpa using hv)
     obtain ⟨c',hw,hr,h2,h3⟩:=Cf (pr:=pr) hm (100+d) bB (Ds zv).cells zv.cells.toList t (nf c zv) La
     refine ⟨_,c',?_,hr,h2,h3⟩
     rw [hw]
     simp [execOp,ho,Instr.alloc,zeroValue,typeInfo,hi,AX,newVar,newRow]
    ·cases hz
   ·cases hz
  ·cases hz
theorem Ma (t:TypeId) (x:Operand) (d:Nat) (ho:o.op=.box t x) (hs:(ev x).cells.all LV.scalar=true) (bB:m (100+d)=.none):cj P pr o ev m (.ptr (100+d) 0) (m.put (100+d) (.box (ev x).cells)) :=
 cj.value fun c a bA hm=>by
  obtain ⟨hl,h1⟩:=(bA x).cellsOf hs
  obtain ⟨c',hw,hr,h2,h3⟩:=Cf (pr:=pr) hm (100+d) bB (ev x).cells (a.eval x).cells.toList t hl (fun v hv=>h1 v (by simpa using hv))
  refine ⟨_,c',?_,hr,h2,h3⟩
  rw [hw]
  simp [execOp,ho,Instr.box,newVar,newRow]
theorem Dt (t:TypeId) (x:Operand) (ho:o.op=.box t x) (hs:(ev x).cells.all LV.scalar=true):cj P pr o ev m (.ag (ev x).cells) m :=
 cj.value fun c a bA hm=>by
  obtain ⟨hl,h1⟩:=(bA x).cellsOf hs
  obtain ⟨h2,h3⟩:=hm.ext (pr:=pr) (c.w.alloc (.cells (a.eval x).cells.toList.toArray t)) rfl rfl rfl (Nat.le_refl _) (by simp) (fun b hb=>oq c.w _ b hb)
  refine ⟨.pointer (some ⟨c.w.heap.size,0,.none⟩),_,by simp [execOp,ho,Instr.box,newVar,newRow],?_,h2,h3⟩
  simp only [av]
  refine ⟨c.w.heap.size,0,(a.eval x).cells.toList,rfl,by simp,?_,h3.QM hl,fun v hv=>h1 v (by simpa using hv),q9 c.w _ t⟩
  exact hm.PT (Nat.le_refl _)
theorem gm {w:World} {t:TypeId} {b off:Nat} {cs:List LV} {vs:List Value} {c:Cx} (ht:tok P t=true) (hl:aC c cs vs) (hr:w.rangeAt b off vs) :
  (tagg P t=true→tsize P t≤cs.length→(Instr.loadAt t (.pointer (some ⟨b,off,.none⟩))).run P w=.ok (.agg (vs.take (tsize P t)).toArray) w) ∧
  (tagg P t=false→∀ v fI,vs=v :: fI→(Instr.loadAt t (.pointer (some ⟨b,off,.none⟩))).run P w=.ok v w):=by
 unfold tok at ht
 cases hi:P.info? t with
 | none=>simp [hi] at ht
 | some i =>
  cases hu:P.underlying t with
  | none=>simp [hu] at ht
  | some d =>
   constructor
   ·intro hg hs
    have eH:tsize P t=i.size:=by simp [tsize,hi]
    refine run_loadAt_mid w b off t _ d (wM hr _) hu ?_ ?_
    ·simp only [tagg,hu] at hg
     cases d <;> simp_all
    ·simp only [hi,Option.map_some,List.length_take,eH]
     rw [eH,hl.length] at hs
     rw [Nat.min_eq_left hs]
   ·intro hg v fI he
    subst he
    have hc:w.cell? ⟨b,off,.none⟩=some v:=by simpa using hr 0 v (by simp)
    have EY:(isAgg t).run P w=.ok false w:=by
     unfold isAgg
     rw [Sem.run_bind,run_underlying hu w]
     simp only [tagg,hu] at hg
     cases d <;> simp_all
    simp [Instr.loadAt,Instr.sureAddr,loadVar,Sem.run_bind,EY,hc]
theorem hY {t:TypeId} {cs:List LV} {K:LV→Prop} (h:loadC P t cs K) :
  ∃ lv,K lv∧∀ (c:Cx) (b off:Nat) (vs:List Value),aC c cs vs→c.w.rangeAt b off vs→∃ v,(Instr.loadAt t (.pointer (some ⟨b,off,.none⟩))).run P c.w=.ok v c.w∧av c lv v:=by
 obtain ⟨ht,h⟩:=h
 by_cases hg:tagg P t=true
 ·rw [if_pos hg] at h
  refine ⟨_,h.2,fun c b off vs hl hr=>?_⟩
  refine ⟨_,(gm ht hl hr).1 hg h.1,?_⟩
  simp only [av]
  exact ⟨_,rfl,hl.take _⟩
 ·rw [if_neg hg] at h
  match cs,h with
  | x :: cs,h =>
   refine ⟨x,h,fun c b off vs hl hr=>?_⟩
   have iN:=hl
   simp only [aC] at iN
   obtain ⟨v,fI,rfl,hv,_⟩:=iN
   exact ⟨v,(gm ht hl hr).2 (by simpa using hg) v fI rfl,hv⟩
theorem o5 {t:TypeId} {x:Operand} (ho:o.op=.load t x)
  (h:∀ (c:Cx) (a:Act),(∀ x,av c (ev x) (a.eval x))→b3 c m→∃ b off,a.eval x=.pointer (some ⟨b,off,.none⟩)∧∃ v,(Instr.loadAt t (.pointer (some ⟨b,off,.none⟩))).run P c.w=.ok v c.w∧av c lv v):cj P pr o ev m lv m :=
 cj.same fun c a bA hm=>by
  obtain ⟨b,off,hx,v,hr,hv⟩:=h c a bA hm
  exact ⟨v,by simp [execOp,ho,hx,hr],hv⟩
end ops
end Go.L
namespace Go.L
section ops
variable {P:Program} {pr:Nat→Prop} {o:Oper} {ev:Operand→LV} {m m':Mem} {lv:LV}
theorem jj {c:Cx} {m:Mem} (hm:b3 c m) {id:Nat} {cs:List LV} (h:m id=some (.box cs)):∃ b vs e,c.B id=some (.box b cs.length)∧c.w.heap[b]?=some (.cells vs.toArray e (0,0))∧aC c cs vs∧∀ v ∈ vs,v.oneCell'=true:=by
 have:=hm.gE id
 rw [h] at this
 simp only [bw] at this
 exact this
theorem kf {c:Cx} {m:Mem} (hm:b3 c m) {id:Nat} {e k:Nat} {xs:List LV} (h:m id=some (.arr e k xs)):∃ u vs,c.B id=some (.arr u k xs.length [])∧0<k∧c.w.ownsRow 0 e k u xs.length (flat vs)∧aC c xs vs∧(∀ v ∈ vs,v.cells.size=k∧∀ y ∈ v.cells,y.oneCell'=true)∧LV.bo xs=true:=by
 have:=hm.gE id
 rw [h] at this
 simp only [bw] at this
 exact this
theorem HM {c:Cx} {m:Mem} (hm:b3 c m) {id n i off e k:Nat} {xs:List LV} {v:Value} (hv:av c (.bE id n i off) v) (bB:m id=some (.arr e k xs)) (hn:n=xs.length) {x:LV} (hx:xs[i]?=some x) (hs:x.cells.all LV.scalar=true) (ho:off≤x.cells.length) :
  ∃ b vs,v=.pointer (some ⟨b,i * k+off,.none⟩)∧aC c (x.cells.drop off) vs∧c.w.rangeAt b (i * k+off) vs:=by
 obtain ⟨u,vs,hB,hk,bj,hl,hc,hp⟩:=kf hm bB
 simp only [av] at hv
 obtain ⟨_,u',k',len,lE,iF,hle,hv⟩:=hv
 rw [hB] at iF
 cases iF
 obtain ⟨b,hb,rfl⟩:=hv hn
 obtain ⟨y,hy,Og⟩:=hl.get hx
 obtain ⟨h1,h2⟩:=fY (k:=k) (fun v hv=>(hc v hv).1) hy
 have gi:=cY bj hb
 rw [h1] at gi
 have:=iA gi
 rw [h2] at this
 simp only [Nat.zero_add] at this
 exact ⟨b,_,rfl,(Og.cellsOf hs).1.drop off,fu this off⟩
theorem By {t:TypeId} {x:Operand} {K:LV→Mem→Prop} (ho:o.op=.load t x) (h:LOp P pr [] o ev m K):∃ lv m',K lv m'∧cj P pr o ev m lv m':=by
 simp only [LOp,ho] at h
 cases hx:ev x <;> simp only [hx] at h
 case ag cs =>
  obtain ⟨lv,hK,hr⟩:=hY h
  refine ⟨lv,m,hK,o5 ho fun c a bA hm=>?_⟩
  have hv:=bA x
  rw [hx] at hv
  simp only [av] at hv
  obtain ⟨b,off,vs,he,_,_,hl,_,gi⟩:=hv
  exact ⟨b,off,he,hr c b off vs hl gi⟩
 case ptr id off =>
  cases hm:m id with
  | none=>simp [hm] at h
  | some le =>
   cases le with
   | map _ _ _=>simp [hm] at h
   | nest _ _ _ _=>simp [hm] at h
   | c6 _ _ _ _ _ _ _ _=>simp [hm] at h
   | dead=>simp [hm] at h
   | arr e k xs=>simp [hm] at h
   | box cs =>
    simp only [hm] at h
    obtain ⟨lv,hK,hr⟩:=hY h.2
    refine ⟨lv,m,hK,o5 ho fun c a bA hM=>?_⟩
    obtain ⟨b,vs,e,hB,hh,hl,h1⟩:=jj hM hm
    have hv:=bA x
    rw [hx] at hv
    simp only [av] at hv
    obtain ⟨b',n,iF,he⟩:=hv
    rw [hB] at iF
    cases iF
    have gi:=fu (nd hh) off
    simp only [Nat.zero_add] at gi
    exact ⟨b,off,he,hr c b off _ (hl.drop off) gi⟩
 case bE id n i off =>
  cases hm:m id with
  | none=>simp [hm] at h
  | some le =>
   cases le with
   | map _ _ _=>simp [hm] at h
   | nest _ _ _ _=>simp [hm] at h
   | c6 _ _ _ _ _ _ _ _=>simp [hm] at h
   | dead=>simp [hm] at h
   | box cs=>simp [hm] at h
   | arr e k xs =>
    simp only [hm] at h
    obtain ⟨hn,y,hy,hs,H5,h⟩:=h
    obtain ⟨lv,hK,hr⟩:=hY h
    refine ⟨lv,m,hK,o5 ho fun c a bA hM=>?_⟩
    have hv:=bA x
    rw [hx] at hv
    obtain ⟨b,vs,he,hl,gi⟩:=HM hM hv hm hn hy hs H5
    exact ⟨b,_,he,hr c b _ vs hl gi⟩
theorem gK {w:World} {t:TypeId} {b off:Nat} {cur:Array Value} {e:TypeId} {v:Value} (ht:tok P t=true) (hs:tsize P t=v.cells.size) (hh:w.heap[b]?=some (.cells cur e (0,0))) (hl:off+v.cells.size≤cur.size) (h1:∀ y ∈ v.cells,y.oneCell'=true) :
  (Instr.storeAt t (.pointer (some ⟨b,off,.none⟩)) v).run P w=.ok () (w.setRow b (cur.toList.take off++v.cells.toList++cur.toList.drop (off+v.cells.toList.length)).toArray):=by
 unfold tok at ht
 cases hi:P.info? t with
 | none=>simp [hi] at ht
 | some i =>
  have eH:v.cells.size=i.size:=by rw [← hs]; simp [tsize,hi]
  have kG:=run_storeCells_at (P:=P) b off e v.cells.toList 0 cur w hh (by simpa using hl) (fun y hy=>h1 y (by simpa using hy))
  simp only [Nat.add_zero] at kG
  simp [Instr.storeAt,Instr.sureAddr,storeVar,sizeOf,typeInfo,hi,eH,kG]
theorem cj.skip (h:∀ (c:Cx) (a:Act),(∀ x,av c (ev x) (a.eval x))→b3 c m→∃ c',(execOp a.eval o).run P c.w=.ok .skip c'.w∧b3 c' m'∧Step pr c c'):cj P pr o ev m .eD m':=by
 intro c a Q bA hm
 obtain ⟨c',hr,h2,h3⟩:=h c a bA hm
 unfold Oper.wp
 rw [hr]
 exact ⟨undef,c',rfl,rfl,by simp [av],h2,h3⟩
theorem Br {cs ns:List LV} {off:Nat} (h:off+ns.length≤cs.length):(rep cs off ns).length=cs.length:=by
 simp [rep]; omega
theorem zx {t:TypeId} {x y:Operand} {K:LV→Mem→Prop} (ho:o.op=.store t x y) (h:LOp P pr [] o ev m K):∃ lv m',K lv m'∧cj P pr o ev m lv m':=by
 simp only [LOp,ho] at h
 obtain ⟨uj,Oo,Ot,h⟩:=h
 cases hx:ev x <;> simp only [hx] at h
 case ptr id off =>
  cases hm:m id with
  | none=>simp [hm] at h
  | some le =>
   cases le with
   | map _ _ _=>simp [hm] at h
   | nest _ _ _ _=>simp [hm] at h
   | c6 _ _ _ _ _ _ _ _=>simp [hm] at h
   | dead=>simp [hm] at h
   | arr e k xs=>simp [hm] at h
   | box cs =>
    simp only [hm] at h
    obtain ⟨H5,hK⟩:=h
    refine ⟨_,_,hK,cj.skip fun c a bA hM=>?_⟩
    obtain ⟨b,vs,e,hB,hh,hl,h1⟩:=jj hM hm
    have hv:=bA x
    rw [hx] at hv
    simp only [av] at hv
    obtain ⟨b',n,iF,he⟩:=hv
    rw [hB] at iF
    cases iF
    obtain ⟨Dl,rS⟩:=(bA y).cellsOf uj
    have hlen:(ev y).cells.length=(a.eval y).cells.size:=by rw [Dl.length]; simp
    have lO:=hl.length
    have du:=gK (P:=P) (t:=t) (v:=a.eval y) (off:=off) Oo (by rw [Ot,hlen]) hh (by simp; omega) rS
    obtain ⟨c',hw,hb,h2,h3⟩:=hM.Ac (pr:=pr) id (.box (rep cs off (ev y).cells)) (.box b cs.length)
     (c.w.setRow b (vs.toArray.toList.take off++(a.eval y).cells.toList++vs.toArray.toList.drop (off+(a.eval y).cells.toList.length)).toArray) rfl rfl rfl (Nat.le_refl _) (by simp)
     (fun b' gH eA=>setRow_other _ _ _ _ (fun e=>eA _ hB (by rw [e]; exact rfl)))
     (fun b' gH=>.inl ⟨_,hB,gH⟩) (by rw [hB]; exact jB.refl _) (fun _ dr h0=>by rw [hB] at h0; cases h0; exact .refl _)
     (fun c' hw hle dz=>by
      simp only [bw]
      refine ⟨b,_,e,by rw [Br H5],by rw [hw]; exact setRow_heap c.w b _ _ e _ hh,?_,?_⟩
      ·refine aC.mono hle _ _ (fun id _=>dz id) ?_
       unfold rep
       rw [Dl.length]
       simp only [List.toList_toArray]
       exact ((hl.take off).append Dl).append (hl.drop _)
      ·intro v hv
       simp only [List.toList_toArray,List.mem_append] at hv
       rcases hv with (hv | hv) | hv
       ·exact h1 v (List.mem_of_mem_take hv)
       ·exact rS v (by simpa using hv)
       ·exact h1 v (List.mem_of_mem_drop hv))
    refine ⟨c',?_,h2,h3⟩
    rw [hw]
    simp [execOp,ho,he,du]
 case bE id n i off =>
  cases hm:m id with
  | none=>simp [hm] at h
  | some le =>
   cases le with
   | map _ _ _=>simp [hm] at h
   | nest _ _ _ _=>simp [hm] at h
   | c6 _ _ _ _ _ _ _ _=>simp [hm] at h
   | dead=>simp [hm] at h
   | box cs=>simp [hm] at h
   | arr e k xs =>
    simp only [hm] at h
    obtain ⟨hn,hp,z,z',hz,iP,hK⟩:=h
    refine ⟨_,_,hK,cj.skip fun c a bA hM=>?_⟩
    obtain ⟨u,vs,hB,hk,bj,hl,hc,Oc⟩:=kf hM hm
    have hv:=bA x
    rw [hx] at hv
    simp only [av] at hv
    obtain ⟨_,u',k',len,lE,iF,xU,hv⟩:=hv
    rw [hB] at iF
    cases iF
    obtain ⟨b,hb,he⟩:=hv hn
    obtain ⟨y',RA,Og⟩:=hl.get hz
    have hi:i<xs.length:=(List.getElem?_eq_some_iff.1 hz).1
    have Xf:y'.cells.size=k:=(hc y' (List.mem_of_getElem? RA)).1
    obtain ⟨Dl,rS⟩:=(bA y).cellsOf uj
    have hlen:(ev y).cells.length=(a.eval y).cells.size:=by rw [Dl.length]; simp
    obtain ⟨v',Th,Lz,UJ,TI⟩:∃ v',av c z' v'∧v'.cells.toList=y'.cells.toList.take off++(a.eval y).cells.toList++y'.cells.toList.drop (off+(a.eval y).cells.toList.length)∧off+(a.eval y).cells.size≤y'.cells.size∧z'.pure=true:=by
     unfold zl at iP
     split at iP
     ·rename_i cs
      split at iP
      ·rename_i E2
       cases iP
       simp only [av] at Og ⊢
       obtain ⟨zs,rfl,TK⟩:=Og
       refine ⟨.agg (zs.take off++(a.eval y).cells.toList++zs.drop (off+(a.eval y).cells.toList.length)).toArray,⟨_,rfl,?_⟩,by simp [Value.cells],?_,?_⟩
       ·unfold rep
        rw [Dl.length]
        exact ((TK.take off).append Dl).append (TK.drop _)
       ·have h5:=TK.length
        have h6:=E2.1
        show off+(a.eval y).cells.size≤zs.toArray.size
        simp only [List.size_toArray]; omega
       ·have UW:LV.bo cs=true:=by have:=cK.1 Oc _ (List.mem_of_getElem? hz); simpa [LV.pure] using this
        simp only [LV.pure,rep]
        exact j3 (j3 (tG UW _) hp) (tF UW _)
      ·cases iP
     ·split at iP
      ·rename_i E2
       obtain ⟨rfl,Ek,TH⟩:=E2
       cases iP
       have h1:=eP Ek (bA y)
       have h2:=eP TH Og
       refine ⟨a.eval y,bA y,?_,?_,?_⟩
       ·rw [dw h1,dw h2]; simp
       ·rw [dw h1,dw h2]; simp
       ·rw [mh Ek] at hp; simpa [LV.bo] using hp
      ·cases iP
    obtain ⟨N2,lT⟩:=bj
    rcases lT with ⟨rfl,h0⟩ | ⟨g,cap,cur,rfl,wi,hg,kq,zX,hcs,xk⟩
    ·omega
    ·simp only [Value.ownBlock,Option.some.injEq] at hb
     subst hb
     have HZ:i * k+k≤xs.length * k:=by
      have:=Nat.mul_le_mul_right k (show i+1≤xs.length by omega)
      rw [Nat.add_mul,Nat.one_mul] at this; exact this
     have UC:xs.length * k≤cap * k:=Nat.mul_le_mul_right k kq
     have xQ:i * k+off+(a.eval y).cells.size≤cur.size:=by omega
     have du:=gK (P:=P) (t:=t) (v:=a.eval y) (off:=i * k+off) Oo (by rw [Ot,hlen]) hg xQ rS
     obtain ⟨f1,f2⟩:=fY (k:=k) (fun v hv=>(hc v hv).1) RA
     have nG:=hl.length
     have NY:i<vs.length:=by omega
     have rA:flat (vs.set i v')=(flat vs).take (i * k+off)++(a.eval y).cells.toList++(flat vs).drop (i * k+off+(a.eval y).cells.toList.length):=by
      have e1:vs.set i v'=vs.take i++v' :: vs.drop (i+1):=by rw [List.set_eq_take_append_cons_drop,if_pos NY]
      rw [e1,eI,gw,Lz,f1,← f2]
      have e2:(a.eval y).cells.toList.length=(a.eval y).cells.size:=by simp
      have e3:y'.cells.toList.length=y'.cells.size:=by simp
      rw [List.take_length_add_append,Nat.add_assoc (flat (vs.take i)).length,List.drop_length_add_append,List.take_append_of_le_length (by omega),List.drop_append_of_le_length (by omega)]
      simp
     have KU:(cur.toList.take (i * k+off)++(a.eval y).cells.toList++cur.toList.drop (i * k+off+(a.eval y).cells.toList.length)).take (xs.length * k)=flat (vs.set i v'):=by
      rw [rA,← xk]
      have e2:(a.eval y).cells.toList.length=(a.eval y).cells.size:=by simp
      have e4:cur.toList.length=cur.size:=by simp
      apply List.ext_getElem?
      intro j
      simp only [List.getElem?_take,List.getElem?_append,List.length_append,List.length_take,List.getElem?_drop,e2,e4]
      repeat' split
      all_goals first | rfl | omega | (congr 1; omega) | skip
     obtain ⟨c',hw,gH,h2,h3⟩:=hM.Ac (pr:=pr) id (.arr e k (xs.set i z')) (.arr (.slice (some ⟨g,0,.none⟩) xs.length cap) k xs.length [])
      (c.w.setRow g (cur.toList.take (i * k+off)++(a.eval y).cells.toList++cur.toList.drop (i * k+off+(a.eval y).cells.toList.length)).toArray) rfl rfl rfl (Nat.le_refl _) (by simp)
      (fun b' gH eA=>setRow_other _ _ _ _ (fun e=>eA _ hB (.inl (by rw [e]; rfl))))
      (fun b' gH=>.inl ⟨_,hB,gH⟩) (by rw [hB]; exact jB.refl _) (fun _ dr h0=>by rw [hB] at h0; cases h0; exact .refl _)
      (fun c' hw hle dz=>by
       simp only [bw,List.length_set]
       refine ⟨.slice (some ⟨g,0,.none⟩) xs.length cap,vs.set i v',rfl,hk,⟨?_,.inr ⟨g,cap,_,rfl,wi,by rw [hw]; exact setRow_heap c.w g _ _ e _ hg,kq,zX,?_,?_⟩⟩,?_,?_,?_⟩
       ·rw [rA]
        have e2:(a.eval y).cells.toList.length=(a.eval y).cells.size:=by simp
        simp only [List.length_append,List.length_take,List.length_drop,List.length_set,N2,e2]
        omega
       ·have e2:(a.eval y).cells.toList.length=(a.eval y).cells.size:=by simp
        simp only [List.size_toArray,List.length_append,List.length_take,List.length_drop,Array.length_toList]
        omega
       ·exact KU
       ·refine aC.mono hle _ _ (fun id _=>dz id) (aC.of (by simpa using nG) fun j x' w' ov Hz=>?_)
        by_cases hj:j=i
        ·subst hj
         simp only [List.getElem?_set_self hi,Option.some.injEq] at ov
         simp only [List.getElem?_set_self NY,Option.some.injEq] at Hz
         subst ov; subst Hz; exact Th
        ·rw [List.getElem?_set_ne (Ne.symm hj)] at ov Hz
         obtain ⟨MH,Ox,SO⟩:=hl.get ov
         rw [Hz] at Ox; cases Ox; exact SO
       ·intro v hv
        rcases List.mem_or_eq_of_mem_set hv with hv | hv
        ·exact hc v hv
        ·subst hv
         have eH:v.cells.size=k:=by
          have:=congrArg List.length Lz
          have e2:(a.eval y).cells.toList.length=(a.eval y).cells.size:=by simp
          simp only [List.length_append,List.length_take,List.length_drop,Array.length_toList] at this
          omega
         refine ⟨eH,fun y0 Ic=>?_⟩
         have LR:y0 ∈ v.cells.toList:=by simpa using Ic
         rw [Lz] at LR
         simp only [List.mem_append] at LR
         rcases LR with (hq | hq) | hq
         ·exact (hc y' (List.mem_of_getElem? RA)).2 y0 (by simpa using List.mem_of_mem_take hq)
         ·exact rS y0 (by simpa using hq)
         ·exact (hc y' (List.mem_of_getElem? RA)).2 y0 (by simpa using List.mem_of_mem_drop hq)
       ·refine cK.2 fun x' ov=>?_
        rcases List.mem_or_eq_of_mem_set ov with ov | ov
        ·exact cK.1 Oc x' ov
        ·subst ov; exact TI)
     refine ⟨c',?_,h2,h3⟩
     rw [hw]
     simp [execOp,ho,he,du]
end ops
end Go.L
namespace Go.L
section ops
variable {P:Program} {pr:Nat→Prop} {o:Oper} {ev:Operand→LV} {m m':Mem} {lv:LV} {K:LV→Mem→Prop}
theorem gv {c:Cx} {m:Mem} (hm:b3 c m) {id n e k:Nat} {xs:List LV} {v:Value} (hv:av c (.arr id n) v) (bB:m id=some (.arr e k xs)) (hn:n=xs.length) :
  ∃ vs,c.B id=some (.arr v k xs.length [])∧0<k∧c.w.ownsRow 0 e k v xs.length (flat vs)∧aC c xs vs∧(∀ v ∈ vs,v.cells.size=k∧∀ y ∈ v.cells,y.oneCell'=true)∧LV.bo xs=true:=by
 obtain ⟨u,vs,hB,hk,bj,hl,hc,Oc⟩:=kf hm bB
 simp only [av] at hv
 obtain ⟨_,u',k',len,lE,iF,xU,hv⟩:=hv
 rw [hB] at iF
 cases iF
 have:=hv hn
 subst this
 exact ⟨vs,hB,hk,bj,hl,hc,Oc⟩
theorem dC {w:World} {e k n:Nat} {v:Value} {vs:List Value} (h:w.ownsRow 0 e k v n vs):∃ a cap,v=.slice a n cap:=by
 rcases h.2 with ⟨rfl,rfl⟩ | ⟨g,cap,cur,rfl,_⟩
 ·exact ⟨_,_,rfl⟩
 ·exact ⟨_,_,rfl⟩
theorem uc {x:Operand} (ho:o.op=.nilCheck x) (h:LOp P pr [] o ev m K):∃ lv m',K lv m'∧cj P pr o ev m lv m':=by
 simp only [LOp,ho] at h
 cases hx:ev x <;> simp only [hx] at h
 case ptr id off =>
  refine ⟨_,_,h,cj.same fun c a bA hm=>?_⟩
  have hv:=bA x
  rw [hx] at hv
  have u3:=hv
  simp only [av] at u3
  obtain ⟨b,n,_,he⟩:=u3
  exact ⟨a.eval x,by simp [execOp,ho,he],hv⟩
 case ag cs =>
  refine ⟨_,_,h,cj.same fun c a bA hm=>?_⟩
  have hv:=bA x
  rw [hx] at hv
  have u3:=hv
  simp only [av] at u3
  obtain ⟨b,off,vs,he,_⟩:=u3
  exact ⟨a.eval x,by simp [execOp,ho,he],hv⟩
 case bE id n i off =>
  obtain ⟨hn,hK⟩:=h
  refine ⟨_,_,hK,cj.same fun c a bA hm=>?_⟩
  have hv:=bA x
  rw [hx] at hv
  cases bB:m id with
  | none=>simp [bB] at hn
  | some le =>
   cases le with
   | map _ _ _=>simp [bB] at hn
   | nest _ _ _ _=>simp [bB] at hn
   | c6 _ _ _ _ _ _ _ _=>simp [bB] at hn
   | dead=>simp [bB] at hn
   | box cs=>simp [bB] at hn
   | arr e k xs =>
    simp only [bB] at hn
    obtain ⟨u,vs,hB,_⟩:=kf hm bB
    have u3:=hv
    simp only [av] at u3
    obtain ⟨_,u',k',len,lE,iF,xU,u3⟩:=u3
    rw [hB] at iF
    cases iF
    obtain ⟨b,_,he⟩:=u3 hn
    exact ⟨a.eval x,by simp [execOp,ho,he],hv⟩
 case fn f cap =>
  refine ⟨_,_,h,cj.same fun c a bA hm=>?_⟩
  have hv:=bA x
  rw [hx] at hv
  have u3:=hv
  simp only [av] at u3
  obtain ⟨vs,he,_⟩:=u3
  exact ⟨a.eval x,by simp [execOp,ho,he],hv⟩
theorem oL {c:Cx}:∀ {xs:List LV} {vs us:List Value},ew xs=some us→aC c xs vs→vs=us
 | [],vs,us,h,hr=>by simp [ew] at h; simp [aC] at hr; rw [hr,h]
 | x :: xs,vs,us,h,hr=>by
  simp only [aC] at hr
  obtain ⟨v,fI,rfl,hv,rD⟩:=hr
  simp only [ew] at h
  split at h
  ·rename_i v0 RI h1 h2
   cases h
   rw [oL h2 rD]
   cases x <;> simp [kj] at h1 <;> simp only [av] at hv <;> subst h1 <;> subst hv <;> rfl
  ·cases h
theorem zr {op:BinOp} {t t':TypeId} {x y:Operand} (ho:o.op=.binOp op t x y t') (h:LOp P pr [] o ev m K):∃ lv m',K lv m'∧cj P pr o ev m lv m':=by
 simp only [LOp,ho] at h
 cases hx:ev x <;> simp only [hx] at h
 case int k a =>
  cases hy:ev y <;> simp only [hy] at h
  case int k' b =>
   obtain ⟨rfl,h⟩:=h
   have guard:∀ w,(eqGuard op t x y (.int k a) (.int k b)).run P w=.ok () w:=by
    intro w; unfold eqGuard; cases op <;> simp
   have key:∀ lv,(∀ w,(binOp op t (.int k a) (.int k b)).run P w=.ok lv w)→∀ l:LV,(∀ c,av c l lv)→cj P pr o ev m l m:=by
    intro lv hr l hl
    refine cj.same fun c ac bA hm=>?_
    have oa:=bA x
    have lU:=bA y
    rw [hx] at oa
    rw [hy] at lU
    simp only [av] at oa lU
    refine ⟨lv,?_,hl c⟩
    simp [execOp,ho,oa,lU,guard,hr]
   cases op <;> simp only [oV] at h
   case add=>exact ⟨_,_,h,key (.int k (k.wrap (a+b))) (fun w=>by simp [binOp,Op.intArith]) _ (fun c=>by simp [av])⟩
   case sub=>exact ⟨_,_,h,key (.int k (k.wrap (a - b))) (fun w=>by simp [binOp,Op.intArith]) _ (fun c=>by simp [av])⟩
   case mul=>exact ⟨_,_,h,key (.int k (k.wrap (a * b))) (fun w=>by simp [binOp,Op.intArith]) _ (fun c=>by simp [av])⟩
   case quo=>exact ⟨_,_,h.2,key (.int k (k.wrap (a.tdiv b))) (fun w=>by simp [binOp,Op.intDiv,h.1]) _ (fun c=>by simp [av])⟩
   case rem=>exact ⟨_,_,h.2,key (.int k (a.tmod b)) (fun w=>by simp [binOp,Op.intDiv,h.1]) _ (fun c=>by simp [av])⟩
   case eql=>exact ⟨_,_,h,key (.bool (a == b)) (fun w=>by simp [binOp,Op.intCmp]) _ (fun c=>by simp [av])⟩
   case neq=>exact ⟨_,_,h,key (.bool (a != b)) (fun w=>by simp [binOp,Op.intCmp]) _ (fun c=>by simp [av])⟩
   case lss=>exact ⟨_,_,h,key (.bool (decide (a<b))) (fun w=>by simp [binOp,Op.intCmp]) _ (fun c=>by simp [av])⟩
   case leq=>exact ⟨_,_,h,key (.bool (decide (a≤b))) (fun w=>by simp [binOp,Op.intCmp]) _ (fun c=>by simp [av])⟩
   case gtr=>exact ⟨_,_,h,key (.bool (decide (a > b))) (fun w=>by simp [binOp,Op.intCmp]) _ (fun c=>by simp [av])⟩
   case geq=>exact ⟨_,_,h,key (.bool (decide (a ≥ b))) (fun w=>by simp [binOp,Op.intCmp]) _ (fun c=>by simp [av])⟩
 case bool a =>
  cases hy:ev y <;> simp only [hy] at h
  case bool b =>
   obtain ⟨ht,h⟩:=h
   have hu:P.underlying t=some .bool:=by
    unfold vK at ht
    split at ht
    ·assumption
    ·cases ht
   have guard:∀ w,(eqGuard op t x y (.bool a) (.bool b)).run P w=.ok () w:=by
    intro w; unfold eqGuard; cases op <;> simp
   have key:∀ lv,(∀ w,(binOp op t (.bool a) (.bool b)).run P w=.ok lv w)→∀ l:LV,(∀ c,av c l lv)→cj P pr o ev m l m:=by
    intro lv hr l hl
    refine cj.same fun c ac bA hm=>?_
    have oa:=bA x
    have lU:=bA y
    rw [hx] at oa
    rw [hy] at lU
    simp only [av] at oa lU
    refine ⟨lv,?_,hl c⟩
    simp [execOp,ho,oa,lU,guard,hr]
   have heq:∀ w,(Op.equal t (.bool a) (.bool b)).run P w=.ok (a == b) w:=fun w=>run_equalIn_bool' w 9999 t a b hu
   cases op <;> simp only [] at h
   case eql=>exact ⟨_,_,h,key (.bool (a == b)) (fun w=>by simp [binOp,heq]) _ (fun c=>by simp [av])⟩
   case neq=>exact ⟨_,_,h,key (.bool (!(a == b))) (fun w=>by simp [binOp,heq]) _ (fun c=>by simp [av])⟩
 case agg xs =>
  cases hy:ev y <;> simp only [hy] at h
  case agg ys =>
   obtain ⟨b,⟨VU,us,ws,FD,Ww,heq⟩,h⟩:=h
   have guard:∀ w,(eqGuard op t x y (.agg us.toArray) (.agg ws.toArray)).run P w=.ok () w:=by
    intro w; unfold eqGuard; cases op <;> simp [VU]
   have key:∀ lv,(∀ w,(binOp op t (.agg us.toArray) (.agg ws.toArray)).run P w=.ok lv w)→∀ l:LV,(∀ c,av c l lv)→cj P pr o ev m l m:=by
    intro lv hr l hl
    refine cj.same fun c ac bA hm=>?_
    have oa:=bA x
    have lU:=bA y
    rw [hx] at oa
    rw [hy] at lU
    simp only [av] at oa lU
    obtain ⟨Vh,oa,ei⟩:=oa
    obtain ⟨WZ,lU,fH⟩:=lU
    rw [oL FD ei] at oa
    rw [oL Ww fH] at lU
    refine ⟨lv,?_,hl c⟩
    simp [execOp,ho,oa,lU,guard,hr]
   cases op <;> simp only [] at h
   case eql=>exact ⟨_,_,h,key (.bool b) (fun w=>by simp [binOp,heq]) _ (fun c=>by simp [av])⟩
   case neq=>exact ⟨_,_,h,key (.bool (!b)) (fun w=>by simp [binOp,heq]) _ (fun c=>by simp [av])⟩
theorem Bz {op:UnOp} {t:TypeId} {x:Operand} (ho:o.op=.unOp op t x) (h:LOp P pr [] o ev m K):∃ lv m',K lv m'∧cj P pr o ev m lv m':=by
 simp only [LOp,ho] at h
 cases op <;> cases hx:ev x <;> simp only [hx] at h
 case neg.int k n =>
   refine ⟨_,_,h,cj.same fun c a bA hm=>?_⟩
   have hv:=bA x
   rw [hx] at hv
   simp only [av] at hv
   exact ⟨_,by simp [execOp,ho,hv,Op.unary,Op.intArith]; rfl,by simp [av]⟩
 case not.bool b =>
   refine ⟨_,_,h,cj.same fun c a bA hm=>?_⟩
   have hv:=bA x
   rw [hx] at hv
   simp only [av] at hv
   exact ⟨_,by simp [execOp,ho,hv,Op.unary]; rfl,by simp [av]⟩
theorem uK {s t:TypeId} {x:Operand} (ho:o.op=.convert s t x) (h:LOp P pr [] o ev m K):∃ lv m',K lv m'∧cj P pr o ev m lv m':=by
 simp only [LOp,ho] at h
 obtain ⟨hs,h⟩:=h
 cases ht:tint P t <;> simp only [ht] at h
 case some k =>
  cases hx:ev x <;> simp only [hx] at h
  case int k' n =>
   refine ⟨_,_,h,cj.same fun c a bA hm=>?_⟩
   have hv:=bA x
   rw [hx] at hv
   simp only [av] at hv
   have hu:P.underlying t=some (.int k):=by
    unfold tint at ht
    split at ht
    ·cases ht; assumption
    ·cases ht
   unfold tok at hs
   cases FD:P.underlying s with
   | none=>simp [FD] at hs
   | some d =>
    refine ⟨.int k (k.wrap n),?_,by simp [av]⟩
    simp [execOp,ho,hv,convert,run_underlying hu,run_underlying FD,Conv.intToInt]
theorem rK {t:TypeId} {x:Operand} {f:Nat} (ho:o.op=.fieldAddr t x f) (h:LOp P pr [] o ev m K):∃ lv m',K lv m'∧cj P pr o ev m lv m':=by
 simp only [LOp,ho] at h
 cases nF:tfield P t f <;> simp only [nF] at h
 case some q =>
  obtain ⟨off,ft⟩:=q
  simp only at h
  obtain ⟨gD,eH,h⟩:=h
  obtain ⟨fs,fd,hu,B3,rfl,rfl⟩:∃ fs fd,P.underlying t=some (.struct fs)∧fs[f]?=some fd∧fd.offset=off∧fd.type=ft:=by
   unfold tfield at nF
   split at nF
   ·rename_i fs hu
    cases hf:fs[f]? with
    | none=>simp [hf] at nF
    | some fd=>simp [hf] at nF; exact ⟨fs,fd,hu,hf,nF.1,nF.2⟩
   ·cases nF
  have du:∀ (w:World) (b q:Nat),(Instr.fieldAt t (.pointer (some ⟨b,q,.none⟩)) f).run P w=.ok (.pointer (some ⟨b,q+fd.offset,.none⟩)) w:=by
   intro w b q
   have hi:∃ i,P.info? fd.type=some i∧i.size ≠ 0:=by
    unfold tok at gD
    cases hi:P.info? fd.type with
    | none=>simp [hi] at gD
    | some i=>exact ⟨i,rfl,by simpa [tsize,hi] using eH⟩
   obtain ⟨i,hi,NU⟩:=hi
   simp [Instr.fieldAt,run_underlying hu,B3,Instr.sureAddr,fieldPlace,sizeOf,typeInfo,hi,NU,Addr.add_mid]
  cases hx:ev x <;> simp only [hx] at h
  case ag cs =>
   refine ⟨_,_,h.2,cj.same fun c a bA hm=>?_⟩
   have hv:=bA x
   rw [hx] at hv
   simp only [av] at hv
   obtain ⟨b,q,vs,he,hb,hX,hl,h1,gi⟩:=hv
   refine ⟨_,by simp [execOp,ho,he,du]; rfl,?_⟩
   simp only [av]
   exact ⟨b,q+fd.offset,vs.drop fd.offset,rfl,hb,hX,hl.drop _,fun y hy=>h1 y (List.mem_of_mem_drop hy),fu gi _⟩
  case ptr id q =>
   refine ⟨_,_,h,cj.same fun c a bA hm=>?_⟩
   have hv:=bA x
   rw [hx] at hv
   simp only [av] at hv
   obtain ⟨b,n,hB,he⟩:=hv
   refine ⟨_,by simp [execOp,ho,he,du]; rfl,?_⟩
   simp only [av]
   exact ⟨b,n,hB,rfl⟩
  case bE id n i q =>
   obtain ⟨hn,hK⟩:=h
   refine ⟨_,_,hK,cj.same fun c a bA hm=>?_⟩
   have hv:=bA x
   rw [hx] at hv
   cases bB:m id with
   | none=>simp [bB] at hn
   | some le =>
    cases le with
    | map _ _ _=>simp [bB] at hn
    | nest _ _ _ _=>simp [bB] at hn
    | c6 _ _ _ _ _ _ _ _=>simp [bB] at hn
    | dead=>simp [bB] at hn
    | box cs=>simp [bB] at hn
    | arr e k xs =>
     simp only [bB] at hn
     obtain ⟨u,vs,hB,_⟩:=kf hm bB
     simp only [av] at hv
     obtain ⟨_,u',k',len,lE,iF,xU,hv⟩:=hv
     rw [hB] at iF
     cases iF
     obtain ⟨b,hb,he⟩:=hv hn
     refine ⟨_,by simp [execOp,ho,he,du]; rfl,?_⟩
     simp only [av]
     exact ⟨rfl,u,k,xs.length,_,hB,xU,fun _=>⟨b,hb,by rw [Nat.add_assoc]⟩⟩
theorem G2 {t:TypeId} {cs:List LV} {off:Nat} (h:loadC P t (cs.drop off) fun lv=>K lv m) (H5:off≤cs.length) :
  ∃ lv,K lv m∧∀ (c:Cx) (vs:List Value),aC c cs vs→∃ v,(part t vs.toArray off).run P c.w=.ok v c.w∧av c lv v:=by
 obtain ⟨ht,h⟩:=h
 unfold tok at ht
 cases hi:P.info? t with
 | none=>simp [hi] at ht
 | some i =>
  cases hu:P.underlying t with
  | none=>simp [hu] at ht
  | some d =>
   have eH:tsize P t=i.size:=by simp [tsize,hi]
   by_cases hg:tagg P t=true
   ·rw [if_pos hg] at h
    refine ⟨_,h.2,fun c vs hl=>?_⟩
    have EY:(isAgg t).run P c.w=.ok true c.w:=by
     unfold isAgg
     rw [Sem.run_bind,run_underlying hu c.w]
     simp only [tagg,hu] at hg
     cases d <;> simp_all
    refine ⟨.agg ((vs.drop off).take (tsize P t)).toArray,?_,?_⟩
    ·simp only [part,Sem.run_bind,EY,Result.andThen_ok,if_true,sizeOf,typeInfo,run_program,hi,Sem.run_pure,eH]
     congr 2
     simp [List.extract_eq_take_drop]
    ·simp only [av]
     exact ⟨_,rfl,(hl.drop off).take _⟩
   ·rw [if_neg hg] at h
    cases hcs:cs.drop off with
    | nil=>simp [hcs] at h
    | cons x r =>
     simp only [hcs] at h
     refine ⟨x,h,fun c vs hl=>?_⟩
     have EY:(isAgg t).run P c.w=.ok false c.w:=by
      unfold isAgg
      rw [Sem.run_bind,run_underlying hu c.w]
      simp only [tagg,hu] at hg
      cases d <;> simp_all
     have iN:=hl.drop off
     rw [hcs] at iN
     simp only [aC] at iN
     obtain ⟨v,fI,he,hv,_⟩:=iN
     have E7:vs[off]?=some v:=by
      have:=congrArg (fun l=>l[0]?) he
      simpa using this
     exact ⟨v,by simp [part,EY,E7],hv⟩
theorem zu {t:TypeId} {x:Operand} {f:Nat} (ho:o.op=.field t x f) (h:LOp P pr [] o ev m K):∃ lv m',K lv m'∧cj P pr o ev m lv m':=by
 simp only [LOp,ho] at h
 cases nF:tfield P t f <;> simp only [nF] at h
 case some q =>
  obtain ⟨off,ft⟩:=q
  cases hx:ev x <;> simp only [hx] at h
  case agg cs =>
   obtain ⟨lv,hK,hr⟩:=G2 h.2 h.1
   refine ⟨lv,m,hK,cj.same fun c a bA hm=>?_⟩
   obtain ⟨fs,fd,hu,B3,rfl,rfl⟩:∃ fs fd,P.underlying t=some (.struct fs)∧fs[f]?=some fd∧fd.offset=off∧fd.type=ft:=by
    unfold tfield at nF
    split at nF
    ·rename_i fs hu
     cases hf:fs[f]? with
     | none=>simp [hf] at nF
     | some fd=>simp [hf] at nF; exact ⟨fs,fd,hu,hf,nF.1,nF.2⟩
    ·cases nF
   have hv:=bA x
   rw [hx] at hv
   simp only [av] at hv
   obtain ⟨vs,he,hl⟩:=hv
   obtain ⟨v,ei,fH⟩:=hr c vs hl
   exact ⟨v,by simp [execOp,ho,he,Instr.field,run_underlying hu,B3,asAgg,ei],fH⟩
theorem uM {t:Operand} {i:Nat} (ho:o.op=.extract t i) (h:LOp P pr [] o ev m K):∃ lv m',K lv m'∧cj P pr o ev m lv m':=by
 simp only [LOp,ho] at h
 cases hx:ev t <;> simp only [hx] at h
 case cV vs =>
  obtain ⟨x,ov,hK⟩:=h
  refine ⟨_,_,hK,cj.same fun c a bA hm=>?_⟩
  have hv:=bA t
  rw [hx] at hv
  simp only [av] at hv
  obtain ⟨us,he,hl⟩:=hv
  obtain ⟨v,jY,xl⟩:=hl.get ov
  exact ⟨v,by simp [execOp,ho,he,Instr.extract,jY],xl⟩
theorem tS {c:Cx} {ev:Operand→LV} {a:Act} (bA:∀ x,av c (ev x) (a.eval x)):∀ (xs:List Operand),aC c (xs.map ev) (xs.map a.eval)
 | []=>by simp [aC]
 | x :: xs=>by simp only [List.map_cons,aC]; exact ⟨_,_,rfl,bA x,tS bA xs⟩
theorem ub {f:Fn} {first cap:Array Operand} (ho:o.op=.makeFunc f first cap) (h:LOp P pr [] o ev m K):∃ lv m',K lv m'∧cj P pr o ev m lv m':=by
 simp only [LOp,ho] at h
 cases f <;> simp only [] at h
 case func f =>
  obtain ⟨rfl,hK⟩:=h
  refine ⟨_,_,hK,cj.same fun c a bA hm=>?_⟩
  refine ⟨.func (.func f) #[] (cap.toList.map a.eval).toArray,by simp [execOp,ho,Instr.makeFunc]; rw [← Array.toList_map,Array.toArray_toList],?_⟩
  simp only [av]
  exact ⟨_,rfl,tS bA _⟩
theorem rL {t:TypeId} {x i:Operand} (ho:o.op=.indexAddr t x i) (h:LOp P pr [] o ev m K):∃ lv m',K lv m'∧cj P pr o ev m lv m':=by
 simp only [LOp,ho] at h
 cases lh:telem P t <;> simp only [lh] at h
 case some e =>
  have hu:P.underlying t=some (.slice e):=by
   unfold telem at lh
   split at lh
   ·cases lh; assumption
   ·cases lh
  cases hx:ev x <;> simp only [hx] at h
  case al k xs =>
   cases hi:ev i <;> simp only [hi] at h
   case int ki n =>
    obtain ⟨gD,hk,h0,y,hy,TH,hK⟩:=h
    refine ⟨_,_,hK,cj.same fun c a bA hm=>?_⟩
    have FJ:=bA i
    rw [hi] at FJ
    simp only [av] at FJ
    have hv:=bA x
    rw [hx] at hv
    simp only [av] at hv
    obtain ⟨ad,cap,he,mQ,hn,hp,hr⟩:=hv
    have ec:n.toNat<xs.length:=(List.getElem?_eq_some_iff.1 hy).1
    rcases hr with rfl | ⟨b,off,vs,rfl,hb,hX,hl,hc,gi⟩
    ·simp at ec
    ·obtain ⟨u,Jl,Lw⟩:=hl.get hy
     obtain ⟨f1,f2⟩:=fY (k:=k) (fun v hv=>(hc v hv).1) Jl
     rw [f1] at gi
     have xW:=iA gi
     rw [f2] at xW
     obtain ⟨wv,FB⟩:=Lw.cellsOf TH
     refine ⟨.pointer (some ⟨b,off+n.toNat * k,.none⟩),?_,?_⟩
     ·unfold tok at gD
      cases sY:P.info? e with
      | none=>simp [sY] at gD
      | some ie =>
       have mn:k=ie.size:=by rw [hk]; simp [tsize,sY]
       have wj:n<(xs.length:Int):=by omega
       simp [execOp,ho,he,FJ,Instr.indexAt,asIntOf,run_underlying hu,h0,wj,sizeOf,typeInfo,sY,Addr.add_mid,mn]
     ·simp only [av]
      exact ⟨b,_,u.cells.toList,rfl,hb,hX,wv,fun y hy=>FB y (by simpa using hy),xW⟩
  case arr id l =>
   cases hi:ev i <;> simp only [hi] at h
   case int ki n =>
    cases bB:m id with
    | none=>simp [bB] at h
    | some le =>
     cases le with
     | map _ _ _=>simp [bB] at h
     | nest _ _ _ _=>simp [bB] at h
     | c6 _ _ _ _ _ _ _ _=>simp [bB] at h
     | dead=>simp [bB] at h
     | box cs=>simp [bB] at h
     | arr e' k xs =>
      simp only [bB] at h
      obtain ⟨gD,iN,hk,h0,ec,hK⟩:=h
      refine ⟨_,_,hK,cj.same fun c a bA hm=>?_⟩
      have FJ:=bA i
      rw [hi] at FJ
      simp only [av] at FJ
      have hv:=bA x
      rw [hx] at hv
      obtain ⟨vs,hB,Je,bj,hl,hc,hp⟩:=gv hm hv bB iN
      rcases bj.2 with ⟨_,R5⟩ | ⟨g,cap,cur,LI,_⟩
      ·omega
      ·refine ⟨.pointer (some ⟨g,n.toNat * k,.none⟩),?_,?_⟩
       ·unfold tok at gD
        cases sY:P.info? e with
        | none=>simp [sY] at gD
        | some ie =>
         have mn:k=ie.size:=by rw [hk]; simp [tsize,sY]
         have wj:n<(xs.length:Int):=by omega
         simp [execOp,ho,LI,FJ,Instr.indexAt,asIntOf,run_underlying hu,h0,wj,sizeOf,typeInfo,sY,Addr.add_mid,mn]
       ·simp only [av]
        exact ⟨rfl,_,k,xs.length,_,hB,by omega,fun _=>⟨g,by rw [LI]; rfl,by simp⟩⟩
end ops
end Go.L
namespace Go.L
section ops
variable {P:Program} {pr:Nat→Prop} {o:Oper} {ev:Operand→LV} {m m':Mem} {lv:LV} {K:LV→Mem→Prop}
theorem fp {t e:TypeId} (h:telem P t=some e):P.underlying t=some (.slice e):=by
 unfold telem at h
 split at h
 ·cases h; assumption
 ·cases h
theorem zw {t:TypeId} {x:Operand} {lo hi mx:Option Operand} (ho:o.op=.slice t x lo hi mx) (h:LOp P pr [] o ev m K):∃ lv m',K lv m'∧cj P pr o ev m lv m':=by
 simp only [LOp,ho] at h
 obtain ⟨lh,xk,rfl,h⟩:=h
 obtain ⟨e,lh⟩:=Option.isSome_iff_exists.1 lh
 have hu:=fp lh
 have Jd:∃ ie,P.info? e=some ie:=by
  simp only [lh,Option.getD_some] at xk
  unfold tok at xk
  cases hi:P.info? e with
  | none=>simp [hi] at xk
  | some ie=>exact ⟨ie,rfl⟩
 cases hx:ev x <;> simp only [hx] at h
 case nil =>
  obtain ⟨rR,Hv,hK⟩:=h
  refine ⟨_,_,hK,cj.same fun c a bA hm=>?_⟩
  have hv:=bA x
  rw [hx] at hv
  simp only [av] at hv
  refine ⟨.slice .none 0 0,?_,by simp [av]⟩
  have h1:∀ y,lo=some y→a.eval y=.int .i64 0:=fun y hy=>by
   subst hy; simp only at rR; have:=bA y; rw [rR] at this; simpa only [av] using this
  have h2:∀ y,hi=some y→a.eval y=.int .i64 0:=fun y hy=>by
   subst hy; simp only at Hv; have:=bA y; rw [Hv] at this; simpa only [av] using this
  obtain ⟨ie,sY⟩:=Jd
  cases lo <;> cases hi <;> simp_all [execOp,Instr.sliceAt,run_underlying hu,Instr.slice,Instr.sliceBounds,Instr.sliceBound,asIntOf,sizeOf,typeInfo]
 case al k xs =>
  obtain ⟨hk,l,h',rR,Hv,V5,W9,hK⟩:=h
  refine ⟨_,_,hK,cj.same fun c a bA hm=>?_⟩
  have hv:=bA x
  rw [hx] at hv
  simp only [av] at hv
  obtain ⟨ad,cap,he,mQ,hn,hp,hr⟩:=hv
  have h1:∀ y,lo=some y→a.eval y=.int .i64 l:=fun y hy=>by
   subst hy; simp only at rR; have:=bA y; rw [rR] at this; simpa only [av] using this
  have h2:∀ y,hi=some y→a.eval y=.int .i64 h':=fun y hy=>by
   subst hy; simp only at Hv; have:=bA y; rw [Hv] at this; simpa only [av] using this
  obtain ⟨ie,sY⟩:=Jd
  have mn:k=ie.size:=by simpa [lh,tsize,sY] using hk
  have du:(execOp a.eval o).run P c.w=.ok (.value (.slice (if cap=l then ad else ad.map (·.add (l * ie.size))) (h' - l) (cap - l))) c.w:=by
   have g1:(Instr.sliceBounds true xs.length cap (lo.map a.eval) (hi.map a.eval) .none).run P c.w=.ok (l,h',cap) c.w:=by
    have b2:(h':Int)≤cap:=by omega
    have b1:(l:Int)≤h':=by omega
    cases lo <;> cases hi <;> simp_all [Instr.sliceBounds,Instr.sliceBound,asIntOf]
   simp [execOp,ho,he,Instr.sliceAt,run_underlying hu,Instr.slice,g1,sizeOf,typeInfo,sY]
  refine ⟨_,du,?_⟩
  simp only [av]
  have hlen:((xs.take h').drop l).length=h' - l:=by simp; omega
  refine ⟨_,cap - l,by rw [hlen],by rw [hlen]; omega,fun h0=>?_,tF (tG hp _) _,?_⟩
  ·have:ad=.none:=by
    split at h0
    ·exact h0
    ·simpa using h0
   have:=hn this; omega
  ·by_cases Ss:(xs.take h').drop l=[]
   ·exact .inl Ss
   ·right
    have H6:0<h' - l:=by rw [← hlen]; exact List.length_pos_iff.2 Ss
    rcases hr with rfl | ⟨b,off,vs,rfl,hb,hX,hl,hc,gi⟩
    ·simp at Ss
    ·refine ⟨b,off+l * k,(vs.take h').drop l,?_,hb,hX,(hl.take h').drop l,fun u hu=>hc u (List.mem_of_mem_take (List.mem_of_mem_drop hu)),?_⟩
     ·rw [if_neg (by omega)]; simp [Addr.add_mid,mn]
     ·have e1:vs=vs.take l++((vs.take h').drop l++vs.drop h'):=by
       rw [← List.append_assoc]
       have:vs.take l=(vs.take h').take l:=by rw [List.take_take,Nat.min_eq_left V5]
       rw [this,List.take_append_drop,List.take_append_drop]
      rw [e1,eI,eI] at gi
      have:=iA gi
      rwa [dm (k:=k) (fun v hv=>(hc v (List.mem_of_mem_take hv)).1),List.length_take,Nat.min_eq_left (by have:=hl.length; omega)] at this
theorem D1 {c0:Call} (ho:o.op=.call c0) (hc:c0.callee=.builtin .len) (h:LOp P pr [] o ev m K):∃ lv m',K lv m'∧cj P pr o ev m lv m':=by
 obtain ⟨cl,args,ME⟩:=c0
 simp only at hc
 subst hc
 simp only [LOp,ho] at h
 split at h
 ·rename_i x t hargs uC
  obtain rfl:args=#[x]:=by apply Array.ext'; simpa using hargs
  obtain rfl:ME=#[t]:=by apply Array.ext'; simpa using uC
  obtain ⟨lh,h⟩:=h
  obtain ⟨e,lh⟩:=Option.isSome_iff_exists.1 lh
  have hu:=fp lh
  have run:∀ (a:Act) (w:World) ad n cap,a.eval x=.slice ad n cap→(execOp a.eval o).run P w=.ok (.value (.int .i64 n)) w:=by
   intro a w ad n cap he
   simp [execOp,ho,resolve,invoke,builtin,Builtin.len_,he,run_underlying hu,goInt]
  cases hx:ev x <;> simp only [hx] at h
  case nil =>
   refine ⟨_,_,h,cj.same fun c a bA hm=>?_⟩
   have hv:=bA x
   rw [hx] at hv
   simp only [av] at hv
   exact ⟨_,run a c.w _ _ _ hv,by simp [av]⟩
  case al k xs =>
   refine ⟨_,_,h,cj.same fun c a bA hm=>?_⟩
   have hv:=bA x
   rw [hx] at hv
   simp only [av] at hv
   obtain ⟨ad,cap,he,_⟩:=hv
   exact ⟨_,run a c.w _ _ _ he,by simp [av]⟩
  case arr id n =>
   obtain ⟨hn,hK⟩:=h
   refine ⟨_,_,hK,cj.same fun c a bA hm=>?_⟩
   have hv:=bA x
   rw [hx] at hv
   cases bB:m id with
   | none=>simp [bB] at hn
   | some le =>
    cases le with
    | map _ _ _=>simp [bB] at hn
    | nest _ _ _ _=>simp [bB] at hn
    | c6 _ _ _ _ _ _ _ _=>simp [bB] at hn
    | dead=>simp [bB] at hn
    | box cs=>simp [bB] at hn
    | arr e' k xs =>
     simp only [bB] at hn
     obtain ⟨vs,hB,Je,bj,hl,hc,hp⟩:=gv hm hv bB hn
     obtain ⟨ad,cap,he⟩:=dC bj
     exact ⟨_,run a c.w _ _ _ he,by simp [av,hn]⟩
 ·cases h
theorem Bx {c0:Call} {x:Operand} (ho:o.op=.call c0) (hc:c0.callee=.value x) (h:LOp P pr [] o ev m K):∃ lv m',K lv m'∧cj P pr o ev m lv m':=by
 obtain ⟨cl,args,ME⟩:=c0
 simp only at hc
 subst hc
 simp only [LOp,ho] at h
 cases hx:ev x <;> simp only [hx] at h
 case fn f cap =>
  obtain ⟨⟨fn,hf,Fi,xL⟩,lv,mc,mJ,om,h1,h2,h3,MO,h4,hK⟩:=h
  refine ⟨lv,_,hK,fun c a Q bA hm=>?_⟩
  have hv:=bA x
  rw [hx] at hv
  simp only [av] at hv
  obtain ⟨us,he,hl⟩:=hv
  have du:(execOp a.eval o).run P c.w=.ok (.enter f ((args.toList.map a.eval)++us).toArray) c.w:=by
   have e1:Array.map a.eval args++us.toArray=((args.toList.map a.eval)++us).toArray:=by
    apply Array.ext'; simp
   have AK : ¬ fn.name = "runtime.NumGoroutine" := by simpa using Fi
   have Ay:¬ fn.body=.none:=fun hn=>by rw [hn] at xL; cases xL
   simp [execOp,ho,resolve,Deferred.ofValue,he,invoke,callFunc,hf,AK,Ay,e1]
  unfold Oper.wp
  rw [du]
  simp only [Oper.upon]
  refine (om.frame (m:=m) h1 h2 h3 MO h4 pr c _ hm ((tS bA _).append hl)).mono ?_
  rintro en w' ⟨v,c',rfl,rfl,iO,u3,hs⟩
  exact ⟨v,c',rfl,rfl,u3,iO,hs⟩
end ops
end Go.L
namespace Go.L
section ops
variable {P:Program} {pr:Nat→Prop} {o:Oper} {ev:Operand→LV} {m m':Mem} {lv:LV} {K:LV→Mem→Prop}
theorem pc {e:TypeId} (h:gz P e=true):∃ i z,P.info? e=some i∧i.zero=some z∧z.cells.size=i.size∧(∀ v ∈ z.cells,v.oneCell'=true)∧0<i.size∧i.bytes≤256∧tsize P e=i.size:=by
 unfold gz at h
 split at h
 ·rename_i i hi
  split at h
  ·rename_i z hz
   simp only [Bool.and_eq_true,decide_eq_true_eq,beq_iff_eq] at h
   exact ⟨i,z,hi,hz,h.1.1.1,fun v hv=>(Array.all_eq_true_iff_forall_mem.1 h.1.1.2) v hv,h.1.2,h.2,by simp [tsize,hi]⟩
  ·simp at h
 ·cases h
theorem Ha {c:Cx} {y:LV} {ys:List LV} {k:Nat} {v:Value} (hy:Src k y ys) (hv:av c y v) :
  (ys=[]∧v=.slice .none 0 0) ∨ ∃ ad cap us,v=.slice (some ad) ys.length cap∧aC c ys us∧(∀ u ∈ us,u.cells.size=k∧∀ y ∈ u.cells,y.oneCell'=true)∧LV.bo ys=true∧∀ j u,(flat us)[j]?=some u→c.w.cell? (ad.add j)=some u:=by
 rcases hy with rfl | ⟨rfl,rfl⟩ | ⟨t,e,rfl⟩
 ·simp only [av] at hv
  obtain ⟨a,cap,rfl,mQ,hn,hp,hr⟩:=hv
  rcases hr with rfl | ⟨b,off,vs,rfl,hb,hX,hl,hc,gi⟩
  ·cases a with
   | none=>left; have:=hn rfl; subst this; exact ⟨rfl,rfl⟩
   | some ad=>right; exact ⟨ad,cap,[],rfl,by simp [aC],by simp,by simp [LV.bo],by simp [flat]⟩
  ·right
   exact ⟨_,cap,vs,rfl,hl,hc,hp,fun j u hu=>by rw [Addr.add_mid]; exact gi j u hu⟩
 ·simp only [av] at hv
  exact .inl ⟨rfl,hv⟩
 ·cases t
  ·simp only [av] at hv
   obtain ⟨a,cap,rfl,mQ,hn,hp,hr⟩:=hv
   rcases hr with rfl | ⟨b,off,vs,rfl,hb,hX,hl,hc,gi⟩
   ·cases a with
    | none=>left; have:=hn rfl; subst this; exact ⟨rfl,rfl⟩
    | some ad=>right; exact ⟨ad,cap,[],rfl,by simp [aC],by simp,by simp [LV.bo],by simp [flat]⟩
   ·right
    exact ⟨_,cap,vs,rfl,hl,hc,hp,fun j u hu=>by rw [Addr.add_mid]; exact gi j u hu⟩
  ·simp only [av] at hv
   obtain ⟨_,hp,vs,ho,hl,hc,_⟩:=hv
   rcases ho.2 with ⟨rfl,h0⟩ | ⟨g,cap,cur,rfl,_⟩
   ·exact .inl ⟨List.eq_nil_of_length_eq_zero h0,rfl⟩
   ·exact .inr ⟨_,cap,vs,rfl,hl,hc,hp,fun j u hu=>ho.cells rfl j u hu⟩
theorem ey {w:World} {t ty e:TypeId} {i:TypeInfo} {z:Value} (ht:P.underlying t=some (.slice e)) (hi:P.info? e=some i) (hz:i.zero=some z) (uk:z.cells.size=i.size) (eH:0<i.size) (C0:i.bytes≤256)
  {v:Value} {n:Nat} {xs:List Value} (bj:w.ownsRow 0 e i.size v n xs) {a:Addr} {q cap:Nat} {news:List Value} (hl:news.length=q * i.size) (jO:∀ j u,news[j]?=some u→w.cell? (a.add j)=some u) (h1:∀ u ∈ news,u.oneCell'=true)
  (hb:n+q≤549755813888) :
  ∃ v' w',(Builtin.append_ #[t,t] ty #[v,.slice (some a) q cap]).run P w=.ok v' w'∧w'.ownsRow 0 e i.size v' (n+q) (xs++news)∧w.grownBy w' v.ownBlock∧(∀ b,v'.ownBlock=some b→v.ownBlock=some b ∨ w.heap.size≤b)∧(q=0→v'=v)∧w.drawn≤w'.drawn:=by
 have hmul:(n+q) * i.bytes≤140737488355328:=by
  have:=Nat.mul_le_mul hb C0
  omega
 have Ny:n+q≤maxLen:=by simp only [maxLen]; omega
 obtain ⟨v',w',hr,h2,h3,h4⟩:=run_append_own (P:=P) w 0 t ty e i z i.size i.bytes ht hi hz rfl rfl uk eH v n xs bj a q cap news hl jO h1 Ny hmul (Nat.zero_le _)
 refine ⟨v',w',hr,h2,h3,?_⟩
 rcases bj.2 with ⟨rfl,rfl⟩ | ⟨g,Am,cur,rfl,Ax,hg,kq,zX,hcs,Om⟩
 ·by_cases hq:q=0
  ·have u3:v'=.slice .none 0 0:=h4.2 ⟨rfl,hq⟩
   subst u3
   subst hq
   have hn:news=[]:=List.eq_nil_of_length_eq_zero (by simpa using hl)
   have ot:(Builtin.append_ #[t,t] ty #[.slice .none 0 0,.slice (some a) 0 cap]).run P w=.ok (.slice .none 0 0) w:=by
    simp [Builtin.append_,run_underlying ht,sizeOf,typeInfo,hi,Builtin.lenOf,Builtin.firstCells,loadCells,loadCellsFrom]
   rw [hr] at ot
   cases ot
   exact ⟨fun b hb=>by simp [Value.ownBlock] at hb,fun _=>rfl,Nat.le_refl _⟩
  ·have fH:=run_append_nil (P:=P) w t ty e i z ht hi hz a q cap news hl jO (by omega) (by omega) (by have gH:=hmul; simp only [Nat.zero_add] at gH; omega)
   rw [hr] at fH
   cases fH
   exact ⟨fun b hb=>by simp [Value.ownBlock] at hb; exact .inr (by omega),fun h=>absurd h hq,by simp⟩
 ·by_cases ou:n+q≤Am
  ·have xQ:n * i.size+news.length≤cur.size:=by rw [hl,hcs,← Nat.add_mul]; exact Nat.mul_le_mul_right _ ou
   have fH:=run_append_room (P:=P) w t ty e i ht hi g n Am cur hg a q cap news hl jO h1 ou xQ
   rw [hr] at fH
   cases fH
   exact ⟨fun b hb=>.inl (by simpa [Value.ownBlock] using hb),(fun h=>by subst h; rfl),Nat.le_refl _⟩
  ·have holds:∀ j u,xs[j]?=some u→w.cell? ((⟨g,0,.none⟩:Addr).add j)=some u:=bj.cells (g:=g) rfl
   have fH:=run_append_grow (P:=P) w t ty e i z ht hi hz ⟨g,0,.none⟩ n Am xs bj.1 holds a q cap news hl jO (by omega) (by simp only [maxLen] at Ny; omega) (growslice_fits (by omega) hmul)
   rw [hr] at fH
   cases fH
   exact ⟨fun b hb=>by simp [Value.ownBlock] at hb; exact .inr (by omega),(fun h=>by omega),by simp⟩
theorem wY {c0:Call} (ho:o.op=.call c0) (hc:c0.callee=.builtin .append) (h:LOp P pr [] o ev m K):∃ lv m',K lv m'∧cj P pr o ev m lv m':=by
 obtain ⟨cl,args,ME⟩:=c0
 simp only at hc
 subst hc
 simp only [LOp,ho] at h
 split at h
 ·rename_i x y t t' hargs uC
  obtain rfl:args=#[x,y]:=by apply Array.ext'; simpa using hargs
  obtain rfl:ME=#[t,t']:=by apply Array.ext'; simpa using uC
  obtain ⟨rfl,h⟩:=h
  cases lh:telem P t <;> simp only [lh] at h
  case some e =>
   have hu:=fp lh
   obtain ⟨lT,ys,hy,h⟩:=h
   obtain ⟨i,z,hi,hz,uk,B7,eH,C0,qe⟩:=pc lT
   have B2:∀ (a:Act) (w:World),(execOp a.eval o).run P w=((Builtin.append_ #[t,t] o.type #[a.eval x,a.eval y]).run P w).andThen fun v w'=>.ok (.value v) w':=by
    intro a w
    simp [execOp,ho,resolve,invoke,builtin]
   have main:∀ (c:Cx) (a:Act),(∀ x,av c (ev x) (a.eval x))→b3 c m→∀ (u:Value) (n:Nat) (xs:List LV) (vs:List Value),a.eval x=u→c.w.ownsRow 0 e i.size u n (flat vs)→n=xs.length→aC c xs vs→(∀ v ∈ vs,v.cells.size=i.size∧∀ y ∈ v.cells,y.oneCell'=true)→LV.bo xs=true→n+ys.length≤549755813888 →
     ∃ v' w',(execOp a.eval o).run P c.w=.ok (.value v') w'∧(∃ us,w'.ownsRow 0 e i.size v' (n+ys.length) (flat (vs++us))∧aC c (xs++ys) (vs++us)∧(∀ v ∈ vs++us,v.cells.size=i.size∧∀ y ∈ v.cells,y.oneCell'=true)∧LV.bo (xs++ys)=true) ∧
      c.w.grownBy w' u.ownBlock∧(∀ b,v'.ownBlock=some b→u.ownBlock=some b ∨ c.w.heap.size≤b)∧(ys.length=0→v'=u)∧c.w.drawn≤w'.drawn:=by
    intro c a bA hm u n xs vs hx bj hn hl hc hp hb
    rcases Ha (k:=tsize P e) hy (bA y) with ⟨rfl,hv⟩ | ⟨ad,cap,us,hv,K5,E4,Fm,gi⟩
    ·refine ⟨u,c.w,?_,⟨[],by simpa using bj,by simpa using hl,by simpa using hc,by simpa using hp⟩,⟨rfl,rfl,rfl,Nat.le_refl _,fun _ _ _=>rfl⟩,fun b hb=>.inl hb,fun _=>rfl,Nat.le_refl _⟩
     rw [B2,hx,hv,run_append_owned_none (P:=P) (w:=c.w) 0 t o.type e i i.size hu hi u n _ bj]
     rfl
    ·have K6:=K5.length
     rw [qe] at E4
     have C6:(flat us).length=ys.length * i.size:=by rw [dm (k:=i.size) (fun v hv=>(E4 v hv).1),K6]
     obtain ⟨v',w',hr,h2,h3,h4,h5,h6⟩:=ey (P:=P) (ty:=o.type) hu hi hz uk eH C0 bj (cap:=cap) C6 gi (fun q hq=>by
      simp only [flat,List.mem_flatMap] at hq
      obtain ⟨v,hv,hq⟩:=hq
      exact (E4 v hv).2 q (by simpa using hq)) hb
     refine ⟨v',w',?_,⟨us,by rw [eI]; exact h2,hl.append K5,fun v hv=>(List.mem_append.1 hv).elim (hc v) (E4 v),j3 hp Fm⟩,h3,h4,h5,h6⟩
     rw [B2,hx,hv,hr]
     rfl
   cases hx:ev x <;> simp only [hx] at h
   case arr id n =>
    obtain ⟨Wa,h⟩:=h
    cases bB:m id with
    | none=>simp [bB] at h
    | some le =>
     cases le with
     | map _ _ _=>simp [bB] at h
     | nest _ _ _ _=>simp [bB] at h
     | c6 _ _ _ _ _ _ _ _=>simp [bB] at h
     | dead=>simp [bB] at h
     | box cs=>simp [bB] at h
     | arr e' k xs =>
      simp only [bB] at h
      obtain ⟨rfl,hk,hn,hb,hK⟩:=h
      refine ⟨_,_,hK,cj.value fun c a bA hm=>?_⟩
      have hv:=bA x
      rw [hx] at hv
      obtain ⟨vs,hB,Je,bj,hl,hc,hp⟩:=gv hm hv bB hn
      have xT:k=i.size:=by rw [hk,qe]
      subst xT
      obtain ⟨v',w',hr,⟨us,q1,q2,q3,q4⟩,q5,q6,q7,q8⟩:=main c a bA hm _ _ xs vs rfl bj rfl hl hc hp hb
      obtain ⟨c',hw,gH,h2,h3⟩:=hm.Ac (pr:=pr) id (.arr e' i.size (xs++ys)) (.arr v' i.size (xs.length+ys.length) []) w' q5.os q5.tape q5.output q8 q5.size
       (fun b gH eA=>q5.block b gH (fun hh=>eA _ hB (.inl hh.symm)))
       (fun b gH=>gH.elim (fun gH=>(q6 b gH).imp (fun hh=>⟨_,hB,.inl hh⟩) (fun hh=>hh)) (fun hh=>by cases hh))
       (by rw [hB]; exact ⟨_,_,_,rfl,by omega,fun hh=>q7 (by omega)⟩) (fun mE=>absurd mE Wa)
       (fun c' hw hle dz=>by
        simp only [bw,List.length_append]
        exact ⟨v',vs++us,rfl,Je,by rw [hw]; exact q1,aC.mono hle _ _ (fun id _=>dz id) q2,q3,q4⟩)
      refine ⟨v',c',by rw [hw]; exact hr,?_,h2,h3⟩
      simp only [av]
      refine ⟨?_,v',_,_,_,gH,by omega,fun _=>rfl⟩
      obtain ⟨ad,cp,he⟩:=dC q1
      rw [he]; rfl
   case nil =>
    cases hd:o.dst <;> simp only [hd] at h
    case some d =>
     obtain ⟨bB,hb,hK⟩:=h
     refine ⟨_,_,hK,cj.value fun c a bA hm=>?_⟩
     have hv:=bA x
     rw [hx] at hv
     simp only [av] at hv
     have hB:=hm.fresh bB
     obtain ⟨v',w',hr,⟨us,q1,q2,q3,q4⟩,q5,q6,q7,q8⟩:=main c a bA hm _ 0 [] [] hv (World.ownsRow_nil c.w 0 e i.size) rfl (by simp [aC]) (by simp) (by simp [LV.bo]) (by omega)
     simp only [Nat.zero_add,List.nil_append] at q1 q2 q3 q4
     obtain ⟨c',hw,gH,h2,h3⟩:=hm.Ac (pr:=pr) (100+d) (.arr e (tsize P e) ys) (.arr v' (tsize P e) ys.length []) w' q5.os q5.tape q5.output q8 q5.size
      (fun b gH _=>q5.block b gH (fun hh=>by simp [Value.ownBlock] at hh))
      (fun b gH=>gH.elim (fun gH=>(q6 b gH).elim (fun hh=>by simp [Value.ownBlock] at hh) .inr) (fun hh=>by cases hh))
      (by rw [hB]; trivial) (fun _ dr h0=>by rw [hB] at h0; cases h0)
      (fun c' hw hle dz=>by
       simp only [bw,qe]
       exact ⟨v',us,rfl,eH,by rw [hw]; exact q1,aC.mono hle _ _ (fun id _=>dz id) q2,q3,q4⟩)
     refine ⟨v',c',by rw [hw]; exact hr,?_,h2,h3⟩
     simp only [av]
     refine ⟨?_,v',_,_,_,gH,by omega,fun _=>rfl⟩
     obtain ⟨ad,cp,he⟩:=dC q1
     rw [he]; rfl
 ·cases h
theorem flat_get {k:Nat} (hk:0<k):∀ {vs:List Value},(∀ v ∈ vs,v.cells.size=k)→∀ j,(flat vs)[j]?=(vs[j / k]?).bind fun v=>v.cells[j % k]?
 | [],_,j=>by simp [flat]
 | v :: vs,h,j=>by
  have hv:v.cells.toList.length=k:=by simpa using h v (by simp)
  rw [gw]
  by_cases hj:j<k
  ·rw [List.getElem?_append_left (by omega),Nat.div_eq_of_lt hj,Nat.mod_eq_of_lt hj]
   simp
  ·rw [List.getElem?_append_right (by omega),flat_get hk (fun u hu=>h u (by simp [hu])),hv]
   have e1:j / k=(j - k) / k+1:=by
    rw [show j=(j - k)+k by omega,Nat.add_div_right _ hk]; simp
   have e2:j % k=(j - k) % k:=by
    conv=>lhs; rw [show j=(j - k)+k by omega,Nat.add_mod_right]
   rw [e1,e2,List.getElem?_cons_succ]
theorem rM {t:TypeId} {x y:Operand} (ho:o.op=.makeSlice t x y) (h:LOp P pr [] o ev m K):∃ lv m',K lv m'∧cj P pr o ev m lv m':=by
 simp only [LOp,ho] at h
 split at h
 ·rename_i e z n n' d lh hz hx hy hd
  obtain ⟨rfl,h0,hb,lT,hp,bB,hK⟩:=h
  have hu:=fp lh
  obtain ⟨i,zv,hi,AX,uk,B7,eH,C0,qe⟩:=pc lT
  refine ⟨_,_,hK,cj.value fun c a bA hm=>?_⟩
  have oa:=bA x
  have lU:=bA y
  rw [hx] at oa
  rw [hy] at lU
  simp only [av] at oa lU
  have TM:z=Ds zv:=by
   rw [lh] at hz
   simp only [Option.getD_some,tzero,hi,AX] at hz
   split at hz
   ·cases hz; rfl
   ·cases hz
  subst TM
  have Az:(i.bytes:Int) * n≤281474976710656:=by
   have h1:(i.bytes:Int) * n≤256 * n:=Int.mul_le_mul_of_nonneg_right (by omega) h0
   omega
  have du:=run_make (P:=P) c.w t e i zv hu hi AX .i64 .i64 n n h0 (Int.le_refl _) Az (by omega)
  have hB:=hm.fresh bB
  have lS:(madeCells zv.cells (n.toNat * i.size)).toList=flat (List.replicate n.toNat zv):=by
   apply List.ext_getElem?
   intro j
   rw [flat_get eH (fun v hv=>by rw [List.eq_of_mem_replicate hv]; exact uk)]
   simp only [Array.getElem?_toList,madeCells,Array.getElem?_map,Array.getElem?_range,List.getElem?_replicate,uk]
   by_cases hj:j<n.toNat * i.size
   ·have h1:j / i.size<n.toNat:=(Nat.div_lt_iff_lt_mul eH).2 hj
    have h2:j % i.size<zv.cells.size:=by rw [uk]; exact Nat.mod_lt _ eH
    rw [if_pos hj,if_pos h1]
    simp [h2]
   ·have h1:¬ j / i.size<n.toNat:=fun hh=>hj ((Nat.div_lt_iff_lt_mul eH).1 hh)
    rw [if_neg hj,if_neg h1]
    rfl
  have eK:(madeCells zv.cells (n.toNat * i.size)).size=n.toNat * i.size:=size_madeCells _ _
  obtain ⟨c',hw,gH,h2,h3⟩:=hm.Ac (pr:=pr) (100+d) (.arr e (tsize P e) (List.replicate n.toNat (Ds zv))) (.arr (.slice (some ⟨c.w.heap.size,0,.none⟩) n.toNat n.toNat) (tsize P e) n.toNat [])
   (c.w.alloc (.cells (madeCells zv.cells (n.toNat * i.size)) e)) rfl rfl rfl (Nat.le_refl _) (by simp)
   (fun b gH _=>oq c.w _ b gH) (fun b gH=>by simp [BE.has,Value.ownBlock] at gH; exact .inr (by omega)) (by rw [hB]; trivial) (fun _ dr h0=>by rw [hB] at h0; cases h0)
   (fun c' hw hle dz=>by
    simp only [bw,qe,List.length_replicate]
    refine ⟨_,List.replicate n.toNat zv,rfl,eH,⟨by rw [dm (k:=i.size) (fun v hv=>by rw [List.eq_of_mem_replicate hv]; exact uk)]; simp,.inr ⟨c.w.heap.size,n.toNat,_,rfl,Nat.zero_le _,by rw [hw]; exact heap_alloc_new c.w _,Nat.le_refl _,by simp only [maxLen]; omega,eK,?_⟩⟩,?_,?_,?_⟩
    ·rw [List.take_of_length_le (by rw [Array.length_toList,eK]; exact Nat.le_refl _),lS]
    ·refine aC.of (by simp) fun j q r hq hr=>?_
     rw [List.getElem?_replicate] at hq hr
     split at hq
     ·rename_i hj
      rw [if_pos hj] at hr
      cases hq; cases hr; exact ng c' zv
     ·cases hq
    ·intro v hv
     rw [List.eq_of_mem_replicate hv]
     exact ⟨uk,B7⟩
    ·refine cK.2 fun q hq=>?_
     rw [List.eq_of_mem_replicate hq]; exact hp)
  refine ⟨.slice (some ⟨c.w.heap.size,0,.none⟩) n.toNat n.toNat,c',by rw [hw]; simp [execOp,ho,oa,lU,du],?_,h2,h3⟩
  simp only [av]
  exact ⟨rfl,_,_,_,_,gH,Nat.le_refl _,fun _=>rfl⟩
 ·cases h
theorem EV {cells:Array Value} {off:Nat} {l:Array Value} (h:off+l.size≤cells.size) :
  (l.zipIdx.foldl (fun cs (x:Value × Nat)=>cs.setIfInBounds (off+x.2) x.1) cells).toList=cells.toList.take off++l.toList++cells.toList.drop (off+l.toList.length):=by
 obtain ⟨g1,g2⟩:=Great.foldl_set off l.toList 0 cells
 have e0:l.zipIdx.foldl (fun cs (x:Value × Nat)=>cs.setIfInBounds (off+x.2) x.1) cells=(l.toList.zipIdx 0).foldl (fun cs (x:Value × Nat)=>cs.setIfInBounds (off+x.2) x.1) cells:=by
  rw [← Array.foldl_toList]; simp
 rw [e0]
 apply List.ext_getElem?
 intro j
 rw [Array.getElem?_toList,g2 j]
 have e1:l.toList.length=l.size:=by simp
 have e2:cells.toList.length=cells.size:=by simp
 simp only [Nat.add_zero,List.getElem?_append,List.length_append,List.length_take,List.getElem?_take,List.getElem?_drop,e1,e2]
 by_cases h1:j<off
 ·rw [if_neg (by omega),if_pos (by omega),if_pos (by omega),if_pos h1]; simp
 ·by_cases h2:j<off+l.size
  ·rw [if_pos (by omega),if_pos (by omega),if_neg (by omega)]
   congr 1; omega
  ·rw [if_neg (by omega),if_neg (by omega)]
   rw [← Array.getElem?_toList]; congr 1; omega
theorem sI {t:TypeId} {fields:Array Field} {tE:List (Nat × Nat)} (hu:P.underlying t=some (.struct fields)) (xj:fields.toList.mapM (fun f=>(P.info? f.type).map fun i=>(f.offset,i.size))=some tE) {c:Cx} {a:Act} (bA:∀ x,av c (ev x) (a.eval x)) :
  ∀ (parts:List (Nat × Operand)) (cs:List LV) (cells:Array Value) (r:List LV),aC c cs cells.toList→mr P t cs (parts.map fun p=>(p.1,ev p.2))=some r →
   ∃ rc,Instr.fill (tE.toArray[·]?) cells (parts.map fun p=>(p.1,a.eval p.2))=some rc∧aC c r rc.toList
 | [],cs,cells,r,hl,h=>by
  simp only [List.map_nil,mr,Option.some.injEq] at h
  subst h
  exact ⟨cells,rfl,hl⟩
 | (i, x) :: parts, cs, cells, r, hl, h => by
  simp only [List.map_cons,mr] at h
  cases nF:tfield P t i with
  | none=>simp [nF] at h
  | some q =>
   obtain ⟨off,ft⟩:=q
   simp only [nF] at h
   split at h
   ·rename_i hc
    obtain ⟨h1,h2,h3,h4⟩:=hc
    obtain ⟨u4,M0⟩:=(bA x).cellsOf h4
    have UZ:(ev x).cells.length=(a.eval x).cells.size:=by rw [u4.length]; simp
    have lO:cs.length=cells.size:=by rw [hl.length]; simp
    have Ld : tE.toArray[i]? = some (off, tsize P ft) := by
     unfold tfield at nF
     rw [hu] at nF
     simp only at nF
     cases hf:fields[i]? with
     | none=>simp [hf] at nF
     | some fd =>
      simp only [hf,Option.map_some,Option.some.injEq,Prod.mk.injEq] at nF
      obtain ⟨rfl,rfl⟩:=nF
      have Sy:∀ (fs:List Field) (ps:List (Nat × Nat)),fs.mapM (fun f=>(P.info? f.type).map fun i=>(f.offset,i.size))=some ps→∀ (i:Nat) fd,fs[i]?=some fd→ps[i]?=some (fd.offset,tsize P fd.type):=by
       intro fs
       induction fs with
       | nil=>intro ps _ i fd B3; simp at B3
       | cons f fs ih =>
        intro ps rC i fd B3
        simp only [List.mapM_cons,Option.bind_eq_bind,Option.pure_def] at rC
        cases hi:P.info? f.type with
        | none=>simp [hi] at rC
        | some inf =>
         cases hr:fs.mapM (fun f=>(P.info? f.type).map fun i=>(f.offset,i.size)) with
         | none=>simp [hi,hr] at rC
         | some rest =>
          simp [hi,hr] at rC
          subst rC
          cases i with
          | zero=>simp at B3; subst B3; simp [tsize,hi]
          | succ i=>simp at B3; simpa using ih rest hr i fd B3
      have:=Sy fields.toList tE xj i fd (by simpa using hf)
      simpa using this
    have NO:=EV (cells:=cells) (off:=off) (l:=(a.eval x).cells) (by omega)
    obtain ⟨rc,Tb,wu⟩:=sI hu xj bA parts (rep cs off (ev x).cells) ((a.eval x).cells.zipIdx.foldl (fun cs (x:Value × Nat)=>cs.setIfInBounds (off+x.2) x.1) cells) r (by
     rw [NO]
     unfold rep
     rw [u4.length]
     exact ((hl.take off).append u4).append (hl.drop _)) h
    refine ⟨rc,?_,wu⟩
    simp only [List.map_cons]
    unfold Instr.fill
    simp only [Ld]
    rw [if_neg (by simp only [ne_eq,Bool.or_eq_true,decide_eq_true_eq,not_or,Decidable.not_not,Nat.not_lt,gt_iff_lt]; omega)]
    exact Tb
   ·cases h
theorem zt {t:TypeId} {parts:Array (Nat × Operand)} (ho:o.op=.build t parts) (h:LOp P pr [] o ev m K):∃ lv m',K lv m'∧cj P pr o ev m lv m':=by
 simp only [LOp,ho] at h
 obtain ⟨MY,h⟩:=h
 split at h
 ·rename_i z hz
  split at h
  ·rename_i cs hf
   refine ⟨_,_,h,cj.same fun c a bA hm=>?_⟩
   unfold tbuild at MY
   split at MY
   ·rename_i fields hu
    obtain ⟨tE,xj⟩:=Option.isSome_iff_exists.1 MY
    unfold tzero at hz
    split at hz
    ·rename_i i hi
     split at hz
     ·rename_i zv AX
      split at hz
      ·have WC:Ds zv=.agg z:=by simpa using hz
       have WD:aC c z zv.cells.toList:=by have:=nf c zv; rw [WC] at this; exact this
       obtain ⟨rc,Tb,wu⟩:=sI hu xj bA parts.toList z zv.cells cs WD hf
       have hb:P.built t (parts.map fun p=>(p.1,a.eval p.2)).toList=some rc:=by
        unfold Program.built
        simp only [hi,hu,AX,xj,Array.toList_map]
        exact Tb
       have du:=run_build (P:=P) c.w t _ rc hb
       refine ⟨.agg rc,by simp [execOp,ho,du],?_⟩
       simp only [av]
       exact ⟨rc.toList,by simp,wu⟩
      ·cases hz
     ·cases hz
    ·cases hz
   ·cases MY
  ·cases h
 ·cases h
theorem qE {t:TypeId} {len:Nat} {parts:Array (Nat × Operand)} (ho:o.op=.buildSlice t len parts) (h:LOp P pr [] o ev m K):∃ lv m',K lv m'∧cj P pr o ev m lv m':=by
 simp only [LOp,ho] at h
 cases lh:telem P t <;> simp only [lh] at h
 case some e =>
  obtain ⟨lT,Oh,E9,E6,hK⟩:=h
  have hu:=fp lh
  obtain ⟨i,zv,hi,AX,uk,B7,eH,C0,qe⟩:=pc lT
  refine ⟨_,_,hK,cj.value fun c a bA hm=>?_⟩
  have mY:parts.toList.length=len:=by have:=congrArg List.length E9; simpa using this
  let vs:=parts.toList.map fun p=>a.eval p.2
  have hl:aC c (parts.toList.map fun p=>ev p.2) vs:=aC.of (by simp [vs]) fun j x v hx hv=>by
   simp only [vs,List.getElem?_map,Option.map_eq_some_iff] at hx hv
   obtain ⟨p,hp,rfl⟩:=hx
   obtain ⟨p',AM,rfl⟩:=hv
   rw [hp] at AM; cases AM; exact bA _
  have hcell:∀ v ∈ vs,v.cells.size=i.size∧∀ y ∈ v.cells,y.oneCell'=true:=by
   intro v hv
   simp only [vs,List.mem_map] at hv
   obtain ⟨p,hp,rfl⟩:=hv
   obtain ⟨_,e1,e2⟩:=E6 (ev p.2) (List.mem_map.2 ⟨p,hp,rfl⟩)
   obtain ⟨e3,e4⟩:=(bA p.2).cellsOf e2
   refine ⟨?_,e4⟩
   have:=e3.length
   rw [e1,qe] at this
   simpa using this.symm
  have Fo:LV.bo (parts.toList.map fun p=>ev p.2)=true:=cK.2 fun x hx=>(E6 x hx).1
  have AN:(parts.map fun (p:Nat × Operand)=>(p.1,a.eval p.2)).toList=(vs.zipIdx 0).map fun x=>(x.2,x.1):=by
   apply List.ext_getElem?
   intro j
   have hj:=congrArg (fun l=>l[j]?) E9
   simp only [List.getElem?_map,List.getElem?_range] at hj
   simp only [Array.toList_map,List.getElem?_map,List.getElem?_zipIdx,vs,Nat.zero_add]
   cases hp:parts.toList[j]? with
   | none=>simp
   | some p =>
    rw [hp] at hj
    have iG:j<len:=by
     rw [← mY]; exact (List.getElem?_eq_some_iff.1 hp).1
    rw [List.getElem?_range iG] at hj
    simp at hj
    simp [hj]
  obtain ⟨cells,xP,xR⟩:∃ cells,Instr.fill (fun i'=>some (i' * i.size,i.size)) ((Array.range (len * i.size)).map (zv.cells[· % zv.cells.size]!)) (parts.map fun (p:Nat × Operand)=>(p.1,a.eval p.2)).toList=some cells∧cells.toList=flat vs:=by
   have nG:vs.length=len:=by simp [vs,mY]
   obtain ⟨r,hr,UX,Of⟩:=Great.fill_dense eH vs 0 ((Array.range (len * i.size)).map (zv.cells[· % zv.cells.size]!)) (fun v hv=>(hcell v hv).1) (by simp [nG])
   refine ⟨r,by rw [AN]; exact hr,?_⟩
   apply List.ext_getElem?
   intro j
   rw [flat_get eH (fun v hv=>(hcell v hv).1),Array.getElem?_toList,Of j]
   simp only [Nat.zero_mul,Nat.zero_le,true_and,Nat.zero_add,Nat.sub_zero,nG]
   by_cases hj:j<len * i.size
   ·rw [if_pos hj]
   ·rw [if_neg hj]
    have h1:¬ j / i.size<len:=fun hh=>hj ((Nat.div_lt_iff_lt_mul eH).1 hh)
    rw [List.getElem?_eq_none (by omega:vs.length≤j / i.size)]
    simp; omega
  have lS:cells=(flat vs).toArray:=by rw [← xR]
  subst lS
  have du:(execOp a.eval o).run P c.w=.ok (.value (.slice (some ⟨c.w.heap.size,0,.none⟩) len len)) (c.w.alloc (.cells (flat vs).toArray e)):=by
   by_cases Jf:len=0
   ·subst Jf
    have Di:parts=#[]:=by apply Array.ext'; simpa using mY
    subst Di
    simp [execOp,ho,Instr.buildSlice,run_underlying hu,sizeOf,typeInfo,hi,Instr.fill,newRow,vs,flat,Array.range_zero']
   ·have H6:¬ len * i.size=0:=by
     intro h0
     rcases Nat.mul_eq_zero.1 h0 with h0 | h0 <;> omega
    have hb:=run_buildSlice (P:=P) c.w t e len (parts.map fun (p:Nat × Operand)=>(p.1,a.eval p.2)) (flat vs).toArray i zv hu hi AX (by rw [qe] at Oh; omega) H6 xP
    simp [execOp,ho,hb]
  obtain ⟨h2,h3⟩:=hm.ext (pr:=pr) (c.w.alloc (.cells (flat vs).toArray e)) rfl rfl rfl (Nat.le_refl _) (by simp) (fun b hb=>oq c.w _ b hb)
  refine ⟨_,_,du,?_,h2,h3⟩
  simp only [av]
  refine ⟨some ⟨c.w.heap.size,0,.none⟩,len,by simp [mY],by simp [mY],by simp,Fo,.inr ⟨c.w.heap.size,0,vs,rfl,by simp,hm.PT (Nat.le_refl _),h3.QM hl,fun u hu=>by rw [qe]; exact hcell u hu,q9 c.w _ e⟩⟩
theorem ll {ro:List Nat} (h:LOp P pr ro o ev m K):∃ lv m',K lv m'∧cj P pr o ev m lv m':=by
 have ui:∀ (ho:∀ t x,o.op ≠ .box t x),LOp P pr [] o ev m K:=by
  intro kF
  unfold LOp at h ⊢
  split at h <;> first | exact h | (rename_i t x ho; exact absurd ho (kF t x))
 cases ho:o.op
 case move x=>simp only [LOp,ho] at h; exact ⟨_,_,h,Ch x (.inl ho)⟩
 case assign x=>simp only [LOp,ho] at h; exact ⟨_,_,h,Ch x (.inr ho)⟩
 case pick x y z =>
  simp only [LOp,ho] at h
  cases hx:ev x <;> simp only [hx] at h
  case bool t=>exact ⟨_,_,h,Is x y z t ho hx⟩
 case alloc t =>
  simp only [LOp,ho] at h
  split at h
  ·rename_i z d hz hd
   exact ⟨_,_,h.2,yn t d z ho hz h.1⟩
  ·cases h
 case box t x =>
  simp only [LOp,ho] at h
  split at h
  ·rename_i d hd
   obtain ⟨hs,h⟩:=h
   split at h
   ·exact ⟨_,_,h,Dt t x ho hs⟩
   ·exact ⟨_,_,h.2,Ma t x d ho hs h.1⟩
  ·cases h
 case build t parts=>exact zt ho (ui (by simp [ho]))
 case buildSlice t n parts=>exact qE ho (ui (by simp [ho]))
 case load t x=>exact By ho (ui (by simp [ho]))
 case store t x y=>exact zx ho (ui (by simp [ho]))
 case nilCheck x=>exact uc ho (ui (by simp [ho]))
 case binOp op t x y t'=>exact zr ho (ui (by simp [ho]))
 case unOp op t x=>exact Bz ho (ui (by simp [ho]))
 case convert s t x=>exact uK ho (ui (by simp [ho]))
 case slice t x lo hi mx=>exact zw ho (ui (by simp [ho]))
 case fieldAddr t x f=>exact rK ho (ui (by simp [ho]))
 case field t x f=>exact zu ho (ui (by simp [ho]))
 case indexAddr t x i=>exact rL ho (ui (by simp [ho]))
 case extract t i=>exact uM ho (ui (by simp [ho]))
 case makeFunc f a b=>exact ub ho (ui (by simp [ho]))
 case makeSlice t x y=>exact rM ho (ui (by simp [ho]))
 case call c =>
  cases hc:c.callee
  case value x=>exact Bx ho hc (ui (by simp [ho]))
  case builtin b =>
   cases b
   case len=>exact D1 ho hc (ui (by simp [ho]))
   case append=>exact wY ho hc (ui (by simp [ho]))
   all_goals simp [LOp,ho,hc] at h
  all_goals simp [LOp,ho,hc] at h
 all_goals simp [LOp,ho] at h
end ops
end Go.L
namespace Go.L
structure mw (N:Nat) (c:Cx) (e:Env) (m:Mem) (a:Act):Prop where
 env:∀ i,av c (e i) (a.tmps.getD i undef)
 mem:b3 c m
 size:a.tmps.size=N
 defers:a.defers=[]
theorem mw.ev {N:Nat} {c:Cx} {e:Env} {m:Mem} {a:Act} (h:mw N c e m a) (x:Operand):av c (da e x) (a.eval x):=by
 cases x with
 | tmp t=>exact h.env t
 | const v=>exact ng c v
 | global g=>simp [da,av]
 | func f=>simp only [da,Act.eval,av]; exact ⟨[],rfl,by simp [aC]⟩
theorem mw.put {N:Nat} {pr:Nat→Prop} {c c':Cx} {e:Env} {m m':Mem} {a:Act} (h:mw N c e m a) (hs:Step pr c c') (hm:b3 c' m') {d:Option Nat} (hd:∀ i,d=some i→i<N) {lv:LV} {v:Value} (hv:av c' lv v):mw N c' (e.fM d lv) m' (a.put d v):=by
 cases d with
 | none=>exact ⟨fun i=>hs.wS (h.env i),hm,h.size,h.defers⟩
 | some d =>
  refine ⟨fun i=>?_,hm,by simp [Act.put,h.size],h.defers⟩
  simp only [Env.fM,Env.put,Act.put]
  by_cases hi:i=d
  ·subst hi
   have:i<a.tmps.size:=by rw [h.size]; exact hd i rfl
   simpa [this] using hv
  ·simp only [hi,if_false]
   have:=hs.wS (h.env i)
   simpa [Array.getElem?_setIfInBounds_ne (Ne.symm hi)] using this
def mK (P:Program) (N:Nat) (pr:Nat→Prop) (code:Code) (e:Env) (m:Mem) (ex:Exit) (e':Env) (m':Mem):Prop :=
 ∀ (c:Cx) (a:Act),mw N c e m a→code.wp P (fun x a' w'=>x=ex∧∃ c':Cx,c'.w=w'∧mw N c' e' m' a'∧Grow pr c c') a c.w
def LH (P:Program) (N:Nat) (pr:Nat→Prop) (code:Code) (Q:Exit→Env→Mem→Prop) (e:Env) (m:Mem):Prop :=
 ∃ ex e' m',mK P N pr code e m ex e' m'∧Q ex e' m'
def Wk (pr:Nat→Prop) (e:Env) (m:Mem) (e':Env) (m':Mem):Prop :=
 ∀ (N:Nat) (c:Cx) (a:Act),mw N c e m a→∃ c':Cx,c'.w=c.w∧mw N c' e' m' a∧Grow pr c c'
theorem Wk.trans {pr:Nat→Prop} {e e' Uo:Env} {m m' U7:Mem} (h:Wk pr e m e' m') (k:Wk pr e' m' Uo U7):Wk pr e m Uo U7:=fun N c a hr=>by
 obtain ⟨c1,FK,ei,zY⟩:=h N c a hr
 obtain ⟨c2,qV,fH,pL⟩:=k N c1 a ei
 exact ⟨c2,qV.trans FK,fH,zY.trans pL⟩
section rules
variable {P:Program} {N:Nat} {pr:Nat→Prop} {Q:Exit→Env→Mem→Prop} {e e':Env} {m m':Mem}
theorem LH.mono {c:Code} {Q':Exit→Env→Mem→Prop} (h:LH P N pr c Q e m) (hq:∀ ex e m,Q ex e m→Q' ex e m):LH P N pr c Q' e m:=by
 obtain ⟨ex,e',m',h1,h2⟩:=h
 exact ⟨ex,e',m',h1,hq _ _ _ h2⟩
theorem mK.wk {c:Code} {ex:Exit} {e2:Env} {m2:Mem} (hw:Wk pr e m e' m') (h:mK P N pr c e' m' ex e2 m2):mK P N pr c e m ex e2 m2:=by
 intro cx a hr
 obtain ⟨c1,FK,ei,zY⟩:=hw N cx a hr
 rw [← FK]
 refine wp_mono (h c1 a ei) ?_
 rintro x a' w' ⟨hx,c2,qV,fH,pL⟩
 exact ⟨hx,c2,qV,fH,zY.trans pL⟩
theorem LH.wk {c:Code} (hw:Wk pr e m e' m') (h:LH P N pr c Q e' m'):LH P N pr c Q e m:=by
 obtain ⟨ex,e2,m2,h1,h2⟩:=h
 exact ⟨ex,e2,m2,h1.wk hw,h2⟩
theorem LH.skip (h:Q .normal e m):LH P N pr .skip Q e m:=⟨_,_,_,fun c a hr=>wp_skip ⟨rfl,c,rfl,hr,.refl pr c⟩,h⟩
theorem LH.ret (h:Q .ret e m):LH P N pr .ret Q e m:=⟨_,_,_,fun c a hr=>wp_ret ⟨rfl,c,rfl,hr,.refl pr c⟩,h⟩
theorem LH.exit {id:Nat} (h:Q (.exit id) e m):LH P N pr (.exit id) Q e m:=⟨_,_,_,fun c a hr=>wp_exit ⟨rfl,c,rfl,hr,.refl pr c⟩,h⟩
def zA (K:Env→Mem→Prop) (Q:Exit→Env→Mem→Prop):Exit→Env→Mem→Prop
 | .normal,e,m=>K e m
 | ex,e,m=>Q ex e m
theorem LH.seq {x y:Code} (h:LH P N pr x (zA (LH P N pr y Q) Q) e m):LH P N pr (.seq x y) Q e m:=by
 obtain ⟨ex,e1,m1,h1,h2⟩:=h
 cases ex with
 | normal =>
  obtain ⟨Vu,e2,m2,h3,h4⟩:=h2
  refine ⟨Vu,e2,m2,fun c a hr=>wp_seq (wp_mono (h1 c a hr) ?_),h4⟩
  rintro x a' w' ⟨rfl,c',rfl,rD,sW⟩
  refine wp_mono (h3 c' a' rD) ?_
  rintro x Nf MH ⟨hx,c2,qV,fH,pL⟩
  exact ⟨hx,c2,qV,fH,sW.trans pL⟩
 | exit id =>
  refine ⟨_,e1,m1,fun c a hr=>wp_seq (wp_mono (h1 c a hr) ?_),h2⟩
  rintro x a' w' ⟨rfl,hq⟩
  exact ⟨rfl,hq⟩
 | goto l =>
  refine ⟨_,e1,m1,fun c a hr=>wp_seq (wp_mono (h1 c a hr) ?_),h2⟩
  rintro x a' w' ⟨rfl,hq⟩
  exact ⟨rfl,hq⟩
 | ret =>
  refine ⟨_,e1,m1,fun c a hr=>wp_seq (wp_mono (h1 c a hr) ?_),h2⟩
  rintro x a' w' ⟨rfl,hq⟩
  exact ⟨rfl,hq⟩
 | panic ch =>
  refine ⟨_,e1,m1,fun c a hr=>wp_seq (wp_mono (h1 c a hr) ?_),h2⟩
  rintro x a' w' ⟨rfl,hq⟩
  exact ⟨rfl,hq⟩
 | outgrown =>
  refine ⟨_,e1,m1,fun c a hr=>wp_seq (wp_mono (h1 c a hr) ?_),h2⟩
  rintro x a' w' ⟨rfl,hq⟩
  exact ⟨rfl,hq⟩
theorem LH.cond {x:Operand} {y z:Code} {t:Bool} (hx:da e x=.bool t) (h1:t=true→LH P N pr y Q e m) (h2:t=false→LH P N pr z Q e m):LH P N pr (.cond x y z) Q e m:=by
 cases t with
 | true =>
  obtain ⟨ex,e',m',h3,h4⟩:=h1 rfl
  refine ⟨ex,e',m',fun c a hr=>?_,h4⟩
  have:=hr.ev x
  rw [hx] at this
  simp only [av] at this
  exact wp_cond_true this (h3 c a hr)
 | false =>
  obtain ⟨ex,e',m',h3,h4⟩:=h2 rfl
  refine ⟨ex,e',m',fun c a hr=>?_,h4⟩
  have:=hr.ev x
  rw [hx] at this
  simp only [av] at this
  exact wp_cond_false this (h3 c a hr)
def lR (id:Nat) (Q:Exit→Env→Mem→Prop):Exit→Env→Mem→Prop
 | .exit j,e,m=>if j=id then Q .normal e m else Q (.exit j) e m
 | ex,e,m=>Q ex e m
theorem LH.block {id:Nat} {c:Code} (h:LH P N pr c (lR id Q) e m):LH P N pr (.block id c) Q e m:=by
 obtain ⟨ex,e1,m1,h1,h2⟩:=h
 have gen:∀ Rh,(∀ a w,∀ R:Act→World→Prop,R a w→Exit.inBlock id (fun x a w=>x=Rh∧R a w) ex a w)→Q Rh e1 m1→LH P N pr (.block id c) Q e m:=by
  intro Rh hb hq
  refine ⟨Rh,e1,m1,fun cx a hr=>wp_block (wp_mono (h1 cx a hr) ?_),hq⟩
  rintro x a' w' ⟨rfl,hh⟩
  exact hb a' w' (fun a' w'=>∃ c':Cx,c'.w=w'∧mw N c' e1 m1 a'∧Grow pr cx c') hh
 cases ex with
 | exit j =>
  by_cases hj:j=id
  ·subst hj
   simp only [lR,if_true] at h2
   exact gen .normal (fun a w R hR=>by simp [Exit.inBlock,hR]) h2
  ·simp only [lR,hj,if_false] at h2
   exact gen (.exit j) (fun a w R hR=>by simp [Exit.inBlock,hj,hR]) h2
 | normal=>exact gen _ (fun a w R hR=>⟨rfl,hR⟩) h2
 | goto l=>exact gen _ (fun a w R hR=>⟨rfl,hR⟩) h2
 | ret=>exact gen _ (fun a w R hR=>⟨rfl,hR⟩) h2
 | panic ch=>exact gen _ (fun a w R hR=>⟨rfl,hR⟩) h2
 | outgrown=>exact gen _ (fun a w R hR=>⟨rfl,hR⟩) h2
def ss (P:Program) (N:Nat) (pr:Nat→Prop) (c:Code) (ex:Exit) (e':Env) (m':Mem):Nat→Env→Mem→Prop
 | 0,e,m=>ex ≠ .normal∧mK P N pr c e m ex e' m'
 | n+1,e,m=>∃ e1 m1,mK P N pr c e m .normal e1 m1∧ss P N pr c ex e' m' n e1 m1
theorem ss.exec {c:Code} {ex:Exit} {n:Nat} (h:ss P N pr c ex e' m' n e m):mK P N pr (.loop c) e m ex e' m':=by
 intro cx a hr
 refine wp_loop_ghost (fun k a w=>∃ e1 m1,∃ c1:Cx,ss P N pr c ex e' m' k e1 m1∧c1.w=w∧mw N c1 e1 m1 a∧Grow pr cx c1) n ⟨e,m,cx,h,rfl,hr,.refl pr cx⟩ ?_
 rintro k a w ⟨e1,m1,c1,hR,rfl,ei,zY⟩
 cases k with
 | zero =>
  obtain ⟨eA,hx⟩:=hR
  refine wp_mono (hx c1 a ei) ?_
  rintro x a' w' ⟨rfl,c2,rfl,fH,pL⟩
  cases x <;> first | exact absurd rfl eA | exact ⟨rfl,c2,rfl,fH,zY.trans pL⟩
 | succ k =>
  obtain ⟨e2,m2,hx,hR⟩:=hR
  refine wp_mono (hx c1 a ei) ?_
  rintro x a' w' ⟨rfl,c2,rfl,fH,pL⟩
  exact ⟨k,by omega,e2,m2,c2,hR,rfl,fH,zY.trans pL⟩
theorem mK.post {c:Code} {ex:Exit} {e2:Env} {m2:Mem} (h:mK P N pr c e m ex e' m') (hw:Wk pr e' m' e2 m2):mK P N pr c e m ex e2 m2:=by
 intro cx a hr
 refine wp_mono (h cx a hr) ?_
 rintro x a' w' ⟨hx,c1,rfl,ei,zY⟩
 obtain ⟨c2,qV,fH,pL⟩:=hw N c1 a' ei
 exact ⟨hx,c2,qV,fH,zY.trans pL⟩
def tV (pr:Nat→Prop) (I:Nat→Env→Mem→Prop) (n:Nat) (Q:Exit→Env→Mem→Prop):Exit→Env→Mem→Prop
 | .normal,e,m=>∃ e' m',Wk pr e m e' m'∧∃ k,k<n∧I k e' m'
 | ex,e,m=>Q ex e m
theorem LH.loop {c:Code} (I:Nat→Env→Mem→Prop) (n:Nat) (h0:I n e m) (h:∀ n e m,I n e m→LH P N pr c (tV pr I n Q) e m):LH P N pr (.loop c) Q e m:=by
 have key:∀ n e m,I n e m→∃ ex e' m' k,ss P N pr c ex e' m' k e m∧Q ex e' m':=by
  intro n
  induction n using Nat.strongRecOn with
  | _ n ih =>
   intro e m hI
   obtain ⟨ex,e1,m1,h1,h2⟩:=h n e m hI
   cases ex with
   | normal =>
    obtain ⟨e2,m2,hw,k,hk,VC⟩:=h2
    obtain ⟨ex,e',m',j,hR,hQ⟩:=ih k hk e2 m2 VC
    exact ⟨ex,e',m',j+1,⟨e2,m2,h1.post hw,hR⟩,hQ⟩
   | exit id=>exact ⟨_,e1,m1,0,⟨by simp,h1⟩,h2⟩
   | goto l=>exact ⟨_,e1,m1,0,⟨by simp,h1⟩,h2⟩
   | ret=>exact ⟨_,e1,m1,0,⟨by simp,h1⟩,h2⟩
   | panic ch=>exact ⟨_,e1,m1,0,⟨by simp,h1⟩,h2⟩
   | outgrown=>exact ⟨_,e1,m1,0,⟨by simp,h1⟩,h2⟩
 obtain ⟨ex,e',m',k,hR,hQ⟩:=key n e m h0
 exact ⟨ex,e',m',hR.exec,hQ⟩
theorem nV {ops:Array Oper} {o:Oper} {c:Cx} {a:Act} (hr:mw N c e m a) (hd:∀ q ∈ ops,∀ i,q.dst=some i→i<N) {j:Nat} {want:Bool} (hg:o.guard=some (j,want)) {g:Nat} (hj:(ops[j]?).bind (·.dst)=some g) {t:Bool} (ht:e g=.bool t) :
  Region.wanted o (yielded ops a.tmps)=(t == want):=by
 have hv:=hr.env g
 rw [ht] at hv
 simp only [av] at hv
 have Sx:g<N:=by
  cases hq:ops[j]? with
  | none=>simp [hq] at hj
  | some q=>simp [hq] at hj; exact hd q (Array.mem_of_getElem? hq) g hj
 have eH:g<a.tmps.size:=by rw [hr.size]; exact Sx
 have E7:a.tmps[g]?=some (.bool t):=by
  rw [Array.getElem?_eq_getElem eH]
  simpa [eH] using hv
 simp [Region.wanted,hg,yielded,hj,E7]
theorem rl {ops:Array Oper} {o:Oper} {c:Cx} {a:Act} (hr:mw N c e m a) (hd:∀ q ∈ ops,∀ i,q.dst=some i→i<N) {j:Nat} {want:Bool} (hg:o.guard=some (j,want)) {g:Nat} (hj:(ops[j]?).bind (·.dst)=some g) (ht:e g=.cV []) :
  Region.wanted o (yielded ops a.tmps)=false:=by
 have hv:=hr.env g
 rw [ht] at hv
 simp only [av,aC] at hv
 obtain ⟨vs,hv,rfl⟩:=hv
 have Sx:g<N:=by
  cases hq:ops[j]? with
  | none=>simp [hq] at hj
  | some q=>simp [hq] at hj; exact hd q (Array.mem_of_getElem? hq) g hj
 have eH:g<a.tmps.size:=by rw [hr.size]; exact Sx
 have E7:a.tmps[g]?=some (.tuple #[]):=by
  rw [Array.getElem?_eq_getElem eH]
  simpa [eH] using hv
 simp [Region.wanted,hg,yielded,hj,E7]
theorem pb (c:Cx):av c (.cV []) undef:=by
 simp only [av,aC]
 exact ⟨[],rfl,rfl⟩
theorem xw {ro:List Nat} {ops:Array Oper} {o:Oper} {K:Env→Mem→Prop} (hd:∀ q ∈ ops,∀ i,q.dst=some i→i<N) (H4:∀ i,o.dst=some i→i<N) (h:BJ P pr ro ops o K e m) :
  ∃ lv m',K (e.fM o.dst lv) m'∧∀ (c:Cx) (a:Act) (R:Act→World→Prop) (Q:Exit→Act→World→Prop),mw N c e m a →
   (∀ a' (c':Cx),mw N c' (e.fM o.dst lv) m' a'→Step pr c c'→R a' c'.w) →
   if Region.wanted o (yielded ops a.tmps) then o.wp P a c.w R Q ∨ (o.asks P a c.w∧LetsOut Q) else R (a.put o.dst undef) c.w:=by
 have run:∀ (h:LOp P pr ro o (da e) m fun lv m'=>K (e.fM o.dst lv) m'),∃ lv m',K (e.fM o.dst lv) m'∧∀ (c:Cx) (a:Act) (R:Act→World→Prop) (Q:Exit→Act→World→Prop),mw N c e m a →
   (∀ a' (c':Cx),mw N c' (e.fM o.dst lv) m' a'→Step pr c c'→R a' c'.w)→o.wp P a c.w R Q:=by
  intro h
  obtain ⟨lv,m',hK,gD⟩:=ll h
  refine ⟨lv,m',hK,fun c a R Q hr hR=>?_⟩
  refine Oper.wp_mono ?_ (gD c a Q hr.ev hr.mem)
  rintro a' w' ⟨v,c',rfl,rfl,hv,iO,hs⟩
  exact hR _ c' (hr.put hs iO H4 hv) hs
 unfold BJ at h
 split at h
 ·rename_i hg
  obtain ⟨lv,m',hK,du⟩:=run h
  refine ⟨lv,m',hK,fun c a R Q hr hR=>?_⟩
  rw [if_pos (by simp [Region.wanted,hg])]
  exact .inl (du c a R Q hr hR)
 ·rename_i j want hg
  split at h
  ·rename_i g hj
   cases ht:e g <;> simp only [ht] at h
   case bool t =>
    split at h
    ·rename_i heq
     obtain ⟨lv,m',hK,du⟩:=run h
     refine ⟨lv,m',hK,fun c a R Q hr hR=>?_⟩
     rw [nV hr hd hg hj ht,if_pos (by simpa using heq)]
     exact .inl (du c a R Q hr hR)
    ·rename_i eA
     refine ⟨.cV [],m,h,fun c a R Q hr hR=>?_⟩
     rw [nV hr hd hg hj ht,if_neg (by simpa using eA)]
     exact hR _ c (hr.put (Step.refl pr c) hr.mem H4 (pb c)) (Step.refl pr c)
   case cV vs =>
    cases vs with
    | cons x xs=>exact h.elim
    | nil =>
     refine ⟨.cV [],m,h,fun c a R Q hr hR=>?_⟩
     rw [rl hr hd hg hj ht,if_neg (by simp)]
     exact hR _ c (hr.put (Step.refl pr c) hr.mem H4 (pb c)) (Step.refl pr c)
  ·cases h
def oK (N:Nat) (l:List Oper):Bool:=l.all fun o=>match o.dst with | some d=>decide (d<N) | .none=>true
theorem rP {l:List Oper} (h:oK N l=true):∀ q ∈ l.toArray,∀ i,q.dst=some i→i<N:=by
 intro q hq i hi
 have:=List.all_eq_true.1 h q (by simpa using hq)
 simpa [hi] using this
end rules
end Go.L
namespace Go.L
mutual
def LV.refs:LV→List Nat
 | .ag cs=>LV.bK cs
 | .fS _ cs=>LV.bK cs
 | .arr i _=>[i]
 | .ptr i _=>[i]
 | .bE i _ _ _=>[i]
 | .mp i=>[i]
 | .agg cs=>LV.bK cs
 | .cV cs=>LV.bK cs
 | .fn _ cs=>LV.bK cs
 | .vQ _ cs=>LV.bK cs
 | _=>[]
def LV.bK:List LV→List Nat
 | []=>[]
 | x :: xs=>x.refs++LV.bK xs
end
mutual
theorem je {id:Nat}:∀ (x:LV),x.a8 id=false→id ∈ x.refs
 | .eD,h | .int _ _,h | .bool _,h | .nil,h | .p7 _,h | .full _ _,h | .str _,h | .it _,h | .k5,h | .fj,h | .al _ _,h | .aJ _ _ _ _,h=>by simp [LV.a8] at h
 | .ag cs,h=>by simp only [LV.a8] at h; simp only [LV.refs]; exact dg cs h
 | .fS _ cs,h=>by simp only [LV.a8] at h; simp only [LV.refs]; exact dg cs h
 | .arr _ _,h | .ptr _ _,h | .bE _ _ _ _,h | .mp _,h=>by simp [LV.a8] at h; simp [LV.refs,h]
 | .agg cs,h=>by simp only [LV.a8] at h; simp only [LV.refs]; exact dg cs h
 | .cV cs,h=>by simp only [LV.a8] at h; simp only [LV.refs]; exact dg cs h
 | .fn _ cs,h=>by simp only [LV.a8] at h; simp only [LV.refs]; exact dg cs h
 | .vQ _ cs,h=>by simp only [LV.a8] at h; simp only [LV.refs]; exact dg cs h
theorem dg {id:Nat}:∀ (xs:List LV),LV.cu id xs=false→id ∈ LV.bK xs
 | [],h=>by simp [LV.cu] at h
 | x :: xs,h=>by
  simp only [LV.cu,Bool.and_eq_false_iff] at h
  simp only [LV.bK,List.mem_append]
  exact h.imp (je x) (dg xs)
end
theorem b3.sub {c:Cx} {m:Mem} (h:b3 c m) (m':Mem) (oU:∀ id,m' id=m id ∨ m' id=.none) (pH:∀ id le,m' id=some le→∀ j,le.k6 j=false→m' j ≠ .none) :
  ∃ c':Cx,c'.w=c.w∧c'.OQ c∧b3 c' m'∧(∀ x v,(∀ j,x.a8 j=false→m' j ≠ .none)→av c x v→av c' x v)∧(∀ b,c'.own b→c.own b)∧(∀ b,c.own b→(∀ id be,m' id ≠ .none→c.B id=some be→¬ be.has b)→¬ c'.own b)∧∀ id,m' id ≠ .none→c'.B id=c.B id:=by
 classical
 let c':Cx:=⟨c.w,fun id=>if m' id=.none then .none else c.B id,c.O,c.Q⟩
 have hB:∀ id,m' id ≠ .none→c'.B id=c.B id:=fun id hi=>by simp [c',hi]
 have bj:∀ b,c'.own b→c.own b:=by
  rintro b ⟨id,be,h1,h2⟩
  by_cases hi:m' id=.none
  ·simp [c',hi] at h1
  ·rw [hB id hi] at h1; exact ⟨id,be,h1,h2⟩
 have hle:c.Le c':=Cx.sub_le rfl ⟨rfl,rfl⟩ bj
 have hV:∀ x v,(∀ j,x.a8 j=false→m' j ≠ .none)→av c x v→av c' x v:=fun x v hr hv =>
  av.mono hle x v (fun id bB=>by rw [hB id (hr id bB)]; exact jB.refl _) hv
 refine ⟨c',rfl,⟨rfl,rfl⟩,⟨fun id=>?_,?_,fun b ho=>h.jZ b (bj b ho),h.pw,h.nq rfl ⟨rfl,rfl⟩ bj⟩,hV,bj,?_,hB⟩
 ·by_cases hi:m' id=.none
  ·rw [hi]; simp [bw,c',hi]
  ·have he:=h.gE id
   rw [← (oU id).resolve_right hi] at he
   rw [hB id hi]
   cases hx:m' id with
   | none=>exact absurd hx hi
   | some le =>
    rw [hx] at he
    cases le with
    | box cs =>
     simp only [bw] at he ⊢
     obtain ⟨b,us,e,h1,h2,h3,h4⟩:=he
     exact ⟨b,us,e,h1,h2,aC.mono hle cs us (fun j hj=>by rw [hB j (pH id _ hx j hj)]; exact jB.refl _) h3,h4⟩
    | arr e k xs =>
     simp only [bw] at he ⊢
     obtain ⟨u,us,h1,h0,h2,h3,h4,h5⟩:=he
     exact ⟨u,us,h1,h0,h2,aC.mono hle xs us (fun j hj=>by rw [az xs h5] at hj; cases hj) h3,h4,h5⟩
    | nest e k os xs =>
     simp only [bw] at he ⊢
     obtain ⟨u,us,bs,h1,h0,h2,h3,h4⟩:=he
     exact ⟨u,us,bs,h1,h0,h2,h3.mono hle (fun b _=>rfl),h4⟩
    | c6 e k os xs i o id2 n2 =>
     simp only [bw] at he ⊢
     obtain ⟨u,us,bs,h1,h0,h2,h3,⟨ws,v,q1,q2,q3⟩,h4⟩:=he
     exact ⟨u,us,bs,h1,h0,h2,h3.mono hle (fun b _=>rfl),⟨ws,v,q1,q2,av.mono hle (.arr id2 n2) v (fun j hj=>by rw [hB j (pH id _ hx j hj)]; exact jB.refl _) q3⟩,h4⟩
    | dead=>simpa only [bw] using he
    | map kt vt es =>
     simp only [bw] at he ⊢
     obtain ⟨b,jF,ck,h1,h2,h3,h4,h5,h6,h7⟩:=he
     exact ⟨b,jF,ck,h1,h2,aC.mono hle _ _ (fun j hj=>by rw [az _ h5] at hj; cases hj) h3,aC.mono hle _ _ (fun j hj=>by rw [az _ h6] at hj; cases hj) h4,h5,h6,h7⟩
 ·intro i i' be eF b h1 h2 h3 h4
  by_cases hi:m' i=.none
  ·simp [c',hi] at h1
  ·by_cases gx:m' i'=.none
   ·simp [c',gx] at h2
   ·rw [hB i hi] at h1; rw [hB i' gx] at h2; exact h.inj i i' be eF b h1 h2 h3 h4
 ·rintro b Xb eA ⟨id,be,h1,h2⟩
  by_cases hi:m' id=.none
  ·simp [c',hi] at h1
  ·rw [hB id hi] at h1; exact eA id be hi h1 h2
def aV (el:List (Nat × LV)) (ml:List (Nat × LE)):Bool :=
 (el.all fun p=>p.2.refs.all fun j=>ml.any fun q=>q.1 == j) && ml.all fun q=>match q.2 with
  | .box cs=>(LV.bK cs).all fun j=>ml.any fun q=>q.1 == j
  | .arr _ _ _=>true
  | .map _ _ _=>true
  | .nest _ _ _ _=>true
  | .c6 _ _ _ _ _ _ id2 _=>ml.any fun q=>q.1 == id2
  | .dead=>true
theorem fq {ml:List (Nat × LE)} {id:Nat} {le:LE} (h:Mem.of ml id=some le):(id,le) ∈ ml:=by
 induction ml with
 | nil=>simp [Mem.of] at h
 | cons p ml ih =>
  obtain ⟨d,v⟩:=p
  simp only [Mem.of] at h
  split at h
  ·rename_i hi; cases h; subst hi; simp
  ·exact List.mem_cons_of_mem _ (ih h)
theorem jv {ml:List (Nat × LE)} {id:Nat} (h:(ml.any fun q=>q.1 == id)=true):Mem.of ml id ≠ .none:=by
 induction ml with
 | nil=>simp at h
 | cons p ml ih =>
  obtain ⟨d,v⟩:=p
  simp only [Mem.of]
  by_cases hd:id=d
  ·simp [hd]
  ·simp only [hd,if_false]
   simp only [List.any_cons,Bool.or_eq_true,beq_iff_eq] at h
   exact ih (h.resolve_left (fun hh=>hd hh.symm))
theorem CS (el:List (Nat × LV)) (i:Nat):Env.of el i=.eD ∨ (i,Env.of el i) ∈ el:=by
 induction el with
 | nil=>exact .inl rfl
 | cons p el ih =>
  obtain ⟨d,v⟩:=p
  simp only [Env.of]
  by_cases hd:i=d
  ·subst hd; simp
  ·simp only [hd,if_false]
   exact ih.imp (fun h=>h) (List.mem_cons_of_mem _)
theorem Wk.cut {pr:Nat→Prop} {e:Env} {m:Mem} (el:List (Nat × LV)) (ml:List (Nat × LE)) (he:∀ p ∈ el,e p.1=p.2) (hm:∀ p ∈ ml,m p.1=some p.2) (hr:aV el ml=true) (mE:∀ id,pr id→m id=.none ∨ Mem.of ml id ≠ .none):Wk pr e m (Env.of el) (Mem.of ml):=by
 intro N c a bY
 simp only [aV,Bool.and_eq_true,List.all_eq_true] at hr
 obtain ⟨c',hw,hO,iO,hV,bj,_,hB⟩:=bY.mem.sub (Mem.of ml) (fun id=>by
   cases h:Mem.of ml id with
   | none=>exact .inr rfl
   | some le=>exact .inl (hm _ (fq h)).symm)
  (fun id le bB j hj=>by
   have h2:=hr.2 _ (fq bB)
   cases le with
   | box cs =>
    simp only [List.all_eq_true] at h2
    exact jv (h2 j (dg cs hj))
   | c6 _ _ _ _ _ _ id2 _ =>
    simp only [LE.k6,bne_eq_false_iff_eq] at hj
    subst hj
    exact jv h2
   | _=>simp [LE.k6] at hj)
 refine ⟨c',hw,⟨fun i=>?_,iO,bY.size,bY.defers⟩,?_⟩
 ·rcases CS el i with h | h
  ·rw [h]; simp [av]
  ·have h1:=he _ h
   simp only at h1
   refine hV _ _ (fun j hj=>jv (hr.1 _ h j (je _ hj))) ?_
   rw [← h1]; exact bY.env i
 ·refine Cx.ni hw hO bj (fun id be hp hb=>?_)
  have:Mem.of ml id ≠ .none:=by
   rcases mE id hp with h0 | h0
   ·have:=bY.mem.fresh h0; rw [this] at hb; cases hb
   ·exact h0
  exact ⟨be,by rw [hB id this]; exact hb,.refl be⟩
mutual
/-- a settled box: U4 CL RX CL of settled cells -/
def LV.bk (id:Nat) (cs:List LV):LV→LV
 | .ptr i o=>if i=id then .ag (cs.drop o) else .ptr i o
 | .agg l=>.agg (LV.qT id cs l)
 | .cV l=>.cV (LV.qT id cs l)
 | .fn f l=>.fn f (LV.qT id cs l)
 | .vQ f l=>.vQ f (LV.qT id cs l)
 | .arr i n=>if i=id then .eD else .arr i n
 | .bE i n j o=>if i=id then .eD else .bE i n j o
 | .mp i=>if i=id then .eD else .mp i
 | .ag l=>if LV.cu id l=true then .ag l else .eD
 | .fS t l=>if LV.cu id l=true then .fS t l else .eD
 | x=>x
def LV.qT (id:Nat) (cs:List LV):List LV→List LV
 | []=>[]
 | x :: xs=>x.bk id cs :: LV.qT id cs xs
end
mutual
/-- a settled row: the slice over it Rb a list -/
def LV.eJ (id k:Nat) (xs:List LV):LV→LV
 | .arr i n=>if i=id then (if n=xs.length then .al k xs else .eD) else .arr i n
 | .agg l=>.agg (LV.ga id k xs l)
 | .cV l=>.cV (LV.ga id k xs l)
 | .fn f l=>.fn f (LV.ga id k xs l)
 | .vQ f l=>.vQ f (LV.ga id k xs l)
 | .ptr i o=>if i=id then .eD else .ptr i o
 | .bE i n j o=>if i=id then .eD else .bE i n j o
 | .mp i=>if i=id then .eD else .mp i
 | .ag l=>if LV.cu id l=true then .ag l else .eD
 | .fS t l=>if LV.cu id l=true then .fS t l else .eD
 | x=>x
def LV.ga (id k:Nat) (xs:List LV):List LV→List LV
 | []=>[]
 | x :: l=>x.eJ id k xs :: LV.ga id k xs l
end
def Mem.del (m:Mem) (id:Nat):Mem:=fun i=>if i=id then .none else m i
section Av
variable {c c':Cx} {id:Nat}
mutual
theorem xI {cs:List LV} (hV:∀ x v,x.a8 id=true→av c x v→av c' x v) (hp:∀ o v,av c (.ptr id o) v→av c' (.ag (cs.drop o)) v):∀ (x:LV) (v:Value),av c x v→av c' (x.bk id cs) v
 | .eD,v,h=>by simp [LV.bk,av]
 | .int _ _,v,h=>by simp only [LV.bk]; exact hV _ _ (by simp [LV.a8]) h
 | .bool _,v,h=>by simp only [LV.bk]; exact hV _ _ (by simp [LV.a8]) h
 | .nil,v,h=>by simp only [LV.bk]; exact hV _ _ (by simp [LV.a8]) h
 | .p7 _,v,h=>by simp only [LV.bk]; exact hV _ _ (by simp [LV.a8]) h
 | .full _ _,v,h=>by simp only [LV.bk]; exact hV _ _ (by simp [LV.a8]) h
 | .str _,v,h=>by simp only [LV.bk]; exact hV _ _ (by simp [LV.a8]) h
 | .it _,v,h=>by simp only [LV.bk]; exact hV _ _ (by simp [LV.a8]) h
 | .k5,v,h=>by simp only [LV.bk]; exact hV _ _ (by simp [LV.a8]) h
 | .fj,v,h=>by simp only [LV.bk]; exact hV _ _ (by simp [LV.a8]) h
 | .al _ _,v,h=>by simp only [LV.bk]; exact hV _ _ (by simp [LV.a8]) h
 | .aJ _ _ _ _,v,h=>by simp only [LV.bk]; exact hV _ _ (by simp [LV.a8]) h
 | .ag _,v,h=>by
  simp only [LV.bk]
  split
  ·rename_i hn; exact hV _ _ (by simpa [LV.a8] using hn) h
  ·simp [av]
 | .fS _ _,v,h=>by
  simp only [LV.bk]
  split
  ·rename_i hn; exact hV _ _ (by simpa [LV.a8] using hn) h
  ·simp [av]
 | .arr i n,v,h=>by
  simp only [LV.bk]
  split
  ·simp [av]
  ·rename_i hi; exact hV _ _ (by simp [LV.a8,hi]) h
 | .ptr i o,v,h=>by
  simp only [LV.bk]
  split
  ·rename_i hi; subst hi; exact hp o v h
  ·rename_i hi; exact hV _ _ (by simp [LV.a8,hi]) h
 | .bE i n j o,v,h=>by
  simp only [LV.bk]
  split
  ·simp [av]
  ·rename_i hi; exact hV _ _ (by simp [LV.a8,hi]) h
 | .mp i,v,h=>by
  simp only [LV.bk]
  split
  ·simp [av]
  ·rename_i hi; exact hV _ _ (by simp [LV.a8,hi]) h
 | .agg l,v,h=>by
  simp only [LV.bk,av] at h ⊢
  obtain ⟨vs,rfl,hl⟩:=h
  exact ⟨vs,rfl,lB hV hp l vs hl⟩
 | .cV l,v,h=>by
  simp only [LV.bk,av] at h ⊢
  obtain ⟨vs,rfl,hl⟩:=h
  exact ⟨vs,rfl,lB hV hp l vs hl⟩
 | .fn f l,v,h=>by
  simp only [LV.bk,av] at h ⊢
  obtain ⟨vs,rfl,hl⟩:=h
  exact ⟨vs,rfl,lB hV hp l vs hl⟩
 | .vQ f l,v,h=>by
  simp only [LV.bk,av] at h ⊢
  obtain ⟨vs,rfl,hl⟩:=h
  exact ⟨vs,rfl,lB hV hp l vs hl⟩
theorem lB {cs:List LV} (hV:∀ x v,x.a8 id=true→av c x v→av c' x v) (hp:∀ o v,av c (.ptr id o) v→av c' (.ag (cs.drop o)) v):∀ (xs:List LV) (vs:List Value),aC c xs vs→aC c' (LV.qT id cs xs) vs
 | [],vs,h=>by simpa only [LV.qT,aC] using h
 | x :: xs,vs,h=>by
  simp only [LV.qT,aC] at h ⊢
  obtain ⟨v,fI,rfl,h1,h2⟩:=h
  exact ⟨v,fI,rfl,xI hV hp x v h1,lB hV hp xs fI h2⟩
end
mutual
theorem xH {k:Nat} {xs:List LV} (hV:∀ x v,x.a8 id=true→av c x v→av c' x v) (hp:∀ v,av c (.arr id xs.length) v→av c' (.al k xs) v):∀ (x:LV) (v:Value),av c x v→av c' (x.eJ id k xs) v
 | .eD,v,h=>by simp [LV.eJ,av]
 | .int _ _,v,h=>by simp only [LV.eJ]; exact hV _ _ (by simp [LV.a8]) h
 | .bool _,v,h=>by simp only [LV.eJ]; exact hV _ _ (by simp [LV.a8]) h
 | .nil,v,h=>by simp only [LV.eJ]; exact hV _ _ (by simp [LV.a8]) h
 | .p7 _,v,h=>by simp only [LV.eJ]; exact hV _ _ (by simp [LV.a8]) h
 | .full _ _,v,h=>by simp only [LV.eJ]; exact hV _ _ (by simp [LV.a8]) h
 | .str _,v,h=>by simp only [LV.eJ]; exact hV _ _ (by simp [LV.a8]) h
 | .it _,v,h=>by simp only [LV.eJ]; exact hV _ _ (by simp [LV.a8]) h
 | .k5,v,h=>by simp only [LV.eJ]; exact hV _ _ (by simp [LV.a8]) h
 | .fj,v,h=>by simp only [LV.eJ]; exact hV _ _ (by simp [LV.a8]) h
 | .al _ _,v,h=>by simp only [LV.eJ]; exact hV _ _ (by simp [LV.a8]) h
 | .aJ _ _ _ _,v,h=>by simp only [LV.eJ]; exact hV _ _ (by simp [LV.a8]) h
 | .ag _,v,h=>by
  simp only [LV.eJ]
  split
  ·rename_i hn; exact hV _ _ (by simpa [LV.a8] using hn) h
  ·simp [av]
 | .fS _ _,v,h=>by
  simp only [LV.eJ]
  split
  ·rename_i hn; exact hV _ _ (by simpa [LV.a8] using hn) h
  ·simp [av]
 | .arr i n,v,h=>by
  simp only [LV.eJ]
  split
  ·rename_i hi
   split
   ·rename_i hn; subst hi; subst hn; exact hp v h
   ·simp [av]
  ·rename_i hi; exact hV _ _ (by simp [LV.a8,hi]) h
 | .ptr i o,v,h=>by
  simp only [LV.eJ]
  split
  ·simp [av]
  ·rename_i hi; exact hV _ _ (by simp [LV.a8,hi]) h
 | .bE i n j o,v,h=>by
  simp only [LV.eJ]
  split
  ·simp [av]
  ·rename_i hi; exact hV _ _ (by simp [LV.a8,hi]) h
 | .mp i,v,h=>by
  simp only [LV.eJ]
  split
  ·simp [av]
  ·rename_i hi; exact hV _ _ (by simp [LV.a8,hi]) h
 | .agg l,v,h=>by
  simp only [LV.eJ,av] at h ⊢
  obtain ⟨vs,rfl,hl⟩:=h
  exact ⟨vs,rfl,j9 hV hp l vs hl⟩
 | .cV l,v,h=>by
  simp only [LV.eJ,av] at h ⊢
  obtain ⟨vs,rfl,hl⟩:=h
  exact ⟨vs,rfl,j9 hV hp l vs hl⟩
 | .fn f l,v,h=>by
  simp only [LV.eJ,av] at h ⊢
  obtain ⟨vs,rfl,hl⟩:=h
  exact ⟨vs,rfl,j9 hV hp l vs hl⟩
 | .vQ f l,v,h=>by
  simp only [LV.eJ,av] at h ⊢
  obtain ⟨vs,rfl,hl⟩:=h
  exact ⟨vs,rfl,j9 hV hp l vs hl⟩
theorem j9 {k:Nat} {xs:List LV} (hV:∀ x v,x.a8 id=true→av c x v→av c' x v) (hp:∀ v,av c (.arr id xs.length) v→av c' (.al k xs) v):∀ (l:List LV) (vs:List Value),aC c l vs→aC c' (LV.ga id k xs l) vs
 | [],vs,h=>by simpa only [LV.ga,aC] using h
 | x :: l,vs,h=>by
  simp only [LV.ga,aC] at h ⊢
  obtain ⟨v,fI,rfl,h1,h2⟩:=h
  exact ⟨v,fI,rfl,xH hV hp x v h1,j9 hV hp l fI h2⟩
end
end Av
mutual
theorem pV {c:Cx} {j:Nat} (hB:c.B j=.none):∀ (x:LV) (v:Value),av c x v→x.a8 j=true
 | .eD,v,h | .int _ _,v,h | .bool _,v,h | .nil,v,h | .p7 _,v,h | .full _ _,v,h | .str _,v,h | .it _,v,h | .k5,v,h | .fj,v,h | .al _ _,v,h | .aJ _ _ _ _,v,h=>by simp [LV.a8]
 | .ag cs,v,h=>by
  simp only [av] at h
  obtain ⟨b,off,vs,_,_,_,hl,_⟩:=h
  simp only [LV.a8]; exact eW hB cs vs hl
 | .fS t cs,v,h=>by
  obtain ⟨vs,hl⟩:∃ vs,aC c cs vs:=by
   cases t
   ·simp only [av] at h; obtain ⟨b,off,vs,_,_,_,hl,_⟩:=h; exact ⟨vs,hl⟩
   ·simp only [av] at h; obtain ⟨b,off,vs,_,_,_,hl,_⟩:=h; exact ⟨vs,hl⟩
  simp only [LV.a8]; exact eW hB cs vs hl
 | .arr i n,v,h=>by
  simp only [av] at h
  obtain ⟨_,u,k,len,ins,h1,_⟩:=h
  by_cases hi:i=j
  ·subst hi; rw [hB] at h1; cases h1
  ·simp [LV.a8,hi]
 | .ptr i o,v,h=>by
  simp only [av] at h
  obtain ⟨b,n,h1,_⟩:=h
  by_cases hi:i=j
  ·subst hi; rw [hB] at h1; cases h1
  ·simp [LV.a8,hi]
 | .bE i n q o,v,h=>by
  simp only [av] at h
  obtain ⟨_,u,k,len,ins,h1,_⟩:=h
  by_cases hi:i=j
  ·subst hi; rw [hB] at h1; cases h1
  ·simp [LV.a8,hi]
 | .mp i,v,h=>by
  simp only [av] at h
  obtain ⟨b,h1,_⟩:=h
  by_cases hi:i=j
  ·subst hi; rw [hB] at h1; cases h1
  ·simp [LV.a8,hi]
 | .agg l,v,h=>by
  simp only [av] at h
  obtain ⟨vs,rfl,hl⟩:=h
  simp only [LV.a8]; exact eW hB l vs hl
 | .cV l,v,h=>by
  simp only [av] at h
  obtain ⟨vs,rfl,hl⟩:=h
  simp only [LV.a8]; exact eW hB l vs hl
 | .fn f l,v,h=>by
  simp only [av] at h
  obtain ⟨vs,rfl,hl⟩:=h
  simp only [LV.a8]; exact eW hB l vs hl
 | .vQ f l,v,h=>by
  simp only [av] at h
  obtain ⟨vs,rfl,hl⟩:=h
  simp only [LV.a8]; exact eW hB l vs hl
theorem eW {c:Cx} {j:Nat} (hB:c.B j=.none):∀ (xs:List LV) (vs:List Value),aC c xs vs→LV.cu j xs=true
 | [],vs,h=>by simp [LV.cu]
 | x :: xs,vs,h=>by
  simp only [aC] at h
  obtain ⟨v,fI,rfl,h1,h2⟩:=h
  simp only [LV.cu,Bool.and_eq_true]
  exact ⟨pV hB x v h1,eW hB xs fI h2⟩
end
theorem wR {c:Cx} {j:Nat} (hB:c.B j=.none) (x:LV) (v:Value) (h:av c x v) (hx:x.a8 j=false):False:=by
 rw [pV hB x v h] at hx; cases hx
theorem b3.del {c:Cx} {m:Mem} (h:b3 c m) (id:Nat) (pH:∀ i le,i ≠ id→m i=some le→le.k6 id=true) :
  ∃ c':Cx,c'.w=c.w∧c'.OQ c∧b3 c' (m.del id)∧(∀ x v,x.a8 id=true→av c x v→av c' x v)∧(∀ b,c'.own b→c.own b)∧(∀ b be,c.B id=some be→be.has b→¬ c'.X b)∧∀ i,i ≠ id→c'.B i=c.B i:=by
 obtain ⟨c',hw,hO,iO,hV,bj,N7,hB⟩:=h.sub (m.del id) (fun i=>by unfold Mem.del; split <;> simp) (fun i le hi j hj=>by
  unfold Mem.del at hi ⊢
  split at hi
  ·cases hi
  ·rename_i eA
   have Fa:j ≠ id:=fun he=>by subst he; rw [pH i le eA hi] at hj; cases hj
   simp only [Fa,if_false]
   intro h0
   have he:=h.gE i
   rw [hi] at he
   have B0:=h.fresh h0
   cases le with
   | box cs =>
    simp only [bw] at he
    obtain ⟨b,us,e,_,_,hl,_⟩:=he
    obtain ⟨x,hx,Wz⟩:∃ x ∈ cs,x.a8 j=false:=by
     have hn:LV.cu j cs=false:=hj
     rw [← Bool.not_eq_true,tm] at hn
     simp only [Classical.not_forall] at hn
     obtain ⟨x,hx,Wy⟩:=hn
     exact ⟨x,hx,by simpa using Wy⟩
    obtain ⟨q,hq⟩:=List.mem_iff_getElem?.1 hx
    obtain ⟨v,_,hv⟩:=hl.get hq
    exact wR B0 x v hv Wz
   | c6 _ _ _ _ _ _ id2 n2 =>
    simp only [bw] at he
    obtain ⟨_,_,_,_,_,_,_,⟨_,v,_,_,q3⟩,_⟩:=he
    exact wR B0 _ v q3 hj
   | _=>simp [LE.k6] at hj)
 refine ⟨c',hw,hO,iO,fun x v hx hv=>hV x v (fun j hj=>?_) hv,bj,fun b be hb qU=>?_,fun i hi=>?_⟩
 ·have Fa:j ≠ id:=fun he=>by subst he; rw [hx] at hj; cases hj
  unfold Mem.del
  simp only [Fa,if_false]
  intro h0
  exact wR (h.fresh h0) x v hv hj
 ·rintro ((Uv | Uw) | rB)
  ·rw [hO.1] at Uv; exact h.jZ b ⟨id,be,hb,qU⟩ Uv
  ·rw [hO.2] at Uw; exact (h.cS b Uw).2.1 ⟨id,be,hb,qU⟩
  ·refine N7 b ⟨id,be,hb,qU⟩ (fun i eF hi HV HU=>?_) rB
   have:=h.inj i id eF be b HV hb HU qU
   subst this
   unfold Mem.del at hi
   simp at hi
 ·by_cases h0:m.del id i=.none
  ·have h1:=iO.fresh h0
   have h2:m i=.none:=by unfold Mem.del at h0; simpa [hi] using h0
   rw [h1,h.fresh h2]
  ·exact hB i h0
def sL (id:Nat) (ml:List (Nat × LE)):Bool:=ml.all fun q=>q.1 == id || match q.2 with | .box cs=>LV.cu id cs | .arr _ _ _=>true | .map _ _ _=>true | .nest _ _ _ _=>true | .c6 _ _ _ _ _ _ id2 _=>id2 != id | .dead=>true
theorem Mem.A4 (ml:List (Nat × LE)) (id:Nat):(Mem.of ml).del id=Mem.of (ml.filter fun q=>q.1 != id):=by
 funext i
 unfold Mem.del
 induction ml with
 | nil=>simp [Mem.of]
 | cons p ml ih =>
  obtain ⟨d,v⟩:=p
  by_cases hd:d=id
  ·subst hd
   simp only [List.filter_cons,bne_self_eq_false,Bool.false_eq_true,if_false,← ih,Mem.of]
   split
   ·rfl
   ·rename_i hi; simp [hi]
  ·have:(d != id)=true:=by simpa using hd
   simp only [List.filter_cons,this,if_true,Mem.of]
   by_cases hi:i=id
   ·subst hi
    simp only [if_true] at ih ⊢
    rw [if_neg (fun h=>hd h.symm)]; exact ih
   ·simp only [hi,if_false] at ih ⊢
    split
    ·rfl
    ·exact ih
theorem Env.of_map (el:List (Nat × LV)) (f:LV→LV) (hf:f .eD=.eD):(fun i=>f (Env.of el i))=Env.of (el.map fun p=>(p.1,f p.2)):=by
 funext i
 induction el with
 | nil=>simpa [Env.of] using hf
 | cons p el ih =>
  obtain ⟨d,v⟩:=p
  simp only [Env.of,List.map_cons]
  split
  ·rfl
  ·exact ih
theorem mP {id:Nat} {ml:List (Nat × LE)} (h:sL id ml=true):∀ i le,i ≠ id→Mem.of ml i=some le→le.k6 id=true:=by
 intro i le hi hm
 have:=List.all_eq_true.1 h _ (fq hm)
 cases le with
 | box cs=>simpa [hi,LE.k6] using this
 | c6 _ _ _ _ _ _ _ _=>simpa [hi,LE.k6] using this
 | _=>rfl
theorem Wk.bk {pr:Nat→Prop} {el:List (Nat × LV)} {ml:List (Nat × LE)} (id:Nat) (cs:List LV) (bB:Mem.of ml id=some (.box cs)) (hp:LV.bo cs=true) (kp:sL id ml=true) (mE:¬ pr id) :
  Wk pr (Env.of el) (Mem.of ml) (Env.of (el.map fun p=>(p.1,p.2.bk id cs))) (Mem.of (ml.filter fun q=>q.1 != id)):=by
 intro N c a bY
 rw [← Env.of_map el (LV.bk id cs) (by simp [LV.bk]),← Mem.A4]
 obtain ⟨c',hw,hO,iO,hV,bj,hX,hB⟩:=bY.mem.del id (mP kp)
 obtain ⟨b,vs,e,zU,hh,hl,h1⟩:=jj bY.mem bB
 refine ⟨c',hw,⟨fun i=>xI hV ?_ _ _ (bY.env i),iO,bY.size,bY.defers⟩,?_⟩
 ·intro o v hv
  simp only [av] at hv ⊢
  obtain ⟨b',n,iF,rfl⟩:=hv
  rw [zU] at iF
  cases iF
  have gi:=fu (nd hh) o
  simp only [Nat.zero_add] at gi
  refine ⟨b,o,vs.drop o,rfl,by rw [hw]; exact (Array.getElem?_eq_some_iff.1 hh).1,hX b _ zU rfl,?_,fun y hy=>h1 y (List.mem_of_mem_drop hy),by rw [hw]; exact gi⟩
  have hle:c.Le c':=Cx.sub_le hw hO bj
  exact (aC.mono hle cs vs (fun j hj=>by rw [az cs hp] at hj; cases hj) hl).drop o
 ·refine Cx.ni hw hO bj (fun i be AO hb=>?_)
  exact ⟨be,by rw [hB i (fun h=>mE (h ▸ AO))]; exact hb,.refl be⟩
theorem Wk.eJ {pr:Nat→Prop} {el:List (Nat × LV)} {ml:List (Nat × LE)} (id e k:Nat) (xs:List LV) (bB:Mem.of ml id=some (.arr e k xs)) (kp:sL id ml=true) (mE:¬ pr id) :
  Wk pr (Env.of el) (Mem.of ml) (Env.of (el.map fun p=>(p.1,p.2.eJ id k xs))) (Mem.of (ml.filter fun q=>q.1 != id)):=by
 intro N c a bY
 rw [← Env.of_map el (LV.eJ id k xs) (by simp [LV.eJ]),← Mem.A4]
 obtain ⟨c',hw,hO,iO,hV,bj,hX,hB⟩:=bY.mem.del id (mP kp)
 refine ⟨c',hw,⟨fun i=>xH hV ?_ _ _ (bY.env i),iO,bY.size,bY.defers⟩,?_⟩
 ·intro v hv
  obtain ⟨vs,zU,hk,iz,hl,hc,hp⟩:=gv bY.mem hv bB rfl
  simp only [av]
  have hle:c.Le c':=Cx.sub_le hw hO bj
  have iN:=aC.mono hle xs vs (fun j hj=>by rw [az xs hp] at hj; cases hj) hl
  rcases iz.2 with ⟨rfl,h0⟩ | ⟨g,cap,cur,rfl,_,hg,kq,_⟩
  ·exact ⟨.none,0,by rw [h0],by omega,fun _=>rfl,hp,.inl (List.eq_nil_of_length_eq_zero h0)⟩
  ·refine ⟨some ⟨g,0,.none⟩,cap,rfl,kq,by simp,hp,.inr ⟨g,0,vs,rfl,by rw [hw]; exact (Array.getElem?_eq_some_iff.1 hg).1,hX g _ zU (.inl rfl),iN,hc,?_⟩⟩
   rw [hw]; exact cY iz rfl
 ·refine Cx.ni hw hO bj (fun i be AO hb=>?_)
  exact ⟨be,by rw [hB i (fun h=>mE (h ▸ AO))]; exact hb,.refl be⟩
theorem Wk.own {pr:Nat→Prop} {el fB:List (Nat × LV)} {ml:List (Nat × LE)} (id e k:Nat) (bB:Mem.of ml id=.none) (hk:0<k)
  (qc:fB.length=el.length) (hh:∀ i:Nat,∀ p q,el[i]?=some p→fB[i]?=some q→q.1=p.1∧(q.2=p.2 ∨ (p.2=.nil∧q.2=.arr id 0))) :
  Wk pr (Env.of el) (Mem.of ml) (Env.of fB) (Mem.of ((id,.arr e k []) :: ml)):=by
 intro N c a bY
 have hB:=bY.mem.fresh bB
 obtain ⟨c',hw,hb,h2,h3⟩:=bY.mem.Ac (pr:=pr) id (.arr e k []) (.arr (.slice .none 0 0) k 0 []) c.w rfl rfl rfl (Nat.le_refl _) (Nat.le_refl _)
  (fun b _ _=>rfl) (fun b hb=>by simp [BE.has,Value.ownBlock] at hb) (by rw [hB]; trivial) (fun _ dr h0=>by rw [hB] at h0; cases h0)
  (fun c' hw hle dz=>by
   simp only [bw]
   exact ⟨.slice .none 0 0,[],rfl,hk,by rw [hw]; exact World.ownsRow_nil c.w 0 e k,by simp [aC],by simp,by simp [LV.bo]⟩)
 refine ⟨c',hw,⟨fun i=>?_,?_,bY.size,bY.defers⟩,h3.grow⟩
 ·have key:∀ (el fB:List (Nat × LV)),fB.length=el.length→(∀ i:Nat,∀ p q,el[i]?=some p→fB[i]?=some q→q.1=p.1∧(q.2=p.2 ∨ (p.2=.nil∧q.2=.arr id 0)))→Env.of fB i=Env.of el i ∨ (Env.of el i=.nil∧Env.of fB i=.arr id 0):=by
   intro el
   induction el with
   | nil=>intro fB hl _; have:fB=[]:=List.eq_nil_of_length_eq_zero (by simpa using hl); subst this; exact .inl rfl
   | cons p el ih =>
    intro fB hl hh
    cases fB with
    | nil=>simp at hl
    | cons q fB =>
     obtain ⟨h1,h2⟩:=hh 0 p q (by simp) (by simp)
     obtain ⟨d,v⟩:=p
     obtain ⟨d',v'⟩:=q
     simp only at h1 h2
     subst h1
     simp only [Env.of]
     split
     ·exact h2
     ·exact ih fB (by simpa using hl) (fun i p q hp hq=>hh (i+1) p q (by simpa using hp) (by simpa using hq))
  rcases key el fB qc hh with he | ⟨he,AE⟩
  ·rw [he]; exact h3.wS (bY.env i)
  ·rw [AE]
   have:=bY.env i
   rw [he] at this
   simp only [av] at this ⊢
   exact ⟨by rw [this]; rfl,_,_,_,_,hb,Nat.le_refl _,fun _=>this⟩
 ·have:(Mem.of ml).put id (.arr e k [])=Mem.of ((id,.arr e k []) :: ml):=rfl
  rw [← this]; exact h2
def Env.args (l:List LV):Env:=fun i=>l.getD i .eD
def ju (P:Program) (e:Env) (m:Mem):List ResultVar→(List LV→Prop)→Prop
 | [],K=>K []
 | .tmp t :: r,K=>ju P e m r fun l=>K (e t :: l)
 | .cell a t :: r,K=>match e a with
  | .ptr id o=>match m id with
   | some (.box cs)=>o≤cs.length∧loadC P t (cs.drop o) fun lv=>ju P e m r fun l=>K (lv :: l)
   | _=>False
  | .ag cs=>loadC P t cs fun lv=>ju P e m r fun l=>K (lv :: l)
  | _=>False
def tU (tmps:Array Value):ResultVar→Sem Value
 | .tmp t=>pure (tmps.getD t undef)
 | .cell x t=>do loadVar t (← asAddr (tmps.getD x undef))
def oneOf:List LV→LV
 | [x]=>x
 | l=>.cV l
theorem oX {P:Program} {e:Env} {m:Mem}:∀ (rs:List ResultVar) (K:List LV→Prop),ju P e m rs K →
  ∃ l,K l∧∀ (N:Nat) (c:Cx) (a:Act),mw N c e m a→∃ vs,(rs.mapM (tU a.tmps)).run P c.w=.ok vs c.w∧aC c l vs
 | [],K,h=>⟨[],h,fun N c a hr=>⟨[],by simp,by simp [aC]⟩⟩
 | .tmp t :: r,K,h=>by
  simp only [ju] at h
  obtain ⟨l,hK,hl⟩:=oX r _ h
  refine ⟨_,hK,fun N c a hr=>?_⟩
  obtain ⟨vs,h1,h2⟩:=hl N c a hr
  refine ⟨a.tmps.getD t undef :: vs,by simp only [List.mapM_cons,Sem.run_bind,tU,Sem.run_pure,Result.andThen_ok,h1],?_⟩
  simp only [aC]
  exact ⟨_,_,rfl,hr.env t,h2⟩
 | .cell x t :: r,K,h=>by
  simp only [ju] at h
  have fin:∀ (cs:List LV),loadC P t cs (fun lv=>ju P e m r fun l=>K (lv :: l))→(∀ (N:Nat) (c:Cx) (a:Act),mw N c e m a→∃ b off vs,a.tmps.getD x undef=.pointer (some ⟨b,off,.none⟩)∧aC c cs vs∧c.w.rangeAt b off vs)→∃ l,K l∧∀ (N:Nat) (c:Cx) (a:Act),mw N c e m a→∃ vs,((ResultVar.cell x t :: r).mapM (tU a.tmps)).run P c.w=.ok vs c.w∧aC c l vs:=by
   intro cs h Sk
   obtain ⟨lv,hK,hv⟩:=hY h
   obtain ⟨l,wg,hl⟩:=oX r _ hK
   refine ⟨_,wg,fun N c a hr=>?_⟩
   obtain ⟨b,off,us,he,wv,gi⟩:=Sk N c a hr
   obtain ⟨v,jY,xl⟩:=hv c b off us wv gi
   obtain ⟨vs,h1,h2⟩:=hl N c a hr
   have N6:(loadVar t ⟨b,off,.none⟩).run P c.w=.ok v c.w:=by
    simpa [Instr.loadAt,Instr.sureAddr] using jY
   refine ⟨v :: vs,?_,by simp only [aC]; exact ⟨_,_,rfl,xl,h2⟩⟩
   simp only [List.mapM_cons,tU,Sem.run_bind,he,asAddr,Sem.run_pure,Result.andThen_ok,N6,h1]
  cases hx:e x <;> simp only [hx] at h
  case ag cs =>
   refine fin cs h fun N c a hr=>?_
   have:=hr.env x
   rw [hx] at this
   simp only [av] at this
   obtain ⟨b,off,vs,he,_,_,hl,_,gi⟩:=this
   exact ⟨b,off,vs,he,hl,gi⟩
  case ptr id o =>
   cases hm:m id with
   | none=>simp [hm] at h
   | some le =>
    cases le with
    | map _ _ _=>simp [hm] at h
    | nest _ _ _ _=>simp [hm] at h
    | c6 _ _ _ _ _ _ _ _=>simp [hm] at h
    | dead=>simp [hm] at h
    | arr _ _ _=>simp [hm] at h
    | box cs =>
     simp only [hm] at h
     refine fin (cs.drop o) h.2 fun N c a hr=>?_
     obtain ⟨b,vs,q,hB,hh,hl,h1⟩:=jj hr.mem hm
     have:=hr.env x
     rw [hx] at this
     simp only [av] at this
     obtain ⟨b',n,iF,he⟩:=this
     rw [hB] at iF
     cases iF
     have gi:=fu (nd hh) o
     simp only [Nat.zero_add] at gi
     exact ⟨b,o,_,he,hl.drop o,gi⟩
def Ms (P:Program) (fn:Func) (pr:Nat→Prop) (R:LV→Mem→Prop):Exit→Env→Mem→Prop
 | .ret,e,m=>ju P e m fn.results.toList fun l=>∃ ml,(∀ p ∈ ml,m p.1=some p.2)∧aV [(0,oneOf l)] ml=true∧(∀ id,pr id→m id=.none ∨ Mem.of ml id ≠ .none)∧R (oneOf l) (Mem.of ml)
 | .normal,e,m=>ju P e m fn.results.toList fun l=>∃ ml,(∀ p ∈ ml,m p.1=some p.2)∧aV [(0,oneOf l)] ml=true∧(∀ id,pr id→m id=.none ∨ Mem.of ml id ≠ .none)∧R (oneOf l) (Mem.of ml)
 | _,_,_=>False
theorem aO.Ip {P:Program} {f:Nat} {fn:Func} {code:Code} {args:List LV} {m:Mem} {R:LV→Mem→Prop} (hf:P.funcs[f]?=some fn) (hb:fn.body=some code) (hn:args.length≤fn.ntmps)
  (h:LH P fn.ntmps (fun id=>m id ≠ .none) code (Ms P fn (fun id=>m id ≠ .none) R) (Env.args args) m):∃ lv m',aO P f args m lv m'∧R lv m':=by
 obtain ⟨ex,e',m1,hx,hq⟩:=h
 have main:(ju P e' m1 fn.results.toList fun l=>∃ ml,(∀ p ∈ ml,m1 p.1=some p.2)∧aV [(0,oneOf l)] ml=true∧(∀ id,m id ≠ .none→m1 id=.none ∨ Mem.of ml id ≠ .none)∧R (oneOf l) (Mem.of ml))→(ex=.ret ∨ ex=.normal)→∃ lv m',aO P f args m lv m'∧R lv m':=by
  intro Lu hex
  obtain ⟨l,⟨ml,h1,h2,h3,hR⟩,hl⟩:=oX _ _ Lu
  refine ⟨oneOf l,Mem.of ml,fun c vs hm ha=>?_,hR⟩
  refine calls_of_wp hf hb ?_
  have hlen:=ha.length
  have bY:mw fn.ntmps c (Env.args args) m { tmps:=vs.toArray++Array.replicate (fn.ntmps - vs.toArray.size) undef,defers:=[] }:=by
   refine ⟨fun i=>?_,hm,by simp; omega,rfl⟩
   simp only [Env.args,List.getD_eq_getElem?_getD]
   cases hi:args[i]? with
   | none=>simp [av]
   | some x =>
    obtain ⟨v,hv,hr⟩:=ha.get hi
    have xS:i<vs.length:=(List.getElem?_eq_some_iff.1 hv).1
    have:(vs.toArray++Array.replicate (fn.ntmps - vs.toArray.size) undef).getD i undef=v:=by
     rw [Array.getD_eq_getD_getElem?,Array.getElem?_append_left (by simpa using xS)]
     simp [hv]
    rw [this]; exact hr
  refine wp_mono (hx c _ bY) ?_
  rintro x a' w' ⟨rfl,c1,rfl,ei,zY⟩
  obtain ⟨us,FD,wv⟩:=hl _ c1 a' ei
  have La:(results fn a'.tmps).run P c1.w=.ok (if h:us.toArray.size=1 then us.toArray[0] else .tuple us.toArray) c1.w:=by
   have e1:results fn a'.tmps=(do let vs ← fn.results.mapM (tU a'.tmps); pure (if h:vs.size=1 then vs[0] else .tuple vs)):=by
    unfold results
    congr 2
   rw [e1,Array.mapM_eq_mapM_toList]
   simp only [Sem.run_bind,Sem.run_map,FD,Result.andThen_ok,Sem.run_pure]
  have Wn:av c1 (oneOf l) (if h:us.toArray.size=1 then us.toArray[0] else .tuple us.toArray):=by
   have N3:=wv.length
   match l,us,wv with
   | [],us,wv=>simp only [aC] at wv; subst wv; simp [oneOf,av,aC]
   | [x],us,wv =>
    simp only [aC] at wv
    obtain ⟨v,fI,rfl,hv,rfl⟩:=wv
    simpa [oneOf] using hv
   | x :: y :: l,us,wv =>
    have eH:¬ us.toArray.size=1:=by have:=wv.length; simp at this ⊢; omega
    rw [dif_neg eH]
    simp only [oneOf,av]
    exact ⟨us,rfl,wv⟩
  obtain ⟨c2,qV,⟨NM,jq,_,_⟩,pL⟩:=Wk.cut (pr:=fun id=>m id ≠ .none) (e:=Env.of [(0,oneOf l)]) (m:=m1) [(0,oneOf l)] ml (by simp [Env.of]) h1 h2 (fun id hp=>h3 id hp) 1 c1 { tmps:=#[if h:us.toArray.size=1 then us.toArray[0] else .tuple us.toArray],defers:=[] }
   ⟨fun i=>by
    by_cases hi:i=0
    ·subst hi; simpa [Env.of] using Wn
    ·simp [Env.of,hi,av],ei.mem,rfl,rfl⟩
  have xl:=NM 0
  simp only [Env.of,if_true] at xl
  have Ji:a'.defers=[]∧∃ v,(results fn a'.tmps).run P c1.w=.ok v c1.w∧∃ v' c',Ending.returned v=.returned v'∧c'.w=c1.w∧b3 c' (Mem.of ml)∧av c' (oneOf l) v'∧Grow (fun id=>m id ≠ .none) c c' :=
   ⟨ei.defers,_,La,_,c2,rfl,qV,jq,by simpa using xl,zY.trans pL⟩
  rcases hex with rfl | rfl
  ·exact Ji
  ·exact Ji
 cases ex with
 | ret=>exact main hq (.inl rfl)
 | normal=>exact main hq (.inr rfl)
 | _=>exact hq.elim
def sr (P:Program) (f:Nat) (args:List LV) (lv:LV):Prop:=aO P f args Mem.none lv Mem.none
theorem Mem.ve (m:Mem):m.over Mem.none=m:=by funext i; rfl
theorem zi {c:Cx} {i j:Nat} {le:LE} (hp:(match le with | .box cs=>LV.bo cs | .arr _ _ _=>true | .map _ _ _=>true | .nest _ _ _ _=>true | .c6 _ _ _ _ _ _ _ _=>false | .dead=>true)=true) (hm:b3 c (Mem.of [(i,le)])) :
  ∃ c':Cx,c'.w=c.w∧c'.OQ c∧b3 c' (Mem.of [(j,le)])∧c'.B j=c.B i∧(∀ b,c'.own b→c.own b):=by
 let c':Cx:=⟨c.w,fun k=>if k=j then c.B i else .none,c.O,c.Q⟩
 have bj:∀ b,c'.own b→c.own b:=by
  rintro b ⟨k,be,h1,h2⟩
  simp only [c'] at h1
  split at h1
  ·exact ⟨i,be,h1,h2⟩
  ·cases h1
 have hle:c.Le c':=Cx.sub_le rfl ⟨rfl,rfl⟩ bj
 refine ⟨c',rfl,⟨rfl,rfl⟩,⟨fun k=>?_,?_,fun b ho=>hm.jZ b (bj b ho),hm.pw,hm.nq rfl ⟨rfl,rfl⟩ bj⟩,by simp [c'],bj⟩
 ·by_cases hk:k=j
  ·subst hk
   have he:=hm.gE i
   have hb:c'.B k=c.B i:=by simp [c']
   rw [hb]
   simp only [Mem.of,if_true] at he ⊢
   cases le with
   | box cs =>
    simp only [bw] at he ⊢
    obtain ⟨b,us,e,h1,h2,h3,h4⟩:=he
    exact ⟨b,us,e,h1,h2,aC.mono hle cs us (fun q hq=>by rw [az cs hp] at hq; cases hq) h3,h4⟩
   | arr e k' xs =>
    simp only [bw] at he ⊢
    obtain ⟨u,us,h1,h0,h2,h3,h4,h5⟩:=he
    exact ⟨u,us,h1,h0,h2,aC.mono hle xs us (fun q hq=>by rw [az xs h5] at hq; cases hq) h3,h4,h5⟩
   | nest e k' os xs =>
    simp only [bw] at he ⊢
    obtain ⟨u,us,bs,h1,h0,h2,h3,h4⟩:=he
    exact ⟨u,us,bs,h1,h0,h2,h3.mono hle (fun b _=>rfl),h4⟩
   | c6 _ _ _ _ _ _ _ _=>cases hp
   | dead=>simpa only [bw] using he
   | map kt vt es =>
    simp only [bw] at he ⊢
    obtain ⟨b,jF,ck,h1,h2,h3,h4,h5,h6,h7⟩:=he
    exact ⟨b,jF,ck,h1,h2,aC.mono hle _ _ (fun j hj=>by rw [az _ h5] at hj; cases hj) h3,aC.mono hle _ _ (fun j hj=>by rw [az _ h6] at hj; cases hj) h4,h5,h6,h7⟩
  ·simp [Mem.of,hk,bw,c']
 ·intro k k' be eF b h1 h2 h3 h4
  simp only [c'] at h1 h2
  split at h1
  ·rename_i hk
   split at h2
   ·rename_i Eg; rw [hk,Eg]
   ·cases h2
  ·cases h1
theorem aO.DU {P:Program} {f:Nat} {args:List LV} {i o:Nat} {le:LE} (j:Nat) (hp:(match le with | .box cs=>LV.bo cs | .arr _ _ _=>true | .map _ _ _=>true | .nest _ _ _ _=>true | .c6 _ _ _ _ _ _ _ _=>false | .dead=>true)=true) (h:aO P f args Mem.none (.ptr i o) (Mem.of [(i,le)])):aO P f args Mem.none (.ptr j o) (Mem.of [(j,le)]):=by
 intro c vs hm ha
 refine (h c vs hm ha).mono ?_
 rintro en w' ⟨v,c1,rfl,rfl,iH,jY,hg⟩
 obtain ⟨c2,hw,hO,jq,hB,bj⟩:=zi (j:=j) hp iH
 refine ⟨v,c2,rfl,hw,jq,?_,hg.sub hw hO bj (fun id be hp=>absurd rfl hp)⟩
 simp only [av] at jY ⊢
 rw [hB]; exact jY
theorem sr.Nk {P:Program} {f:Nat} {args:List LV} {lv:LV} (h:sr P f args lv) (hp:LV.bo args=true) (m:Mem) {K:LV→Mem→Prop} (hK:K lv m):BI P f args m K:=by
 refine ⟨lv,Mem.none,Mem.none,h,fun id bB=>absurd rfl bB,fun id _ bB=>absurd rfl bB,fun id bB=>?_,rfl,(fun id cs bB=>by cases bB),by rw [Mem.ve]; exact hK⟩
 rw [az args hp] at bB; cases bB
theorem sr.calls {P:Program} {f:Nat} {args:List LV} {lv:LV} (h:sr P f args lv) (w:World) (vs:List Value) (ha:aC ⟨w,fun _=>.none,fun _=>False,fun _=>.none⟩ args vs) :
  Calls P f vs.toArray w fun en w'=>(∃ v c',en=.returned v∧c'.w=w'∧av c' lv v)∧RowKit.Below w.heap.size w w':=by
 have hm:b3 ⟨w,fun _=>.none,fun _=>False,fun _=>.none⟩ Mem.none :=
  ⟨fun id=>rfl,fun i i' be eF b h1=>by simp at h1,fun b ho=>fun h=>h,fun b h=>h.elim,fun b h=>absurd rfl h⟩
 refine (h _ vs hm ha).mono ?_
 rintro en w' ⟨v,c',he,rfl,_,hv,hg⟩
 refine ⟨⟨v,c',he,rfl,hv⟩,hg.os,hg.tape,hg.output,hg.size,fun b hb=>hg.jI b hb ?_ (.inl rfl)⟩
 rintro ⟨id,be,h1,_⟩
 simp at h1
end Go.L
namespace Go.L
section
variable {P:Program} {N:Nat} {pr:Nat→Prop} {ro:List Nat} {ops:Array Oper} {e:Env} {m:Mem} {ev:Operand→LV} {d:Option Nat} {ty:TypeId} {pos:String} {af:Array Edge} {g:Option (Nat × Bool)}
theorem oB (op:Op) (j:Nat) (want:Bool) (K:Env→Mem→Prop):BJ P pr ro ops ⟨d,op,ty,pos,af,some (j,want)⟩ K e m=match (ops[j]?).bind (·.dst) with
  | some q=>match e q with
   | .bool t=>if t=want then LOp P pr ro ⟨d,op,ty,pos,af,some (j,want)⟩ (da e) m fun lv m'=>K (e.fM d lv) m' else K (e.fM d (.cV [])) m
   | .cV []=>K (e.fM d (.cV [])) m
   | _=>False
  | .none=>False:=rfl
section ops
variable {K:LV→Mem→Prop}
@[go_sem] theorem LOp_move (x:Operand):LOp P pr ro ⟨d,.move x,ty,pos,af,g⟩ ev m K=K (ev x) m:=rfl
@[go_sem] theorem LOp_assign (x:Operand):LOp P pr ro ⟨d,.assign x,ty,pos,af,g⟩ ev m K=K (ev x) m:=rfl
@[go_sem] theorem LOp_pick (c a b:Operand):LOp P pr ro ⟨d,.pick c a b,ty,pos,af,g⟩ ev m K=match ev c with | .bool t=>K (if t then ev a else ev b) m | _=>False:=rfl
@[go_sem] theorem LOp_alloc (t:TypeId) (i:Nat):LOp P pr ro ⟨some i,.alloc t,ty,pos,af,g⟩ ev m K=match tzero P t with
  | some z=>m (100+i)=.none∧K (.ptr (100+i) 0) (m.put (100+i) (.box z.cells))
  | .none=>False:=by
 simp only [LOp]; cases tzero P t <;> rfl
@[go_sem] theorem LOp_box (t:TypeId) (x:Operand) (i:Nat):LOp P pr ro ⟨some i,.box t x,ty,pos,af,g⟩ ev m K=((ev x).cells.all LV.scalar=true ∧
      if ro.contains i=true then K (.ag (ev x).cells) m
      else m (100+i)=.none∧K (.ptr (100+i) 0) (m.put (100+i) (.box (ev x).cells))):=rfl
@[go_sem] theorem LOp_build (t:TypeId) (l:List (Nat × Operand)):LOp P pr ro ⟨d,.build t l.toArray,ty,pos,af,g⟩ ev m K=(tbuild P t=true∧match tzero P t with
  | some (.agg z)=>match mr P t z (l.map fun p=>(p.1,ev p.2)) with
   | some cs=>K (.agg cs) m
   | .none=>False
  | _=>False):=rfl
@[go_sem] theorem LOp_buildSlice (t:TypeId) (len:Nat) (l:List (Nat × Operand)):LOp P pr ro ⟨d,.buildSlice t len l.toArray,ty,pos,af,g⟩ ev m K=match telem P t with
  | some e=>gz P e=true∧len * tsize P e≤16777216∧l.map (·.1)=List.range len∧qX (tsize P e) (l.map fun p=>ev p.2)∧K (.al (tsize P e) (l.map fun p=>ev p.2)) m
  | .none=>False:=rfl
@[go_sem] theorem LOp_load (t:TypeId) (a:Operand):LOp P pr ro ⟨d,.load t a,ty,pos,af,g⟩ ev m K=match ev a with
  | .ag cs=>loadC P t cs fun lv=>K lv m
  | .ptr id o=>match m id with
   | some (.box cs)=>o≤cs.length∧loadC P t (cs.drop o) fun lv=>K lv m
   | _=>False
  | .bE id n i o=>match m id with
   | some (.arr _ _ xs)=>n=xs.length∧∃ x,xs[i]?=some x∧x.cells.all LV.scalar=true∧o≤x.cells.length∧loadC P t (x.cells.drop o) fun lv=>K lv m
   | _=>False
  | _=>False:=rfl
@[go_sem] theorem LOp_store (t:TypeId) (a x:Operand):LOp P pr ro ⟨d,.store t a x,ty,pos,af,g⟩ ev m K=((ev x).cells.all LV.scalar=true∧tok P t=true∧tsize P t=(ev x).cells.length∧match ev a with
  | .ptr id o=>match m id with
   | some (.box cs)=>o+(ev x).cells.length≤cs.length∧K .eD (m.put id (.box (rep cs o (ev x).cells)))
   | _=>False
  | .bE id n i o=>match m id with
   | some (.arr e k xs)=>n=xs.length∧LV.bo (ev x).cells=true∧∃ y z,xs[i]?=some y∧zl y o (ev x)=some z∧K .eD (m.put id (.arr e k (xs.set i z)))
   | _=>False
  | _=>False):=rfl
@[go_sem] theorem LOp_nilCheck (x:Operand):LOp P pr ro ⟨d,.nilCheck x,ty,pos,af,g⟩ ev m K=match ev x with
  | .ptr _ _=>K (ev x) m
  | .ag _=>K (ev x) m
  | .bE id n _ _=>(match m id with | some (.arr _ _ xs)=>n=xs.length | _=>False)∧K (ev x) m
  | .fn _ _=>K (ev x) m
  | _=>False:=rfl
@[go_sem] theorem LOp_binOp (op:BinOp) (t t':TypeId) (x y:Operand):LOp P pr ro ⟨d,.binOp op t x y t',ty,pos,af,g⟩ ev m K=match ev x,ev y with
  | .int k a,.int k' b=>k=k'∧oV op k a b fun lv=>K lv m
  | .bool a,.bool b=>vK P t=true∧(match op with | .eql=>K (.bool (a == b)) m | .neq=>K (.bool (!(a == b))) m | _=>False)
  | .agg xs,.agg ys=>∃ b,oh P t xs ys b∧(match op with | .eql=>K (.bool b) m | .neq=>K (.bool (!b)) m | _=>False)
  | _,_=>False:=rfl
@[go_sem] theorem LOp_not (t:TypeId) (x:Operand):LOp P pr ro ⟨d,.unOp .not t x,ty,pos,af,g⟩ ev m K=match ev x with
  | .bool b=>K (.bool (!b)) m
  | _=>False:=by
 simp only [LOp]; cases ev x <;> rfl
@[go_sem] theorem LOp_convert (s t:TypeId) (x:Operand):LOp P pr ro ⟨d,.convert s t x,ty,pos,af,g⟩ ev m K=(tok P s=true∧match tint P t,ev x with
  | some k,.int _ n=>K (.int k (k.wrap n)) m
  | _,_=>False):=rfl
@[go_sem] theorem LOp_slice (t:TypeId) (x:Operand) (lo hi mx:Option Operand):LOp P pr ro ⟨d,.slice t x lo hi mx,ty,pos,af,g⟩ ev m K=((telem P t).isSome=true∧tok P ((telem P t).getD 0)=true∧mx=.none∧match ev x with
  | .al k xs=>some k=(telem P t).map (tsize P)∧∃ l h:Nat,(match lo with | .none=>l=0 | some y=>ev y=.int .i64 l)∧(match hi with | .none=>h=xs.length | some y=>ev y=.int .i64 h) ∧
    l≤h∧h≤xs.length∧K (.al k ((xs.take h).drop l)) m
  | .nil=>(match lo with | .none=>True | some y=>ev y=.int .i64 0)∧(match hi with | .none=>True | some y=>ev y=.int .i64 0)∧K .nil m
  | _=>False):=rfl
@[go_sem] theorem LOp_fieldAddr (t:TypeId) (x:Operand) (f:Nat):LOp P pr ro ⟨d,.fieldAddr t x f,ty,pos,af,g⟩ ev m K=match tfield P t f with
  | some (off,ft)=>tok P ft=true∧tsize P ft ≠ 0∧match ev x with
   | .ag cs=>off≤cs.length∧K (.ag (cs.drop off)) m
   | .ptr id o=>K (.ptr id (o+off)) m
   | .bE id n i o=>(match m id with | some (.arr _ _ xs)=>n=xs.length | _=>False)∧K (.bE id n i (o+off)) m
   | _=>False
  | .none=>False:=rfl
@[go_sem] theorem LOp_indexAddr (t:TypeId) (x i:Operand):LOp P pr ro ⟨d,.indexAddr t x i,ty,pos,af,g⟩ ev m K=match telem P t,ev x,ev i with
  | some e,.al k xs,.int _ n=>tok P e=true∧k=tsize P e∧0≤n∧∃ y,xs[n.toNat]?=some y∧y.cells.all LV.scalar=true∧K (.ag y.cells) m
  | some e,.arr id l,.int _ n=>match m id with
   | some (.arr _ k xs)=>tok P e=true∧l=xs.length∧k=tsize P e∧0≤n∧n<l∧K (.bE id l n.toNat 0) m
   | _=>False
  | _,_,_=>False:=rfl
@[go_sem] theorem LOp_extract (t:Operand) (i:Nat):LOp P pr ro ⟨d,.extract t i,ty,pos,af,g⟩ ev m K=match ev t with
  | .cV vs=>∃ v,vs[i]?=some v∧K v m
  | _=>False:=rfl
@[go_sem] theorem LOp_makeFunc (f:Nat) (cap:List Operand):LOp P pr ro ⟨d,.makeFunc (.func f) #[] cap.toArray,ty,pos,af,g⟩ ev m K=K (.fn f (cap.map ev)) m:=by
 simp [LOp]
@[go_sem] theorem LOp_makeSlice (t:TypeId) (l c:Operand) (i:Nat):LOp P pr ro ⟨some i,.makeSlice t l c,ty,pos,af,g⟩ ev m K=match telem P t,tzero P ((telem P t).getD 0),ev l,ev c,some i with
  | some e,some z,.int .i64 n,.int .i64 n',some d=>n=n'∧0≤n∧n≤549755813888∧gz P e=true∧z.pure=true∧m (100+d)=.none ∧
    K (.arr (100+d) n.toNat) (m.put (100+d) (.arr e (tsize P e) (List.replicate n.toNat z)))
  | _,_,_,_,_=>False:=rfl
@[go_sem] theorem LOp_len (x:Operand) (t:TypeId):LOp P pr ro ⟨d,.call ⟨.builtin .len,#[x],#[t]⟩,ty,pos,af,g⟩ ev m K=((telem P t).isSome=true∧match ev x with
        | .al _ xs=>K (.int .i64 xs.length) m
        | .nil=>K (.int .i64 0) m
        | .arr id n=>(match m id with | some (.arr _ _ xs)=>n=xs.length | _=>False)∧K (.int .i64 n) m
        | _=>False):=rfl
def qM (P:Program) (pr:Nat→Prop) (m:Mem) (i e:Nat) (x:LV) (K:LV→Mem→Prop) (ys:List LV):Prop :=
 match x with
 | .arr id n=>¬ pr id∧match m id with
  | some (.arr e' k xs)=>e'=e∧k=tsize P e∧n=xs.length∧xs.length+ys.length≤549755813888∧K (.arr id (n+ys.length)) (m.put id (.arr e k (xs++ys)))
  | _=>False
 | .nil=>m (100+i)=.none∧ys.length≤549755813888∧K (.arr (100+i) ys.length) (m.put (100+i) (.arr e (tsize P e) ys))
 | _=>False
attribute [go_sem] qM
@[go_sem] theorem LOp_append (x y:Operand) (t t':TypeId) (i:Nat):LOp P pr ro ⟨some i,.call ⟨.builtin .append,#[x,y],#[t,t']⟩,ty,pos,af,g⟩ ev m K=(t=t'∧match telem P t with
        | some e=>gz P e=true∧match ev y with
          | .al k ys=>k=tsize P e∧qM P pr m i e (ev x) K ys
          | .nil=>qM P pr m i e (ev x) K []
          | .aJ _ _ k ys=>k=tsize P e∧qM P pr m i e (ev x) K ys
          | _=>False
        | .none=>False):=by
  have h0:LOp P pr ro ⟨some i,.call ⟨.builtin .append,#[x,y],#[t,t']⟩,ty,pos,af,g⟩ ev m K=(t=t'∧match telem P t with
        | some e=>gz P e=true∧∃ ys,Src (tsize P e) (ev y) ys∧qM P pr m i e (ev x) K ys
        | .none=>False):=rfl
  rw [h0]
  cases telem P t with
  | none=>rfl
  | some e =>
    simp only
    congr 2
    cases hy:ev y <;> simp [Src]
    case al k ys =>
      constructor
      · rintro ⟨zs,⟨rfl,rfl⟩,h⟩; exact ⟨rfl,h⟩
      · rintro ⟨rfl,h⟩; exact ⟨ys,⟨rfl,rfl⟩,h⟩
    case aJ k ys =>
      constructor
      · rintro ⟨zs,⟨rfl,rfl⟩,h⟩; exact ⟨rfl,h⟩
      · rintro ⟨rfl,h⟩; exact ⟨ys,⟨rfl,rfl⟩,h⟩
@[go_sem] theorem LOp_call (x:Operand) (l:List Operand) (ts:Array TypeId):LOp P pr ro ⟨d,.call ⟨.value x,l.toArray,ts⟩,ty,pos,af,g⟩ ev m K=match ev x with
      | .fn f cap => (∃ fn, P.funcs[f]? = some fn ∧ (fn.name == "runtime.NumGoroutine") = false ∧ fn.body.isNone = false) ∧ BI P f (l.map ev ++ cap) m K
      | _=>False:=rfl
end ops
attribute [go_sem] LV.refs LV.bK LV.cells oV rep mr LV.scalar LV.pure LV.bo Ds uF zl ju oneOf List.all_cons List.all_nil List.map_cons List.map_nil List.drop_zero List.drop_succ_cons List.drop_nil List.take_succ_cons List.take_zero List.take_nil List.length_cons List.length_nil List.nil_append List.cons_append List.getElem?_cons_zero List.getElem?_cons_succ Bool.and_true Bool.true_and Bool.and_self List.getD_cons_zero List.getD_cons_succ List.getD_nil
@[go_sem] theorem loadC_def (t:TypeId) (cs:List LV) (K:LV→Prop):loadC P t cs K=(tok P t=true∧if tagg P t=true then tsize P t≤cs.length∧K (.agg (cs.take (tsize P t))) else match cs with | x :: _=>K x | []=>False):=rfl
def me (m:Mem):List (Nat × LE)→Prop
 | []=>True
 | (i,v) :: r=>m i=some v∧me m r
theorem me.all:∀ {l:List (Nat × LE)},me m l→∀ p ∈ l,m p.1=some p.2
 | [],_,p,hp=>by cases hp
 | (i,v) :: r,h,p,hp=>by
  rcases List.mem_cons.1 hp with rfl | hp
  ·exact h.1
  ·exact me.all h.2 p hp
theorem LH.mid {x y:Code} {Q:Exit→Env→Mem→Prop} (M:Env→Mem→Prop) (h1:LH P N pr x (zA M Q) e m) (h2:∀ e m,M e m→LH P N pr y Q e m):LH P N pr (.seq x y) Q e m :=
 LH.seq (h1.mono fun ex e m h=>by cases ex <;> first | exact h2 e m h | exact h)
theorem aO.Nj {f:Nat} {args:List LV} {lv:LV} {ml cQ:List (Nat × LE)} {K:LV→Mem→Prop} (h:aO P f args (Mem.of ml) lv (Mem.of cQ)) (hm:me m ml) (rA:∀ p ∈ cQ,(ml.any fun q=>q.1 == p.1)=true ∨ m p.1=.none) (hargs:aV (args.map fun x=>(0,x)) ml=true) (hK:K lv (m.over (Mem.of cQ))) (wq:Mem.of ml dv=.none:=by exact rfl):BI P f args m K:=by
 simp only [aV,Bool.and_eq_true,List.all_eq_true] at hargs
 refine ⟨lv,_,_,h,fun i hi=>?_,fun i hi gx=>?_,fun i hi=>?_,wq,fun i cs hi j hj=>?_,hK⟩
 ·cases hq:Mem.of ml i with
  | none=>exact absurd hq hi
  | some le=>exact hm.all _ (fq hq)
 ·cases hq:Mem.of cQ i with
  | none=>exact absurd hq gx
  | some le =>
   rcases rA _ (fq hq) with h1 | h1
   ·exact absurd hi (jv h1)
   ·exact h1
 ·have key:∀ (l:List LV),LV.cu i l=false→∃ x ∈ l,i ∈ x.refs:=by
   intro l
   induction l with
   | nil=>intro h; simp [LV.cu] at h
   | cons x l ih =>
    intro h
    simp only [LV.cu,Bool.and_eq_false_iff] at h
    rcases h with h | h
    ·exact ⟨x,by simp,je x h⟩
    ·obtain ⟨y,hy,hr⟩:=ih h
     exact ⟨y,by simp [hy],hr⟩
  obtain ⟨x,hx,hr⟩:=key args hi
  exact jv (hargs.1 (0,x) (List.mem_map.2 ⟨x,hx,rfl⟩) i hr)
 ·have h2:=hargs.2 _ (fq hi)
  cases cs with
  | box cs =>
   simp only [List.all_eq_true] at h2
   exact jv (h2 j (dg cs hj))
  | c6 _ _ _ _ _ _ id2 _ =>
   simp only [LE.k6,bne_eq_false_iff_eq] at hj
   subst hj
   exact jv h2
  | _=>simp [LE.k6] at hj
end
end Go.L
namespace Go.L
section
variable {P:Program} {N:Nat} {pr:Nat→Prop} {ro:List Nat} {o:Oper} {ev HN:Operand→LV} {m:Mem} {K:LV→Mem→Prop}
theorem nI {t:TypeId} {cs:List LV} {K:LV→Prop} (h:loadC P t cs K):∃ lv,K lv∧∀ K':LV→Prop,K' lv→loadC P t cs K':=by
 obtain ⟨ht,h⟩:=h
 by_cases hg:tagg P t=true
 ·rw [if_pos hg] at h
  exact ⟨_,h.2,fun K' hK=>⟨ht,by rw [if_pos hg]; exact ⟨h.1,hK⟩⟩⟩
 ·rw [if_neg hg] at h
  match cs,h with
  | x :: cs,h=>exact ⟨x,h,fun K' hK=>⟨ht,by rw [if_neg hg]; exact hK⟩⟩
theorem AY {op:BinOp} {k:IntKind} {a b:Int} {K:LV→Prop} (h:oV op k a b K):∃ lv,K lv∧∀ K':LV→Prop,K' lv→oV op k a b K':=by
 cases op <;> simp only [oV] at h ⊢ <;> first | exact h.elim | exact ⟨_,h,fun K' hK=>hK⟩ | exact ⟨_,h.2,fun K' hK=>⟨h.1,hK⟩⟩
theorem yq {m:Mem} {id:Nat} {x:LE}:m.put id x ≠ Mem.none:=fun h=>by
 have:=congrFun h id
 simp [Mem.put,Mem.none] at this
theorem vP (h:LOp P pr ro o ev m K):∃ lv m',K lv m'∧(∀ K':LV→Mem→Prop,K' lv m'→LOp P pr ro o ev m K')∧(m=Mem.none→m'=Mem.none→∀ m0,∀ K':LV→Mem→Prop,K' lv m0→LOp P pr ro o ev m0 K'):=by
 have plain:∀ lv,K lv m→(∀ m0,∀ K':LV→Mem→Prop,K' lv m0→LOp P pr ro o ev m0 K')→∃ lv m',K lv m'∧(∀ K':LV→Mem→Prop,K' lv m'→LOp P pr ro o ev m K')∧(m=Mem.none→m'=Mem.none→∀ m0,∀ K':LV→Mem→Prop,K' lv m0→LOp P pr ro o ev m0 K') :=
  fun lv hK my=>⟨lv,m,hK,fun K' wg=>my m K' wg,fun _ _=>my⟩
 have reader:∀ lv,K lv m→(∀ K':LV→Mem→Prop,K' lv m→LOp P pr ro o ev m K')→(m=Mem.none→False)→∃ lv m',K lv m'∧(∀ K':LV→Mem→Prop,K' lv m'→LOp P pr ro o ev m K')∧(m=Mem.none→m'=Mem.none→∀ m0,∀ K':LV→Mem→Prop,K' lv m0→LOp P pr ro o ev m0 K') :=
  fun lv hK my hn=>⟨lv,m,hK,my,fun h0=>(hn h0).elim⟩
 have writer:∀ lv id x,K lv (m.put id x)→(∀ K':LV→Mem→Prop,K' lv (m.put id x)→LOp P pr ro o ev m K')→∃ lv m',K lv m'∧(∀ K':LV→Mem→Prop,K' lv m'→LOp P pr ro o ev m K')∧(m=Mem.none→m'=Mem.none→∀ m0,∀ K':LV→Mem→Prop,K' lv m0→LOp P pr ro o ev m0 K') :=
  fun lv id x hK my=>⟨lv,_,hK,my,fun _ h0=>absurd h0 yq⟩
 obtain ⟨d,op,ty,pos,af,g⟩:=o
 cases op
 case move x=>exact plain _ h fun m0 K' hK=>hK
 case assign x=>exact plain _ h fun m0 K' hK=>hK
 case pick c a b =>
  simp only [LOp] at h
  cases hc:ev c <;> simp only [hc] at h
  case bool t=>exact plain _ h fun m0 K' hK=>by simp only [LOp,hc]; exact hK
 case alloc t =>
  simp only [LOp] at h
  split at h
  ·rename_i z i hz
   exact writer _ _ _ h.2 fun K' hK=>by simp only [LOp,hz]; exact ⟨h.1,hK⟩
  ·cases h
 case box t x =>
  simp only [LOp] at h
  split at h
  ·rename_i i
   obtain ⟨hs,h⟩:=h
   split at h
   ·rename_i ui
    exact plain _ h fun m0 K' hK=>by simp only [LOp]; exact ⟨hs,by rw [if_pos ui]; exact hK⟩
   ·rename_i ui
    exact writer _ _ _ h.2 fun K' hK=>by simp only [LOp]; exact ⟨hs,by rw [if_neg ui]; exact ⟨h.1,hK⟩⟩
  ·cases h
 case build t parts =>
  simp only [LOp] at h
  obtain ⟨MY,h⟩:=h
  split at h
  ·rename_i z hz
   split at h
   ·rename_i cs hf
    exact plain _ h fun m0 K' hK=>by simp only [LOp,hz,hf]; exact ⟨MY,hK⟩
   ·cases h
  ·cases h
 case buildSlice t len parts =>
  simp only [LOp] at h
  cases lh:telem P t <;> simp only [lh] at h
  case some e =>
   obtain ⟨h1,h2,h3,h4,hK⟩:=h
   exact plain _ hK fun m0 K' hK=>by simp only [LOp,lh]; exact ⟨h1,h2,h3,h4,hK⟩
 case load t a =>
  simp only [LOp] at h
  cases hx:ev a <;> simp only [hx] at h
  case ag cs =>
   obtain ⟨lv,hK,hl⟩:=nI h
   exact plain lv hK fun m0 K' wg=>by simp only [LOp,hx]; exact hl _ wg
  case ptr id o =>
   cases hm:m id with
   | none=>simp [hm] at h
   | some le =>
    cases le with
    | map _ _ _=>simp [hm] at h
    | nest _ _ _ _=>simp [hm] at h
    | c6 _ _ _ _ _ _ _ _=>simp [hm] at h
    | dead=>simp [hm] at h
    | arr e k xs=>simp [hm] at h
    | box cs =>
     simp only [hm] at h
     obtain ⟨ho,h⟩:=h
     obtain ⟨lv,hK,hl⟩:=nI h
     exact reader lv hK (fun K' wg=>by simp only [LOp,hx,hm]; exact ⟨ho,hl _ wg⟩) (fun h0=>by rw [h0] at hm; cases hm)
  case bE id n i o =>
   cases hm:m id with
   | none=>simp [hm] at h
   | some le =>
    cases le with
    | map _ _ _=>simp [hm] at h
    | nest _ _ _ _=>simp [hm] at h
    | c6 _ _ _ _ _ _ _ _=>simp [hm] at h
    | dead=>simp [hm] at h
    | box cs=>simp [hm] at h
    | arr e k xs =>
     simp only [hm] at h
     obtain ⟨h1,x,h2,h3,h4,h⟩:=h
     obtain ⟨lv,hK,hl⟩:=nI h
     exact reader lv hK (fun K' wg=>by simp only [LOp,hx,hm]; exact ⟨h1,x,h2,h3,h4,hl _ wg⟩) (fun h0=>by rw [h0] at hm; cases hm)
 case store t a x =>
  simp only [LOp] at h
  obtain ⟨h1,h2,h3,h⟩:=h
  cases hx:ev a <;> simp only [hx] at h
  case ptr id o =>
   cases hm:m id with
   | none=>simp [hm] at h
   | some le =>
    cases le with
    | map _ _ _=>simp [hm] at h
    | nest _ _ _ _=>simp [hm] at h
    | c6 _ _ _ _ _ _ _ _=>simp [hm] at h
    | dead=>simp [hm] at h
    | arr e k xs=>simp [hm] at h
    | box cs =>
     simp only [hm] at h
     exact writer _ _ _ h.2 fun K' hK=>by simp only [LOp,hx,hm]; exact ⟨h1,h2,h3,h.1,hK⟩
  case bE id n i o =>
   cases hm:m id with
   | none=>simp [hm] at h
   | some le =>
    cases le with
    | map _ _ _=>simp [hm] at h
    | nest _ _ _ _=>simp [hm] at h
    | c6 _ _ _ _ _ _ _ _=>simp [hm] at h
    | dead=>simp [hm] at h
    | box cs=>simp [hm] at h
    | arr e k xs =>
     simp only [hm] at h
     obtain ⟨h4,h5,y,z,h6,h7,hK⟩:=h
     exact writer _ _ _ hK fun K' hK=>by simp only [LOp,hx,hm]; exact ⟨h1,h2,h3,h4,h5,y,z,h6,h7,hK⟩
 case nilCheck x =>
  simp only [LOp] at h
  cases hx:ev x <;> simp only [hx] at h
  case ptr=>exact plain _ h fun m0 K' hK=>by simp only [LOp,hx]; exact hK
  case ag=>exact plain _ h fun m0 K' hK=>by simp only [LOp,hx]; exact hK
  case fn=>exact plain _ h fun m0 K' hK=>by simp only [LOp,hx]; exact hK
  case bE id n i o =>
   obtain ⟨h1,hK⟩:=h
   refine reader _ hK (fun K' hK=>by simp only [LOp,hx]; exact ⟨h1,hK⟩) (fun h0=>?_)
   rw [h0] at h1; simp [Mem.none] at h1
 case binOp op t x y t' =>
  simp only [LOp] at h
  cases hx:ev x <;> simp only [hx] at h
  case int k a =>
   cases hy:ev y <;> simp only [hy] at h
   case int k' b =>
    obtain ⟨h1,h⟩:=h
    obtain ⟨lv,hK,hl⟩:=AY h
    exact plain lv hK fun m0 K' wg=>by simp only [LOp,hx,hy]; exact ⟨h1,hl _ wg⟩
  case bool a =>
   cases hy:ev y <;> simp only [hy] at h
   case bool b =>
    obtain ⟨h1,h⟩:=h
    cases op <;> simp only [] at h
    case eql=>exact plain _ h fun m0 K' hK=>by simp only [LOp,hx,hy]; exact ⟨h1,hK⟩
    case neq=>exact plain _ h fun m0 K' hK=>by simp only [LOp,hx,hy]; exact ⟨h1,hK⟩
  case agg xs =>
   cases hy:ev y <;> simp only [hy] at h
   case agg ys =>
    obtain ⟨b,h1,h⟩:=h
    cases op <;> simp only [] at h
    case eql=>exact plain _ h fun m0 K' hK=>by simp only [LOp,hx,hy]; exact ⟨b,h1,hK⟩
    case neq=>exact plain _ h fun m0 K' hK=>by simp only [LOp,hx,hy]; exact ⟨b,h1,hK⟩
 case unOp op t x =>
  simp only [LOp] at h
  cases op <;> cases hx:ev x <;> simp only [hx] at h
  case neg.int=>exact plain _ h fun m0 K' hK=>by simp only [LOp,hx]; exact hK
  case not.bool=>exact plain _ h fun m0 K' hK=>by simp only [LOp,hx]; exact hK
 case convert s t x =>
  simp only [LOp] at h
  obtain ⟨h1,h⟩:=h
  cases ht:tint P t <;> simp only [ht] at h
  case some k =>
   cases hx:ev x <;> simp only [hx] at h
   case int=>exact plain _ h fun m0 K' hK=>by simp only [LOp,ht,hx]; exact ⟨h1,hK⟩
 case slice t x lo hi mx =>
  simp only [LOp] at h
  obtain ⟨h1,h2,h3,h⟩:=h
  cases hx:ev x <;> simp only [hx] at h
  case al k xs =>
   obtain ⟨h4,l,q,h5,h6,h7,h8,hK⟩:=h
   exact plain _ hK fun m0 K' hK=>by simp only [LOp,hx]; exact ⟨h1,h2,h3,h4,l,q,h5,h6,h7,h8,hK⟩
  case nil =>
   obtain ⟨h5,h6,hK⟩:=h
   exact plain _ hK fun m0 K' hK=>by simp only [LOp,hx]; exact ⟨h1,h2,h3,h5,h6,hK⟩
 case fieldAddr t x f =>
  simp only [LOp] at h
  cases nF:tfield P t f <;> simp only [nF] at h
  case some q =>
   obtain ⟨off,ft⟩:=q
   obtain ⟨h1,h2,h⟩:=h
   cases hx:ev x <;> simp only [hx] at h
   case ag cs=>exact plain _ h.2 fun m0 K' hK=>by simp only [LOp,nF,hx]; exact ⟨h1,h2,h.1,hK⟩
   case ptr=>exact plain _ h fun m0 K' hK=>by simp only [LOp,nF,hx]; exact ⟨h1,h2,hK⟩
   case bE id n i o =>
    obtain ⟨h3,hK⟩:=h
    refine reader _ hK (fun K' hK=>by simp only [LOp,nF,hx]; exact ⟨h1,h2,h3,hK⟩) (fun h0=>?_)
    rw [h0] at h3; simp [Mem.none] at h3
 case field t x f =>
  simp only [LOp] at h
  cases nF:tfield P t f <;> simp only [nF] at h
  case some q =>
   obtain ⟨off,ft⟩:=q
   cases hx:ev x <;> simp only [hx] at h
   case agg cs =>
    obtain ⟨h1,h⟩:=h
    obtain ⟨lv,hK,hl⟩:=nI h
    exact plain lv hK fun m0 K' wg=>by simp only [LOp,nF,hx]; exact ⟨h1,hl _ wg⟩
 case indexAddr t x i =>
  simp only [LOp] at h
  cases lh:telem P t <;> simp only [lh] at h
  case some e =>
   cases hx:ev x <;> simp only [hx] at h
   case al k xs =>
    cases hi:ev i <;> simp only [hi] at h
    case int ki n =>
     obtain ⟨h1,h2,h3,y,h4,h5,hK⟩:=h
     exact plain _ hK fun m0 K' hK=>by simp only [LOp,lh,hx,hi]; exact ⟨h1,h2,h3,y,h4,h5,hK⟩
   case arr id l =>
    cases hi:ev i <;> simp only [hi] at h
    case int ki n =>
     cases hm:m id with
     | none=>simp [hm] at h
     | some le =>
      cases le with
      | map _ _ _=>simp [hm] at h
      | nest _ _ _ _=>simp [hm] at h
      | c6 _ _ _ _ _ _ _ _=>simp [hm] at h
      | dead=>simp [hm] at h
      | box cs=>simp [hm] at h
      | arr e' k xs =>
       simp only [hm] at h
       obtain ⟨h1,h2,h3,h4,h5,hK⟩:=h
       exact reader _ hK (fun K' hK=>by simp only [LOp,lh,hx,hi,hm]; exact ⟨h1,h2,h3,h4,h5,hK⟩) (fun h0=>by rw [h0] at hm; cases hm)
 case extract t i =>
  simp only [LOp] at h
  cases hx:ev t <;> simp only [hx] at h
  case cV vs =>
   obtain ⟨v,h1,hK⟩:=h
   exact plain _ hK fun m0 K' hK=>by simp only [LOp,hx]; exact ⟨v,h1,hK⟩
 case makeFunc f first cap =>
  simp only [LOp] at h
  cases f <;> simp only [] at h
  case func f=>exact plain _ h.2 fun m0 K' hK=>by simp only [LOp]; exact ⟨h.1,hK⟩
 case makeSlice t l c =>
  simp only [LOp] at h
  split at h
  ·rename_i e z n n' i lh hz hx hy
   obtain ⟨h1,h2,h3,h4,h5,h6,hK⟩:=h
   refine writer _ _ _ hK fun K' hK=>?_
   rw [lh] at hz
   simp only [LOp,lh,hz,hx,hy]
   exact ⟨h1,h2,h3,h4,h5,h6,hK⟩
  ·cases h
 case call c =>
  obtain ⟨callee,args,ME⟩:=c
  cases callee
  case value x =>
   simp only [LOp] at h
   cases hx:ev x <;> simp only [hx] at h
   case fn f cap =>
    obtain ⟨Rq,lv,mc,mJ,hc,h1,h2,h3,MO,h4,hK⟩:=h
    refine ⟨lv,_,hK,fun K' wg=>by simp only [LOp,hx]; exact ⟨Rq,lv,mc,mJ,hc,h1,h2,h3,MO,h4,wg⟩,fun pM iO m0 K' wg=>?_⟩
    subst pM
    have e1:mc=Mem.none:=by
     funext id
     cases hq:mc id with
     | none=>rfl
     | some le=>have:=h1 id (by simp [hq]); rw [hq] at this; cases this
    have e2:mJ=Mem.none:=by
     funext id
     have:=congrFun iO id
     unfold Mem.over at this
     cases hq:mJ id with
     | none=>rfl
     | some le=>simp [hq,Mem.none] at this
    subst e1; subst e2
    simp only [LOp,hx]
    exact ⟨Rq,lv,Mem.none,Mem.none,hc,fun id bB=>absurd rfl bB,fun id _ bB=>absurd rfl bB,h3,MO,h4,by rw [Mem.ve]; exact wg⟩
  case builtin b =>
   cases b
   case len =>
    simp only [LOp] at h
    split at h
    ·rename_i x t hargs uC
     obtain ⟨h1,h⟩:=h
     cases hx:ev x <;> simp only [hx] at h
     case al=>exact plain _ h fun m0 K' hK=>by simp only [LOp,hargs,uC,hx]; exact ⟨h1,hK⟩
     case nil=>exact plain _ h fun m0 K' hK=>by simp only [LOp,hargs,uC,hx]; exact ⟨h1,hK⟩
     case arr id n =>
      obtain ⟨h2,hK⟩:=h
      refine reader _ hK (fun K' hK=>by simp only [LOp,hargs,uC,hx]; exact ⟨h1,h2,hK⟩) (fun h0=>?_)
      rw [h0] at h2; simp [Mem.none] at h2
    ·cases h
   case append =>
    simp only [LOp] at h
    split at h
    ·rename_i x y t t' hargs uC
     obtain ⟨h1,h⟩:=h
     cases lh:telem P t <;> simp only [lh] at h
     case some e =>
      obtain ⟨h2,ys,h3,h⟩:=h
      cases hx:ev x <;> simp only [hx] at h
      case arr id n =>
       obtain ⟨h4,h⟩:=h
       cases hm:m id with
       | none=>simp [hm] at h
       | some le =>
        cases le with
        | map _ _ _=>simp [hm] at h
        | nest _ _ _ _=>simp [hm] at h
        | c6 _ _ _ _ _ _ _ _=>simp [hm] at h
        | dead=>simp [hm] at h
        | box cs=>simp [hm] at h
        | arr e' k xs =>
         simp only [hm] at h
         obtain ⟨h5,h6,h7,h8,hK⟩:=h
         exact writer _ _ _ hK fun K' hK=>by simp only [LOp,hargs,uC,lh,hx,hm]; exact ⟨h1,h2,ys,h3,h4,h5,h6,h7,h8,hK⟩
      case nil =>
       cases d <;> simp only [] at h
       case some i =>
        obtain ⟨h5,h6,hK⟩:=h
        exact writer _ _ _ hK fun K' hK=>by simp only [LOp,hargs,uC,lh,hx]; exact ⟨h1,h2,ys,h3,h5,h6,hK⟩
    ·cases h
   all_goals exact h.elim
  all_goals exact h.elim
 all_goals exact h.elim
theorem nz (bA:∀ x ∈ o.op.operands,ev x=HN x) (h:LOp P pr ro o ev m K):LOp P pr ro o HN m K:=by
 obtain ⟨d,op,ty,pos,af,g⟩:=o
 have TU:∀ l:List (Nat × Operand),(∀ x ∈ l.map (·.2),ev x=HN x)→(l.map fun p=>ev p.2)=l.map fun p=>HN p.2:=fun l hl =>
  List.map_congr_left fun p hp=>hl _ (List.mem_map.2 ⟨p,hp,rfl⟩)
 have PQ:∀ l:List (Nat × Operand),(∀ x ∈ l.map (·.2),ev x=HN x)→(l.map fun p=>(p.1,ev p.2))=l.map fun p=>(p.1,HN p.2):=fun l hl =>
  List.map_congr_left fun p hp=>by rw [hl _ (List.mem_map.2 ⟨p,hp,rfl⟩)]
 cases op <;> simp only [Op.operands] at bA
 case build t parts=>simp only [LOp] at h ⊢; rw [← PQ parts.toList (fun x hx=>bA x (by simpa using hx))]; exact h
 case buildSlice t n parts=>simp only [LOp] at h ⊢; rw [← TU parts.toList (fun x hx=>bA x (by simpa using hx))]; exact h
 case makeFunc f first cap =>
  simp only [LOp] at h ⊢
  cases f <;> simp only [] at h ⊢
  case func f=>rw [← List.map_congr_left (f:=ev) (g:=HN) (l:=cap.toList) (fun x hx=>bA x (by simp at hx ⊢; exact .inr hx))]; exact h
 case slice t x lo hi mx =>
  have hx:=bA x (by simp)
  cases lo with
  | none =>
   cases hi with
   | none=>simp only [LOp] at h ⊢; rw [← hx]; exact h
   | some q=>have hq:=bA q (by simp); simp only [LOp] at h ⊢; rw [← hx,← hq]; exact h
  | some r =>
   have hr:=bA r (by simp)
   cases hi with
   | none=>simp only [LOp] at h ⊢; rw [← hx,← hr]; exact h
   | some q=>have hq:=bA q (by simp); simp only [LOp] at h ⊢; rw [← hx,← hr,← hq]; exact h
 case move x=>simp only [LOp] at h ⊢; rw [← bA x (by simp)]; exact h
 case assign x=>simp only [LOp] at h ⊢; rw [← bA x (by simp)]; exact h
 case pick x y z=>simp only [LOp] at h ⊢; rw [← bA x (by simp),← bA y (by simp),← bA z (by simp)]; exact h
 case alloc t=>simp only [LOp] at h ⊢; exact h
 case box t x=>simp only [LOp] at h ⊢; rw [← bA x (by simp)]; exact h
 case load t x=>simp only [LOp] at h ⊢; rw [← bA x (by simp)]; exact h
 case store t x y=>simp only [LOp] at h ⊢; rw [← bA x (by simp),← bA y (by simp)]; exact h
 case nilCheck x=>simp only [LOp] at h ⊢; rw [← bA x (by simp)]; exact h
 case binOp op t x y t'=>simp only [LOp] at h ⊢; rw [← bA x (by simp),← bA y (by simp)]; exact h
 case unOp op t x=>simp only [LOp] at h ⊢; rw [← bA x (by simp)]; exact h
 case convert s t x=>simp only [LOp] at h ⊢; rw [← bA x (by simp)]; exact h
 case fieldAddr t x f=>simp only [LOp] at h ⊢; rw [← bA x (by simp)]; exact h
 case field t x f=>simp only [LOp] at h ⊢; rw [← bA x (by simp)]; exact h
 case indexAddr t x y=>simp only [LOp] at h ⊢; rw [← bA x (by simp),← bA y (by simp)]; exact h
 case extract x i=>simp only [LOp] at h ⊢; rw [← bA x (by simp)]; exact h
 case makeSlice t x y=>simp only [LOp] at h ⊢; rw [← bA x (by simp),← bA y (by simp)]; exact h
 case call c =>
  obtain ⟨callee,args,ME⟩:=c
  have hargs:args.toList.map ev=args.toList.map HN:=List.map_congr_left fun x hx=>bA x (by simp [Call.operands]; exact .inr (by simpa using hx))
  cases callee
  case value x =>
   simp only [LOp] at h ⊢
   rw [← bA x (by simp [Call.operands]),← hargs]; exact h
  case builtin b =>
   cases b <;> simp only [LOp] at h ⊢
   case len =>
    split at h
    ·rename_i x t hx ht
     rw [← bA x (by simp [Call.operands]; rw [← Array.mem_toList_iff,hx]; simp)]; exact h
    ·cases h
   case append =>
    split at h
    ·rename_i x y t t' hx ht
     rw [← bA x (by simp [Call.operands]; rw [← Array.mem_toList_iff,hx]; simp),← bA y (by simp [Call.operands]; rw [← Array.mem_toList_iff,hx]; simp)]; exact h
    ·cases h
  all_goals exact h.elim
 all_goals exact h.elim
end
end Go.L
namespace Go.L
section
variable {P:Program} {N:Nat} {pr:Nat→Prop} {ro:List Nat} {ops:Array Oper}
def bn (P:Program) (pr:Nat→Prop) (o:Oper) (ev:Operand→LV) (m:Mem) (lv:LV) (m':Mem):Prop :=
 ∀ (c:Cx) (a:Act) (Q:Exit→Act→World→Prop),(∀ x ∈ o.op.operands,av c (ev x) (a.eval x))→b3 c m →
  o.wp P a c.w (fun a' w'=>∃ v c',a'=a.put o.dst v∧c'.w=w'∧av c' lv v∧b3 c' m'∧Step pr c c') Q
def gd (ops:Array Oper) (o:Oper) (e:Env):Option Bool :=
 match o.guard with
 | .none=>some true
 | some (j,want)=>match (ops[j]?).bind (·.dst) with
  | some g=>match e g with
   | .bool t=>some (t == want)
   | .cV []=>some false
   | _=>.none
  | .none=>.none
def gk (md:Nat):Nat:=if md<100000 then md - 1000 else md - 100000
def I6 (md:Nat):List Nat:=[(md - 1000000000) % 1000,(md - 1000000000) / 1000 % 1000,(md - 1000000000) / 1000000 % 1000].filter fun i=>!(i == 0)
def rp (P:Program) (pr:Nat→Prop) (o:Oper) (ev:Operand→LV) (ids:List Nat) (m:Mem) (lv:LV) (m':Mem):Prop:=(∀ i,i ∉ ids→m' i=m i)∧∀ m0:Mem,(∀ i,i ∈ ids→m0 i=m i)→bn P pr o ev m0 lv (fun i=>if i ∈ ids then m' i else m0 i)
theorem rp.ok {o:Oper} {ev:Operand→LV} {ids:List Nat} {m m':Mem} {lv:LV} (h:rp P pr o ev ids m lv m'):bn P pr o ev m lv m':=by
 have:=h.2 m (fun _ _=>rfl)
 have he:(fun i=>if i ∈ ids then m' i else m i)=m':=by
  funext i
  by_cases hi:i ∈ ids
  ·simp [hi]
  ·simp [hi,h.1 i hi]
 rwa [he] at this
def Ko (P:Program) (pr:Nat→Prop) (ro:List Nat) (o:Oper) (ev:Operand→LV) (id:Nat) (le:LE) (lv:LV):Prop:=∀ m0:Mem,m0 id=some le→∀ K':LV→Mem→Prop,K' lv m0→LOp P pr ro o ev m0 K'
def Kp (P:Program) (pr:Nat→Prop) (ro:List Nat) (o:Oper) (ev:Operand→LV) (id:Nat) (le oW:LE) (lv:LV):Prop:=∀ m0:Mem,m0 id=some le→∀ K':LV→Mem→Prop,K' lv (m0.over (Mem.of [(id,oW)]))→LOp P pr ro o ev m0 K'
def fX (P:Program) (pr:Nat→Prop) (ro:List Nat) (ops:Array Oper) (md:Nat) (o:Oper) (K:Env→Mem→Prop) (e:Env) (m:Mem):Prop :=
 match gd ops o e with
 | some true=>match md with
  | 0=>LOp P pr ro o (da e) Mem.none fun lv m'=>m'=Mem.none∧K (e.fM o.dst lv) m
  | 1=>LOp P pr ro o (da e) m fun lv m'=>m'=m∧K (e.fM o.dst lv) m
  | 3=>∃ lv m',bn P pr o (da e) m lv m'∧K (e.fM o.dst lv) m'
  | 4=>∃ lv,(∀ m0,bn P pr o (da e) m0 lv m0)∧K (e.fM o.dst lv) m
  | _=>if md<1000 then LOp P pr ro o (da e) m fun lv m'=>K (e.fM o.dst lv) m'
    else if md<100000 then ∃ lv le,m (gk md)=some le∧Ko P pr ro o (da e) (gk md) le lv∧K (e.fM o.dst lv) m
    else if md<1000000000 then ∃ lv le oW,m (gk md)=some le∧Kp P pr ro o (da e) (gk md) le oW lv∧K (e.fM o.dst lv) (m.over (Mem.of [(gk md,oW)]))
    else ∃ lv m',rp P pr o (da e) (I6 md) m lv m'∧K (e.fM o.dst lv) m'
 | some false=>K (e.fM o.dst (.cV [])) m
 | .none=>False
def cA (P:Program) (pr:Nat→Prop) (ro:List Nat) (ops:Array Oper):List (Oper × Nat)→(Env→Mem→Prop)→Env→Mem→Prop
 | [],K=>K
 | (o,md) :: r,K=>fX P pr ro ops md o (cA P pr ro ops r K)
def Out (P:Program) (pr:Nat→Prop) (ro:List Nat) (ops:Array Oper) (o:Oper) (e:Env) (md:Nat) (m:Mem) (lv:LV) (m':Mem):Prop :=
 match gd ops o e with
 | some true=>(md=4∧m'=m∧∀ m0,bn P pr o (da e) m0 lv m0) ∨ ((md=3 ∨ 1000000000≤md)∧(md=3→bn P pr o (da e) m lv m')∧(1000000000≤md→rp P pr o (da e) (I6 md) m lv m')) ∨ (1000≤md∧md<100000∧m'=m∧∃ le,m (gk md)=some le∧Ko P pr ro o (da e) (gk md) le lv) ∨ ((100000≤md∧md<1000000000)∧∃ le oW,m (gk md)=some le∧m'=m.over (Mem.of [(gk md,oW)])∧Kp P pr ro o (da e) (gk md) le oW lv) ∨ (md<1000∧md ≠ 3∧md ≠ 4)∧(md=0→m'=m∧∀ m0,∀ K':LV→Mem→Prop,K' lv m0→LOp P pr ro o (da e) m0 K')∧(md=1→m'=m)∧∀ K':LV→Mem→Prop,K' lv m'→LOp P pr ro o (da e) m K'
 | some false=>lv=.cV []∧m'=m
 | .none=>False
theorem Ai {md:Nat} {o:Oper} {K:Env→Mem→Prop} {e:Env} {m:Mem} (h:fX P pr ro ops md o K e m):∃ lv m',K (e.fM o.dst lv) m'∧Out P pr ro ops o e md m lv m':=by
 unfold fX at h
 unfold Out
 cases hg:gd ops o e with
 | none=>simp [hg] at h
 | some b =>
  cases b with
  | false=>simp only [hg] at h ⊢; exact ⟨_,_,h,rfl,rfl⟩
  | true =>
   simp only [hg] at h ⊢
   split at h
   ·obtain ⟨lv,m',⟨iO,hK⟩,h1,h2⟩:=vP h
    exact ⟨lv,m,hK,.inr (.inr (.inr (.inr ⟨by simp,fun _=>⟨rfl,h2 rfl iO⟩,by simp,fun K' wg=>h2 rfl iO m K' wg⟩)))⟩
   ·obtain ⟨lv,m',⟨rfl,hK⟩,h1,h2⟩:=vP h
    exact ⟨lv,_,hK,.inr (.inr (.inr (.inr ⟨by simp,by simp,fun _=>rfl,h1⟩)))⟩
   ·obtain ⟨lv,m',h1,hK⟩:=h
    exact ⟨lv,m',hK,.inr (.inl ⟨.inl rfl,fun _=>h1,fun h=>absurd h (by decide)⟩)⟩
   ·obtain ⟨lv,h1,hK⟩:=h
    exact ⟨lv,m,hK,.inl ⟨rfl,rfl,h1⟩⟩
   ·rename_i n0 n1 n3 n4
    split at h
    ·rename_i ec
     obtain ⟨lv,m',hK,h1,h2⟩:=vP h
     exact ⟨lv,m',hK,.inr (.inr (.inr (.inr ⟨⟨ec,by simpa using n3,by simpa using n4⟩,fun h0=>absurd h0 (by simpa using n0),fun h0=>absurd h0 (by simpa using n1),h1⟩)))⟩
    ·rename_i NQ
     split at h
     ·rename_i ec
      obtain ⟨lv,le,h1,h2,hK⟩:=h
      exact ⟨lv,m,hK,.inr (.inr (.inl ⟨by omega,ec,rfl,le,h1,h2⟩))⟩
     ·split at h
      ·obtain ⟨lv,le,oW,h1,h2,hK⟩:=h
       exact ⟨lv,_,hK,.inr (.inr (.inr (.inl ⟨by omega,le,oW,h1,rfl,h2⟩)))⟩
      ·obtain ⟨lv,m',h1,hK⟩:=h
       exact ⟨lv,m',hK,.inr (.inl ⟨.inr (by omega),fun h=>absurd h (by simpa using n3),fun _=>h1⟩)⟩
theorem FV {o:Oper} {e e':Env} (h:∀ t ∈ o.looksAt ops,e t=e' t):∀ x ∈ o.op.operands,da e x=da e' x:=by
 intro x hx
 cases x with
 | tmp t =>
  refine h t ?_
  unfold Oper.looksAt
  exact List.mem_append.2 (.inl (List.mem_filterMap.2 ⟨.tmp t,by simpa using hx,rfl⟩))
 | const v=>rfl
 | global g=>rfl
 | func f=>rfl
theorem wa {o:Oper} {e e':Env} (h:∀ t ∈ o.looksAt ops,e t=e' t):gd ops o e=gd ops o e':=by
 unfold gd
 cases hg:o.guard with
 | none=>rfl
 | some q =>
  obtain ⟨j,want⟩:=q
  cases hj:(ops[j]?).bind (·.dst) with
  | none=>simp only [hj]
  | some g =>
   simp only [hj]
   rw [h g]
   unfold Oper.looksAt
   refine List.mem_append.2 (.inr ?_)
   simp [hg,hj]
theorem Out.congr {o:Oper} {e e':Env} {md:Nat} {m m':Mem} {lv:LV} (h:∀ t ∈ o.looksAt ops,e t=e' t) (ho:Out P pr ro ops o e md m lv m'):Out P pr ro ops o e' md m lv m':=by
 unfold Out at ho ⊢
 rw [← wa h]
 have hl:=FV h
 split at ho
 ·rcases ho with ⟨h3,h4,ho⟩ | ⟨h3,ho,hf⟩ | ⟨g1,g2,g3,le,g4,g5⟩ | ⟨g1,le,oW,g2,g3,g4⟩ | ⟨h3,h1,h2,h4⟩
  ·exact .inl ⟨h3,h4,fun m0 c a Q bA hm=>ho m0 c a Q (fun x hx=>by rw [hl x hx]; exact bA x hx) hm⟩
  ·exact .inr (.inl ⟨h3,fun h c a Q bA hm=>ho h c a Q (fun x hx=>by rw [hl x hx]; exact bA x hx) hm,fun h=>⟨(hf h).1,fun m0 pM c a Q bA hm=>(hf h).2 m0 pM c a Q (fun x hx=>by rw [hl x hx]; exact bA x hx) hm⟩⟩)
  ·exact .inr (.inr (.inl ⟨g1,g2,g3,le,g4,fun m0 pM K' hK=>nz hl (g5 m0 pM K' hK)⟩))
  ·exact .inr (.inr (.inr (.inl ⟨g1,le,oW,g2,g3,fun m0 pM K' hK=>nz hl (g4 m0 pM K' hK)⟩)))
  ·exact .inr (.inr (.inr (.inr ⟨h3,fun h0=>⟨(h1 h0).1,fun m0 K' hK=>nz hl ((h1 h0).2 m0 K' hK)⟩,h2,fun K' hK=>nz hl (h4 K' hK)⟩)))
 ·exact ho
 ·exact ho
def rT (o:Oper):Bool:=(match o.op with | .alloc _=>true | _=>false) && o.guard.isNone
def vZ (o:Oper):Bool:=(match o.op with | .alloc _=>true | .makeSlice _ _ _=>true | .call c=>(match c.callee with | .value _=>true | _=>false) | _=>false) && o.guard.isNone
def M4 (md:Nat):Bool:=Nat.ble 1000 md && Nat.blt md 100000
def M3 (md:Nat):Bool:=Nat.ble 1000 md && Nat.blt md 1000000000
def pE (md:Nat):List Nat:=if Nat.ble 1000000000 md then I6 md else [gk md]
def zy (ops:Array Oper) (x y:Oper × Nat):Bool:=x.1.apart ops y.1 && (x.2 == 0 || y.2 == 0 || (decide (x.2≤1) && decide (y.2≤1)) || (rT y.1 && vZ x.1 && x.2 == 2 && y.2 == 2)
 || (M3 x.2 && M3 y.2 && !(gk x.2 == gk y.2)) || ((M4 x.2 || Nat.ble x.2 1) && (M4 y.2 || Nat.ble y.2 1)) || (rT y.1 && M3 x.2 && y.2 == 2) || (x.2 == 4 || y.2 == 4) || (Nat.ble 1000 x.2 && Nat.ble 1000 y.2 && (pE x.2).all fun i=>!(pE y.2).contains i))
theorem rX {m:Mem} {A B:Nat} {x y:LE} (h:A ≠ B):(m.put A x).put B y=(m.put B y).put A x:=by
 funext i
 simp only [Mem.put]
 by_cases h1:i=A
 ·subst h1; simp [h]
 ·simp [h1]
theorem qo {o:Oper} {ev:Operand→LV} {m m':Mem} {lv:LV} {t:TypeId} (ho:o.op=.alloc t) (h:∀ K':LV→Mem→Prop,K' lv m'→LOp P pr ro o ev m K') :
  ∃ z d,tzero P t=some z∧o.dst=some d∧m (100+d)=.none∧lv=.ptr (100+d) 0∧m'=m.put (100+d) (.box z.cells):=by
 have:=h (fun l mm=>lv=l∧m'=mm) ⟨rfl,rfl⟩
 simp only [LOp,ho] at this
 split at this
 ·rename_i z d hz hd
  exact ⟨z,d,hz,hd,this.1,this.2.1,this.2.2⟩
 ·exact this.elim
theorem CX {o:Oper} {ev:Operand→LV} {m m':Mem} {lv:LV} (hf:vZ o=true) (h:∀ K':LV→Mem→Prop,K' lv m'→LOp P pr ro o ev m K') {A:Nat} (hA:m' A=.none) (x:LE) :
  m A=.none∧∀ K':LV→Mem→Prop,K' lv (m'.put A x)→LOp P pr ro o ev (m.put A x) K':=by
 simp only [vZ,Bool.and_eq_true] at hf
 cases ho:o.op <;> simp only [ho] at hf <;> try (simp at hf; done)
 case alloc t =>
  obtain ⟨z,d,hz,hd,hm,rfl,rfl⟩:=qo ho h
  have eA:100+d ≠ A:=fun he=>by subst he; simp [Mem.put] at hA
  have Jh:m A=.none:=by simp only [Mem.put] at hA; rw [if_neg (Ne.symm eA)] at hA; exact hA
  refine ⟨Jh,fun K' hK=>?_⟩
  simp only [LOp,ho,hz,hd]
  refine ⟨by simp only [Mem.put]; rw [if_neg eA]; exact hm,?_⟩
  rw [rX (Ne.symm eA)]; exact hK
 case makeSlice t l c =>
  have:=h (fun l mm=>lv=l∧m'=mm) ⟨rfl,rfl⟩
  simp only [LOp,ho] at this
  split at this
  ·rename_i e z n n' d he hz hl hc hd
   obtain ⟨hn,h0,hb,hr,hp,hm,rfl,rfl⟩:=this
   have eA:100+d ≠ A:=fun he=>by subst he; simp [Mem.put] at hA
   have Jh:m A=.none:=by simp only [Mem.put] at hA; rw [if_neg (Ne.symm eA)] at hA; exact hA
   refine ⟨Jh,fun K' hK=>?_⟩
   simp only [LOp,ho]
   rw [hz,hl,hc,hd,he]
   refine ⟨hn,h0,hb,hr,hp,by simp only [Mem.put]; rw [if_neg eA]; exact hm,?_⟩
   rw [rX (Ne.symm eA)]; exact hK
  ·exact this.elim
 case call c =>
  obtain ⟨cl,args,ME⟩:=c
  cases cl <;> simp only at hf <;> try (simp at hf; done)
  case value y =>
   have:=h (fun l mm=>lv=l∧m'=mm) ⟨rfl,rfl⟩
   simp only [LOp,ho] at this
   cases hy:ev y <;> simp only [hy] at this
   case fn f cap =>
    obtain ⟨Rq,U6,mc,mJ,hc,h1,h2,h3,MO,h4,rfl,rfl⟩:=this
    have K7:mJ A=.none:=by
     cases hq:mJ A with
     | none=>rfl
     | some q=>simp [Mem.over,hq] at hA
    have Jh:m A=.none:=by simpa [Mem.over,K7] using hA
    have V6:mc A=.none:=by
     cases hq:mc A with
     | none=>rfl
     | some q=>have:=h1 A (by simp [hq]); rw [Jh,hq] at this; cases this
    refine ⟨Jh,fun K' hK=>?_⟩
    simp only [LOp,ho,hy]
    refine ⟨Rq,lv,mc,mJ,hc,fun id bB=>?_,fun id bB NV=>?_,h3,MO,h4,?_⟩
    ·have:id ≠ A:=fun he=>by subst he; exact bB V6
     simp only [Mem.put]; rw [if_neg this]; exact h1 id bB
    ·have:id ≠ A:=fun he=>by subst he; exact NV K7
     simp only [Mem.put]; rw [if_neg this]; exact h2 id bB NV
    ·have:(m.put A x).over mJ=(m.over mJ).put A x:=by
      funext i
      simp only [Mem.over,Mem.put]
      by_cases hi:i=A
      ·subst hi; simp [K7]
      ·simp only [hi,if_false]
     rw [this]; exact hK
def oi (P:Program) (pr:Nat→Prop) (ro:List Nat) (ops:Array Oper):List (Oper × Nat)→Env→Mem→Env→Mem→Prop
 | [],e,m,e',m'=>e'=e∧m'=m
 | (o,md) :: r,e,m,e',m'=>∃ lv m1,Out P pr ro ops o e md m lv m1∧oi P pr ro ops r (e.fM o.dst lv) m1 e' m'
theorem kJ:∀ (l:List (Oper × Nat)) {K:Env→Mem→Prop} {e:Env} {m:Mem},cA P pr ro ops l K e m→∃ e' m',K e' m'∧oi P pr ro ops l e m e' m'
 | [],K,e,m,h=>⟨e,m,h,rfl,rfl⟩
 | (o,md) :: r,K,e,m,h=>by
  simp only [cA] at h
  obtain ⟨lv,m1,h1,ho⟩:=Ai h
  obtain ⟨e',m',hK,hc⟩:=kJ r h1
  exact ⟨e',m',hK,lv,m1,ho,hc⟩
theorem Dy {e:Env} {x y:Option Nat} {u v:LV} (h:∀ d,x=some d→y ≠ some d):(e.fM x u).fM y v=(e.fM y v).fM x u:=by
 cases x with
 | none=>rfl
 | some a =>
  cases y with
  | none=>rfl
  | some b =>
   have mj:a ≠ b:=fun hh=>h a rfl (by rw [hh])
   funext i
   simp only [Env.fM,Env.put]
   by_cases h1:i=a
   ·subst h1; simp [mj]
   ·simp [h1]
theorem gX {e:Env} {o:Oper} {d:Option Nat} {v:LV} (h:∀ i,d=some i→i ∉ o.looksAt ops):∀ t ∈ o.looksAt ops,(e.fM d v) t=e t:=by
 intro t ht
 cases d with
 | none=>rfl
 | some i =>
  have:t ≠ i:=fun hh=>h i rfl (hh ▸ ht)
  simp [Env.fM,Env.put,this]
theorem tj {o:Oper} {e:Env} {md:Nat} {m m':Mem} {lv:LV} (h:Out P pr ro ops o e md m lv m') (AI:md≤1):m'=m:=by
 unfold Out at h
 split at h
 ·rcases h with ⟨h3,_⟩ | ⟨h3,_⟩ | ⟨g1,_⟩ | ⟨g1,_⟩ | ⟨_,h1,h2,_⟩
  ·omega
  ·omega
  ·omega
  ·omega
  ·rcases (by omega:md=0 ∨ md=1) with h0 | h0
   ·exact (h1 h0).1
   ·exact h2 h0
 ·exact h.2
 ·exact h.elim
theorem pZ {m:Mem} {i:Nat} {le:LE}:m.over (Mem.of [(i,le)])=m.put i le:=by
 funext j
 simp only [Mem.over,Mem.of,Mem.put]
 by_cases h:j=i <;> simp [h]
theorem GW {o:Oper} {e:Env} {md:Nat} {m m':Mem} {lv:LV} (h:Out P pr ro ops o e md m lv m') (AI:(M4 md || Nat.ble md 1)=true):m'=m:=by
 by_cases h1:md≤1
 ·exact tj h h1
 ·have hr:1000≤md∧md<100000:=by
   simp only [M4,Bool.or_eq_true,Bool.and_eq_true,Nat.ble_eq,Nat.blt_eq] at AI
   omega
  unfold Out at h
  split at h
  ·rcases h with ⟨h3,_⟩ | ⟨h3,_⟩ | ⟨_,_,h3,_⟩ | ⟨g1,_⟩ | ⟨g1,_⟩
   ·omega
   ·omega
   ·exact h3
   ·omega
   ·omega
  ·exact h.2
  ·exact h.elim
theorem rO {o:Oper} {e:Env} {md:Nat} {m m':Mem} {lv:LV} (h:Out P pr ro ops o e md m lv m') (AI:M3 md=true):(m'=m∧gd ops o e=some false∧lv=.cV []) ∨ ∃ le oW,m (gk md)=some le∧m'=m.put (gk md) oW∧∀ m0:Mem,m0 (gk md)=some le→Out P pr ro ops o e md m0 lv (m0.put (gk md) oW):=by
 have Ur:1000≤md∧md<1000000000:=by simpa [M3] using AI
 have hh:=h
 unfold Out at h
 split at h
 ·rename_i hg
  rcases h with ⟨h3,_⟩ | ⟨h3,_⟩ | ⟨g1,g2,g3,le,g4,g5⟩ | ⟨g1,le,oW,g2,g3,g4⟩ | ⟨g1,_⟩
  ·omega
  ·omega
  ·right
   have self:∀ m0:Mem,m0 (gk md)=some le→m0.put (gk md) le=m0:=fun m0 h0=>by
    funext j; simp only [Mem.put]; split
    ·rename_i hj; subst hj; exact h0.symm
    ·rfl
   refine ⟨le,le,g4,by rw [g3,self m g4],fun m0 h0=>?_⟩
   rw [self m0 h0]
   unfold Out
   rw [hg]
   exact .inr (.inr (.inl ⟨g1,g2,rfl,le,h0,g5⟩))
  ·right
   refine ⟨le,oW,g2,by rw [g3,pZ],fun m0 h0=>?_⟩
   unfold Out
   rw [hg]
   exact .inr (.inr (.inr (.inl ⟨g1,le,oW,h0,by rw [pZ],g4⟩)))
  ·omega
 ·rename_i hg; exact .inl ⟨h.2,hg,h.1⟩
 ·exact h.elim
theorem Out.skip {o:Oper} {e:Env} {md:Nat} {m:Mem} (hg:gd ops o e=some false):Out P pr ro ops o e md m (.cV []) m:=by
 unfold Out; rw [hg]; exact ⟨rfl,rfl⟩
theorem xG {o:Oper} {e:Env} {md:Nat} {m m':Mem} {lv:LV} (h:Out P pr ro ops o e md m lv m') (AI:1000≤md):(∀ i,i ∉ pE md→m' i=m i)∧∀ m0:Mem,(∀ i,i ∈ pE md→m0 i=m i)→Out P pr ro ops o e md m0 lv (fun i=>if i ∈ pE md then m' i else m0 i):=by
 by_cases hd:md<1000000000
 ·have hf:pE md=[gk md]:=by
   have:Nat.ble 1000000000 md=false:=by
    cases hb:Nat.ble 1000000000 md with
    | false=>rfl
    | true=>have:=Nat.le_of_ble_eq_true hb; omega
   simp [pE,this]
  rw [hf]
  rcases rO h (by simp [M3]; omega) with ⟨rfl,hg,rfl⟩ | ⟨le,oW,g1,rfl,g3⟩
  ·refine ⟨fun _ _=>rfl,fun m0 pM=>?_⟩
   have:(fun i=>if i ∈ [gk md] then m' i else m0 i)=m0:=by
    funext i
    by_cases hi:i ∈ [gk md]
    ·simp [hi,pM i hi]
    ·simp [hi]
   rw [this]; exact Out.skip hg
  ·refine ⟨fun i hi=>by simp at hi; simp [Mem.put,hi],fun m0 pM=>?_⟩
   have:=g3 m0 (by rw [pM _ (by simp)]; exact g1)
   refine Eq.mp (congrArg _ ?_) this
   funext i
   by_cases hi:i=gk md
   ·subst hi; simp [Mem.put]
   ·simp [Mem.put,hi]
 ·have hf:pE md=I6 md:=by
   have:Nat.ble 1000000000 md=true:=Nat.ble_eq_true_of_le (by omega)
   simp [pE,this]
  rw [hf]
  have hh:=h
  unfold Out at h
  split at h
  ·rename_i hg
   rcases h with ⟨h3,_⟩ | ⟨h3,_,h4⟩ | ⟨g1,g2,_⟩ | ⟨g1,_⟩ | ⟨g1,_⟩
   ·omega
   ·have h4:=h4 (by omega)
    refine ⟨h4.1,fun m0 pM=>?_⟩
    unfold Out
    rw [hg]
    refine .inr (.inl ⟨.inr (by omega),fun h=>by omega,fun _=>⟨fun i hi=>by simp [hi],fun m1 iH=>?_⟩⟩)
    have:=h4.2 m1 (fun i hi=>(iH i hi).trans (pM i hi))
    refine Eq.mp (congrArg _ ?_) this
    funext i
    by_cases hi:i ∈ I6 md <;> simp [hi]
   ·omega
   ·omega
   ·omega
  ·rename_i hg
   obtain ⟨rfl,rfl⟩:=h
   refine ⟨fun _ _=>rfl,fun m0 pM=>?_⟩
   have:(fun i=>if i ∈ I6 md then m' i else m0 i)=m0:=by
    funext i
    by_cases hi:i ∈ I6 md
    ·simp [hi,pM i hi]
    ·simp [hi]
   rw [this]; unfold Out; rw [hg]; exact ⟨rfl,rfl⟩
  ·exact h.elim
theorem F1 {o:Oper} {e:Env} {m m':Mem} {lv:LV} (h:Out P pr ro ops o e 4 m lv m'):m'=m∧∀ m0,Out P pr ro ops o e 4 m0 lv m0:=by
 have hh:=h
 unfold Out at h
 split at h
 ·rename_i hg
  rcases h with ⟨_,h1,h2⟩ | ⟨h3,_⟩ | ⟨g1,_⟩ | ⟨g1,_⟩ | ⟨g1,_⟩
  ·refine ⟨h1,fun m0=>?_⟩
   unfold Out
   rw [hg]
   exact .inl ⟨rfl,rfl,h2⟩
  ·omega
  ·omega
  ·omega
  ·omega
 ·rename_i hg
  refine ⟨h.2,fun m0=>?_⟩
  unfold Out
  rw [hg]
  exact ⟨h.1,rfl⟩
 ·exact h.elim
theorem Out.any {o:Oper} {e:Env} {m m' m0:Mem} {lv:LV} (h:Out P pr ro ops o e 0 m lv m'):Out P pr ro ops o e 0 m0 lv m0:=by
 unfold Out at h ⊢
 split at h
 ·rename_i hg
  rcases h with ⟨h3,_⟩ | ⟨h3,_⟩ | ⟨g1,_⟩ | ⟨g1,_⟩ | ⟨_,h1,h2,h3⟩
  ·omega
  ·omega
  ·omega
  ·omega
  ·exact .inr (.inr (.inr (.inr ⟨by simp,fun _=>⟨rfl,(h1 rfl).2⟩,by simp,fun K' hK=>(h1 rfl).2 m0 K' hK⟩)))
 ·exact ⟨h.1,rfl⟩
 ·exact h.elim
theorem Hb {x y:Oper × Nat} (hs:zy ops x y=true) {r:List (Oper × Nat)} {e e':Env} {m m':Mem} (h:oi P pr ro ops (x :: y :: r) e m e' m'):oi P pr ro ops (y :: x :: r) e m e' m':=by
 obtain ⟨o,a⟩:=x
 obtain ⟨q,b⟩:=y
 simp only [zy,Bool.and_eq_true,Bool.or_eq_true,beq_iff_eq,decide_eq_true_eq] at hs
 obtain ⟨KC,AI⟩:=hs
 obtain ⟨VI,VJ,MQ⟩:=Oper.apart_spec KC
 obtain ⟨lv,m1,ho,xq,m2,hq,hc⟩:=h
 have pk:Out P pr ro ops q e b m1 xq m2:=hq.congr (gX VI)
 have rB:Out P pr ro ops o (e.fM q.dst xq) a m lv m1:=ho.congr fun t ht=>(gX MQ t ht).symm
 rw [Dy VJ] at hc
 rcases AI with (((((((h0 | h0) | ⟨h1,h2⟩) | ⟨⟨⟨zV,MR⟩,Sf⟩,KG⟩) | ⟨⟨hx,hy⟩,eA⟩) | ⟨hx,hy⟩) | ⟨⟨zV,hx⟩,KG⟩) | h4) | ⟨⟨hx,hy⟩,sV⟩
 ·subst h0
  have:=tj ho (by omega)
  subst this
  exact ⟨xq,m2,pk,lv,m2,rB.any,hc⟩
 ·subst h0
  have:=tj hq (by omega)
  subst this
  exact ⟨xq,m,pk.any,lv,m2,rB,hc⟩
 ·have e1:=tj ho h1
  have e2:=tj hq h2
  subst e1; subst e2
  exact ⟨xq,m2,pk,lv,m2,rB,hc⟩
 ·subst Sf; subst KG
  have Si:=zV
  have St:=MR
  simp only [rT,vZ,Bool.and_eq_true,Option.isNone_iff_eq_none] at zV MR
  have Jb:∀ e,gd ops o e=some true:=fun e=>by simp [gd,MR.2]
  have NS:∀ e,gd ops q e=some true:=fun e=>by simp [gd,zV.2]
  unfold Out at pk rB
  simp only [Jb,NS] at pk rB
  replace pk:=((((pk.resolve_left (fun h3=>by omega)).resolve_left (fun h3=>by have:=h3.1; omega)).resolve_left (fun h3=>by omega)).resolve_left (fun h3=>by omega)).2
  replace rB:=((((rB.resolve_left (fun h3=>by omega)).resolve_left (fun h3=>by have:=h3.1; omega)).resolve_left (fun h3=>by omega)).resolve_left (fun h3=>by omega)).2
  cases Eh:q.op <;> simp only [Eh] at zV <;> try (simp at zV; done)
  case alloc t =>
   obtain ⟨z,d,hz,hd,iH,rfl,rfl⟩:=qo Eh pk.2.2
   obtain ⟨Jh,Su⟩:=CX St rB.2.2 iH (.box z.cells)
   refine ⟨.ptr (100+d) 0,m.put (100+d) (.box z.cells),?_,lv,m1.put (100+d) (.box z.cells),?_,hc⟩
   ·unfold Out
    simp only [NS]
    refine .inr (.inr (.inr (.inr ⟨by simp,by simp,by simp,fun K' hK=>?_⟩)))
    simp only [LOp,Eh,hz,hd]
    exact ⟨Jh,hK⟩
   ·unfold Out
    simp only [Jb]
    exact .inr (.inr (.inr (.inr ⟨by simp,by simp,by simp,Su⟩)))
 ·have AL:gk a ≠ gk b:=by simpa using eA
  rcases rO ho hx with ⟨rfl,hg,rfl⟩ | ⟨le,oW,g1,rfl,g3⟩
  ·exact ⟨xq,m2,pk,_,m2,Out.skip (by rw [wa (ops:=ops) (o:=o) (e:=e.fM q.dst xq) (e':=e) (gX MQ)]; exact hg),hc⟩
  ·rcases rO pk hy with ⟨rfl,hg,rfl⟩ | ⟨lf,TS,k1,rfl,k3⟩
   ·exact ⟨_,m,Out.skip hg,lv,_,rB,hc⟩
   ·have WG:m (gk b)=some lf:=by simpa [Mem.put,Ne.symm AL] using k1
    refine ⟨xq,m.put (gk b) TS,k3 m WG,lv,(m.put (gk b) TS).put (gk a) oW,?_,by rw [rX (Ne.symm AL)]; exact hc⟩
    exact (g3 (m.put (gk b) TS) (by simpa [Mem.put,AL] using g1)).congr fun t ht=>(gX MQ t ht).symm
 ·have e1:=GW ho (by simpa using hx)
  have e2:=GW hq (by simpa using hy)
  subst e1; subst e2
  exact ⟨xq,m2,pk,lv,m2,rB,hc⟩
 ·subst KG
  have Si:=zV
  simp only [rT,Bool.and_eq_true,Option.isNone_iff_eq_none] at zV
  have NS:∀ e,gd ops q e=some true:=fun e=>by simp [gd,zV.2]
  unfold Out at pk
  simp only [NS] at pk
  replace pk:=((((pk.resolve_left (fun h3=>by omega)).resolve_left (fun h3=>by have:=h3.1; omega)).resolve_left (fun h3=>by omega)).resolve_left (fun h3=>by omega)).2
  cases Eh:q.op <;> simp only [Eh] at zV <;> try (simp at zV; done)
  case alloc t =>
   obtain ⟨z,d,hz,hd,iH,rfl,rfl⟩:=qo Eh pk.2.2
   have NB:∀ m0:Mem,m0 (100+d)=.none→Out P pr ro ops q e 2 m0 (.ptr (100+d) 0) (m0.put (100+d) (.box z.cells)):=fun m0 h0=>by
    unfold Out
    simp only [NS]
    refine .inr (.inr (.inr (.inr ⟨by simp,by simp,by simp,fun K' hK=>?_⟩)))
    simp only [LOp,Eh,hz,hd]
    exact ⟨h0,hK⟩
   rcases rO ho hx with ⟨rfl,hg,rfl⟩ | ⟨le,oW,g1,rfl,g3⟩
   ·exact ⟨_,_,NB _ iH,_,_,Out.skip (by rw [wa (ops:=ops) (o:=o) (e':=e) (gX MQ)]; exact hg),hc⟩
   ·have AL:gk a ≠ 100+d:=fun h=>by rw [← h] at iH; simp [Mem.put] at iH
    have pM:m (100+d)=.none:=by simpa [Mem.put,Ne.symm AL] using iH
    refine ⟨_,_,NB m pM,lv,(m.put (100+d) (.box z.cells)).put (gk a) oW,?_,by rw [rX (Ne.symm AL)]; exact hc⟩
    exact (g3 (m.put (100+d) (.box z.cells)) (by simpa [Mem.put,AL] using g1)).congr fun t ht=>(gX MQ t ht).symm
 ·rcases h4 with h4 | h4
  ·subst h4
   obtain ⟨rfl,my⟩:=F1 rB
   exact ⟨xq,m2,pk,lv,m2,my m2,hc⟩
  ·subst h4
   obtain ⟨rfl,my⟩:=F1 pk
   exact ⟨xq,m,my m,lv,_,rB,hc⟩
 ·obtain ⟨f1,f2⟩:=xG ho (by simpa using hx)
  obtain ⟨k1,k2⟩:=xG pk (by simpa using hy)
  have Sq:∀ i,i ∈ pE a→i ∉ pE b:=fun i hi=>by simpa using List.all_eq_true.1 sV i hi
  refine ⟨xq,_,k2 m (fun i hi=>(f1 i (fun hj=>Sq i hj hi)).symm),lv,m2,?_,hc⟩
  have:=f2 (fun i=>if i ∈ pE b then m2 i else m i) (fun i hi=>by simp [Sq i hi])
  refine (Eq.mp (congrArg _ ?_) this).congr fun t ht=>(gX MQ t ht).symm
  funext i
  by_cases h1:i ∈ pE a
  ·simp [h1,k1 i (Sq i h1)]
  ·by_cases h2:i ∈ pE b
   ·simp [h1,h2]
   ·simp [h1,h2,k1 i h2,f1 i h1]
theorem oZ {y:Oper × Nat}:∀ (l r:List (Oper × Nat)) {e e':Env} {m m':Mem},(∀ x ∈ l,zy ops x y=true)→oi P pr ro ops (l++y :: r) e m e' m'→oi P pr ro ops (y :: (l++r)) e m e' m'
 | [],r,e,e',m,m',_,h=>h
 | x :: l,r,e,e',m,m',hs,h=>by
  obtain ⟨o,a⟩:=x
  obtain ⟨lv,m1,ho,hc⟩:=h
  have:=oZ l r (fun z hz=>hs z (by simp [hz])) hc
  exact Hb (hs _ (by simp)) ⟨lv,m1,ho,this⟩
theorem xx {o:Oper} {md:Nat} {e:Env} {m m':Mem} {lv:LV} (hd:∀ q ∈ ops,∀ i,q.dst=some i→i<N) (H4:∀ i,o.dst=some i→i<N) (h:Out P pr ro ops o e md m lv m') (c:Cx) (a:Act) (R:Act→World→Prop) (Q:Exit→Act→World→Prop) (hr:mw N c e m a)
  (hR:∀ a' (c':Cx),mw N c' (e.fM o.dst lv) m' a'→Step pr c c'→R a' c'.w) :
  if Region.wanted o (yielded ops a.tmps) then o.wp P a c.w R Q ∨ (o.asks P a c.w∧LetsOut Q) else R (a.put o.dst undef) c.w:=by
 have Jo:∀ b,gd ops o e=some b→Region.wanted o (yielded ops a.tmps)=b:=by
  intro b hb
  unfold gd at hb
  split at hb
  ·rename_i hg; cases hb; simp [Region.wanted,hg]
  ·rename_i j want hg
   split at hb
   ·rename_i g hj
    cases ht:e g <;> simp only [ht] at hb
    case bool t=>cases hb; exact nV hr hd hg hj ht
    case cV vs =>
     cases vs with
     | cons x xs=>cases hb
     | nil=>cases hb; exact rl hr hd hg hj ht
    all_goals cases hb
   ·cases hb
 unfold Out at h
 split at h
 ·rename_i hg
  rw [Jo true hg,if_pos rfl]
  have hL:(∀ K':LV→Mem→Prop,K' lv m'→LOp P pr ro o (da e) m K')→(o.wp P a c.w R Q ∨ (o.asks P a c.w∧LetsOut Q)):=fun hh=>by
   obtain ⟨U6,m0,⟨rfl,rfl⟩,gD⟩:=ll (hh (fun l mm=>l=lv∧mm=m') ⟨rfl,rfl⟩)
   left
   refine Oper.wp_mono ?_ (gD c a Q hr.ev hr.mem)
   rintro a' w' ⟨v,c',rfl,rfl,hv,iO,hs⟩
   exact hR _ c' (hr.put hs iO H4 hv) hs
  rcases h with ⟨_,rfl,gD⟩ | ⟨h3,gD,hf⟩ | ⟨_,_,rfl,le,g4,g5⟩ | ⟨_,le,oW,g2,rfl,g4⟩ | ⟨_,h⟩
  ·left
   refine Oper.wp_mono ?_ (gD _ c a Q (fun x _=>hr.ev x) hr.mem)
   rintro a' w' ⟨v,c',rfl,rfl,hv,iO,hs⟩
   exact hR _ c' (hr.put hs iO H4 hv) hs
  ·left
   refine Oper.wp_mono ?_ ((h3.elim gD (fun h=>(hf h).ok)) c a Q (fun x _=>hr.ev x) hr.mem)
   rintro a' w' ⟨v,c',rfl,rfl,hv,iO,hs⟩
   exact hR _ c' (hr.put hs iO H4 hv) hs
  ·exact hL fun K' hK=>g5 _ g4 K' hK
  ·exact hL fun K' hK=>g4 m g2 K' hK
  obtain ⟨U6,m0,⟨rfl,rfl⟩,gD⟩:=ll (h.2.2 (fun l mm=>l=lv∧mm=m') ⟨rfl,rfl⟩)
  left
  refine Oper.wp_mono ?_ (gD c a Q hr.ev hr.mem)
  rintro a' w' ⟨v,c',rfl,rfl,hv,iO,hs⟩
  exact hR _ c' (hr.put hs iO H4 hv) hs
 ·rename_i hg
  obtain ⟨rfl,rfl⟩:=h
  rw [Jo false hg,if_neg (by simp)]
  exact hR _ c (hr.put (Step.refl pr c) hr.mem H4 (pb c)) (Step.refl pr c)
 ·exact h.elim
def ahead (ops:Array Oper):Nat→Nat→Nat→Bool
 | 0,_,_=>false
 | f+1,k,i=>((ops[i]?).map fun o=>o.after.toList.any fun e=>Region.binds .any e && (e.on == k || ahead ops f k e.on)).getD false
def Ar (ops:Array Oper) (et:List Nat):Bool :=
 (List.range ops.size).all fun i=>match ops[i]? with
  | some o=>(o.after.toList.all fun e=>!Region.binds .any e || decide (e.on<i)) && (List.range i).all fun k=>match ops[k]? with
   | some q=>zy ops (q,et.getD k 2) (o,et.getD i 2) || ahead ops 6 k i
   | .none=>true
  | .none=>true
theorem jR {aR:Array Bool} (lO:∀ i o,ops[i]?=some o→aR.getD i true=true→∀ e ∈ o.after,Region.binds .any e=true→aR.getD e.on false=true) (eH:aR.size=ops.size):∀ (f k i:Nat) (o:Oper),ops[i]?=some o→(∀ e ∈ o.after,Region.binds .any e=true→aR.getD e.on false=true)→ahead ops f k i=true→aR.getD k false=true
 | 0,k,i,o,_,_,h=>by simp [ahead] at h
 | f+1,k,i,o,ho,qt,h=>by
  simp only [ahead,ho,Option.map_some,Option.getD_some,List.any_eq_true,Bool.and_eq_true,Bool.or_eq_true,beq_iff_eq] at h
  obtain ⟨e,he,hb,hk⟩:=h
  have he:e ∈ o.after:=by simpa using he
  have hl:=qt e he hb
  rcases hk with hk | hk
  ·subst hk; exact hl
  ·have ec:e.on<aR.size:=by
    rcases Nat.lt_or_ge e.on aR.size with h' | h'
    ·exact h'
    ·simp [Array.getElem?_eq_none h'] at hl
   have Wd:∃ q,ops[e.on]?=some q:=⟨ops[e.on]'(by omega),by simp [eH ▸ ec]⟩
   obtain ⟨q,hq⟩:=Wd
   exact jR lO eH f k e.on q hq (lO e.on q hq (by simpa [ec] using hl)) hk
def left (ops:Array Oper) (aR:Array Bool):List Nat:=(List.range ops.size).filter fun i=>!aR.getD i true
theorem LH.Cz {id:Nat} {l:List Oper} {Q:Exit→Env→Mem→Prop} {e e':Env} {m m':Mem} (AJ:P.follows .mixedOrders=true) (ro:List Nat) (et:List Nat) (hd:oK N l=true) (gD:Ar l.toArray et=true)
  (hc:oi P pr ro l.toArray ((List.range l.length).map fun i=>(l.getD i default,et.getD i 2)) e m e' m') (hK:Q .normal e' m'):LH P N pr (.region id l.toArray true) Q e m:=by
 refine ⟨.normal,e',m',fun c a hr=>?_,hK⟩
 refine wp_region_any AJ ?_
 have NL:=rP hd
 have key : ∀ (fuel : Nat) (aR : Array Bool) (e0 : Env) (m0 : Mem) (c0 : Cx) (a0 : Act), aR.size = l.toArray.size → (left l.toArray aR).length ≤ fuel →
   (∀ i o,l.toArray[i]?=some o→aR.getD i true=true→∀ e ∈ o.after,Region.binds .any e=true→aR.getD e.on false=true) →
   oi P pr ro l.toArray ((left l.toArray aR).map fun i=>(l.getD i default,et.getD i 2)) e0 m0 e' m'→mw N c0 e0 m0 a0→Grow pr c c0 →
   wpAny P .any l.toArray (fun x a' w'=>x=.normal∧∃ c':Cx,c'.w=w'∧mw N c' e' m' a'∧Grow pr c c') fuel aR a0 c0.w:=by
  have xN:=List.all_eq_true.1 gD
  have oU:∀ aR:Array Bool,∀ i ∈ Region.ready .any l.toArray aR,i ∈ left l.toArray aR∧∀ o,l.toArray[i]?=some o→∀ e ∈ o.after,Region.binds .any e=true→aR.getD e.on false=true:=by
   intro aR i hi
   unfold Region.ready at hi
   simp only [List.mem_filter,Bool.and_eq_true] at hi
   refine ⟨by unfold left; exact List.mem_filter.2 ⟨hi.1,hi.2.1⟩,fun o ho e he hb=>?_⟩
   have h2:=hi.2.2
   rw [ho] at h2
   simp only [Option.map_some,Option.getD_some] at h2
   have:=(Array.all_eq_true_iff_forall_mem.1 h2) e he
   simpa [hb] using this
  have mR:∀ (aR:Array Bool) (e0:Env) (m0:Mem) (c0:Cx) (a0:Act),left l.toArray aR=[]→oi P pr ro l.toArray ((left l.toArray aR).map fun i=>(l.getD i default,et.getD i 2)) e0 m0 e' m'→mw N c0 e0 m0 a0→Grow pr c c0→(∃ c':Cx,c'.w=c0.w∧mw N c' e' m' a0∧Grow pr c c'):=by
   intro aR e0 m0 c0 a0 hl zW Fs wi
   rw [hl] at zW
   obtain ⟨rfl,rfl⟩:=zW
   exact ⟨c0,rfl,Fs,wi⟩
  intro fuel
  induction fuel with
  | zero =>
   intro aR e0 m0 c0 a0 eH hlen lO zW Fs wi
   have hl:left l.toArray aR=[]:=List.eq_nil_of_length_eq_zero (by omega)
   refine ⟨?_,rfl,mR aR e0 m0 c0 a0 hl zW Fs wi⟩
   rw [List.eq_nil_iff_forall_not_mem]
   intro i hi
   have:=(oU aR i hi).1
   rw [hl] at this; cases this
  | succ fuel ih =>
   intro aR e0 m0 c0 a0 eH hlen lO zW Fs wi
   have Fp:(left l.toArray aR).Pairwise (·<·):=by unfold left; exact List.Pairwise.filter _ List.pairwise_lt_range
   refine ⟨fun pN=>?_,fun i hi=>?_⟩
   ·refine ⟨rfl,mR aR e0 m0 c0 a0 ?_ zW Fs wi⟩
    cases hl:left l.toArray aR with
    | nil=>rfl
    | cons i r =>
     exfalso
     have xS:i ∈ left l.toArray aR:=by rw [hl]; simp
     have gI:=xS
     unfold left at gI
     simp only [List.mem_filter,List.mem_range] at gI
     have ec:=gI.1
     have s8:l.toArray[i]?=some (l.toArray[i]'ec):=by simp [ec]
     have NX:i ∈ Region.ready .any l.toArray aR:=by
      unfold Region.ready
      simp only [List.mem_filter,List.mem_range,Bool.and_eq_true]
      refine ⟨ec,gI.2,?_⟩
      rw [s8]
      simp only [Option.map_some,Option.getD_some]
      rw [Array.all_eq_true_iff_forall_mem]
      intro e he
      by_cases hb:Region.binds .any e=true
      ·have h1:=xN i (by simpa using ec)
       rw [s8] at h1
       simp only [Bool.and_eq_true,List.all_eq_true] at h1
       have h2:=h1.1 e (by simpa using he)
       simp only [hb,Bool.not_true,Bool.false_or,decide_eq_true_eq] at h2
       have h3:e.on ∉ left l.toArray aR:=by
        rw [hl]
        intro hm
        rw [hl] at Fp
        rcases List.mem_cons.1 hm with h4 | h4
        ·omega
        ·have:=(List.pairwise_cons.1 Fp).1 _ h4; omega
       unfold left at h3
       simp only [List.mem_filter,List.mem_range,not_and] at h3
       have h4:=h3 (by omega)
       have h5:e.on<aR.size:=by omega
       simp only [hb,Bool.not_true,Bool.false_or]
       simpa [h5] using h4
      ·simp [hb]
     rw [pN] at NX; cases NX
   ·obtain ⟨xS,qt⟩:=oU aR i hi
    have gI:=xS
    unfold left at gI
    simp only [List.mem_filter,List.mem_range] at gI
    have ec:=gI.1
    have K1:i<l.length:=by simpa using ec
    have s8:l.toArray[i]?=some (l.getD i default):=by simp [K1]
    obtain ⟨pre,post,jG⟩:=List.append_of_mem xS
    rw [jG] at Fp
    have tb:∀ k ∈ pre,k<i:=fun k hk=>(List.pairwise_append.1 Fp).2.2 k hk i (by simp)
    have wm:∀ k ∈ post,i<k:=fun k hk=>(List.pairwise_cons.1 (List.pairwise_append.1 Fp).2.1).1 k hk
    have s6:left l.toArray (aR.setIfInBounds i true)=pre++post:=by
     have e1:left l.toArray (aR.setIfInBounds i true)=(left l.toArray aR).filter fun k=>k != i:=by
      unfold left
      rw [List.filter_filter]
      apply List.filter_congr
      intro k hk
      by_cases xT:k=i
      ·subst xT
       have:k<aR.size:=by omega
       simp [this]
      ·simp [Array.getElem?_setIfInBounds_ne (Ne.symm xT),xT]
     rw [e1,jG,List.filter_append,List.filter_cons]
     simp only [bne_self_eq_false,Bool.false_eq_true,if_false]
     rw [List.filter_eq_self.2 (fun k hk=>by have:=tb k hk; simp; omega),List.filter_eq_self.2 (fun k hk=>by have:=wm k hk; simp; omega)]
    rw [jG,List.map_append,List.map_cons] at zW
    have AG:=oZ _ _ (by
     intro x hx
     simp only [List.mem_map] at hx
     obtain ⟨k,hk,rfl⟩:=hx
     have h1:=xN i (by simpa using ec)
     rw [s8] at h1
     simp only [Bool.and_eq_true,List.all_eq_true] at h1
     have xT:=tb k hk
     have h2:=h1.2 k (by simpa using xT)
     have Fj:l.toArray[k]?=some (l.getD k default):=by simp [show k<l.length by omega]
     rw [Fj] at h2
     simp only [Bool.or_eq_true] at h2
     rcases h2 with h2 | h2
     ·exact h2
     ·exfalso
      have h3:=jR lO eH 6 k i _ s8 (qt _ s8) h2
      have h4:k ∈ left l.toArray aR:=by rw [jG]; simp [hk]
      unfold left at h4
      simp only [List.mem_filter,List.mem_range] at h4
      have h5:k<aR.size:=by omega
      have h6:=h4.2
      simp [h5] at h3 h6
      rw [h3] at h6; cases h6) zW
    obtain ⟨lv,m1,oT,jP⟩:=AG
    unfold wpOp
    rw [s8]
    simp only
    refine xx NL (NL _ (Array.mem_of_getElem? s8)) oT c0 a0 _ _ Fs ?_
    intro a' c' rD Fy
    refine ih (aR.setIfInBounds i true) _ m1 c' a' (by simpa using eH) ?_ ?_ ?_ rD (wi.trans Fy.grow)
    ·rw [s6]
     rw [jG] at hlen
     simp at hlen ⊢; omega
    ·intro j o N9 hj e he hb
     have iP:∀ q,aR.getD q false=true→(aR.setIfInBounds i true).getD q false=true:=by
      intro q hq
      by_cases Od:q=i
      ·subst Od
       have:q<aR.size:=by omega
       simp [this]
      ·simpa [Array.getElem?_setIfInBounds_ne (Ne.symm Od)] using hq
     apply iP
     by_cases Ef:j=i
     ·subst Ef; exact qt o N9 e he hb
     ·refine lO j o N9 ?_ e he hb
      simpa [Array.getElem?_setIfInBounds_ne (Ne.symm Ef)] using hj
    ·rw [s6,List.map_append]; exact jP
 have iy:left l.toArray (Array.replicate l.toArray.size false)=List.range l.length:=by
  unfold left
  rw [List.filter_eq_self.2]
  ·simp
  ·intro i hi
   simp at hi
   simp [hi]
 have rD:mw N ⟨{ c.w with drawn:=c.w.drawn+1 },c.B,c.O,c.Q⟩ e m a:=by
  obtain ⟨iH,Td⟩:=hr.mem.ext (pr:=pr) { c.w with drawn:=c.w.drawn+1 } rfl rfl rfl (Nat.le_succ _) (Nat.le_refl _) (fun _ _=>rfl)
  exact ⟨fun i=>Td.wS (hr.env i),iH,hr.size,hr.defers⟩
 have sW:Grow pr c ⟨{ c.w with drawn:=c.w.drawn+1 },c.B,c.O,c.Q⟩:=(hr.mem.ext (pr:=pr) { c.w with drawn:=c.w.drawn+1 } rfl rfl rfl (Nat.le_succ _) (Nat.le_refl _) (fun _ _=>rfl)).2.grow
 refine key l.toArray.size (Array.replicate l.toArray.size false) e m ⟨{ c.w with drawn:=c.w.drawn+1 },c.B,c.O,c.Q⟩ a (by simp) (by rw [iy]; simp) ?_ (by rw [iy]; exact hc) rD sW
 intro i o ho hl
 have:i<l.toArray.size:=by
  rcases Nat.lt_or_ge i l.toArray.size with h' | h'
  ·exact h'
  ·simp at h'; simp [List.getElem?_eq_none h'] at ho
 simp at this
 simp [this] at hl
theorem qJ (l:List Oper) (et:List Nat) (h:et.length=l.length):((List.range l.length).map fun i=>(l.getD i default,et.getD i 2))=l.zip et:=by
 apply List.ext_getElem?
 intro i
 simp only [List.getElem?_map,List.zip,List.getElem?_zipWith]
 by_cases hi:i<l.length
 ·have gx:i<et.length:=by omega
  simp [hi,gx]
 ·simp [hi]
theorem LH.cO {id:Nat} {l:List Oper} {y:Code} {Q:Exit→Env→Mem→Prop} {e:Env} {m:Mem} (AJ:P.follows .mixedOrders=true) (ro:List Nat) (et:List Nat) (el:List (Nat × LV)) (ml:List (Nat × LE)) (hlen:et.length=l.length) (hd:oK N l=true) (gD:Ar l.toArray et=true)
  (h:cA P pr ro l.toArray (l.zip et) (fun e m=>Wk pr e m (Env.of el) (Mem.of ml)) e m) (hr:LH P N pr y Q (Env.of el) (Mem.of ml)):LH P N pr (.seq (.region id l.toArray true) y) Q e m:=by
  obtain ⟨e',m',hK,hc⟩:=kJ _ h
  rw [← qJ l et hlen] at hc
  exact LH.seq (LH.Cz AJ ro et hd gD hc (LH.wk hK hr))
section
variable {e:Env} {m:Mem} {d:Option Nat} {ty:TypeId} {pos:String} {af:Array Edge} {K:Env→Mem→Prop}
theorem sk (op:Op) (md j:Nat) (want:Bool):fX P pr ro ops md ⟨d,op,ty,pos,af,some (j,want)⟩ K e m=match (ops[j]?).bind (·.dst) with
  | some q=>match e q with
   | .bool t=>if t=want then fX P pr ro ops md ⟨d,op,ty,pos,af,.none⟩ K e m else K (e.fM d (.cV [])) m
   | .cV []=>K (e.fM d (.cV [])) m
   | _=>False
  | .none=>False:=by
 unfold fX
 simp only [gd]
 cases hq:(ops[j]?).bind (·.dst) with
 | none=>rfl
 | some q =>
  simp only
  cases he:e q
  case cV vs=>cases vs <;> rfl
  case bool t =>
   simp only
   by_cases ht:t=want
   ·subst ht
    simp only [beq_self_eq_true,if_true]
    split <;> first | exact CK .. | rfl
   ·have:(t == want)=false:=by simpa using ht
    simp only [this,ht,if_false]
  all_goals rfl
where
 CK {P:Program} {pr:Nat→Prop} {ro:List Nat} {d:Option Nat} {op:Op} {ty:TypeId} {pos:String} {af:Array Edge} {g g':Option (Nat × Bool)} {ev:Operand→LV} {m:Mem} {K:LV→Mem→Prop}:LOp P pr ro ⟨d,op,ty,pos,af,g⟩ ev m K=LOp P pr ro ⟨d,op,ty,pos,af,g'⟩ ev m K:=rfl
end
attribute [go_sem] List.zip_cons_cons List.zip_nil_left List.getElem?_toArray Option.bind_some
end
end Go.L
