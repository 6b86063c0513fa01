import Derived.Below
import Derived.Orders
import Derived.Deep.MidRow
import Derived.Laws.AppendOwn
import Derived.Laws.AppendOwnNone
import Derived.Laws.StructEq
import Derived.KernelRfl
import Derived.Laws.MakeOwn
import Derived.Laws.OwnMore
import Derived.Great.BuildSlice
import Derived.Deep.LoopGhost
set_option linter.unusedVariables false
set_option linter.unusedSimpArgs false
namespace Go.L
theorem pA (w:World) (o:Obj) (i:Nat) (h:i<w.heap.size):(w.alloc o).heap[i]?=w.heap[i]?:=by
 show (w.heap.push o)[i]?=_
 rw [Array.getElem?_push_lt h,Array.getElem?_eq_getElem h]
inductive LV where
 | eF
 | int (k:IntKind) (n:Int)
 | bool (b:Bool)
 | nil
 | fh
 | ak (k:Nat) (xs:List LV)
 | ag (cs:List LV)
 | arr (id n:Nat)
 | ptr (id o:Nat)
 | bJ (id n i o:Nat)
 | agg (cs:List LV)
 | cX (vs:List LV)
 | fn (f:Nat) (cap:List LV)
 /-- a slice of Hd the length alone is known -/
 | pS (n:Nat)
 /-- a slice IA reads as xs,with no room behind,never written -/
 | full (k:Nat) (xs:List LV)
 | str (s:ByteArray)
 /-- the address of an iterator -/
 | it (r:Nat)
 /-- no function -/
 | mj
 /-- a function with UI first arguments -/
 | vE (f:Nat) (fs:List LV)
 | mp (id:Nat)
 /-- a slice over a whole row IA AL turns,behind Hd AL else reads (e: the element type); with false: 'Wr -/
 | aI (t:Bool) (e k:Nat) (xs:List LV)
 /-- the address of cells of TN a row; with false: 'US -/
 | fS (t:Bool) (cs:List LV)
 deriving Inhabited
inductive LE where
 | box (cs:List LV)
 | arr (e k:Nat) (xs:List LV)
 | map (kt vt:Nat) (es:List (LV × LV))
 /-- a row UX elements own L5: os Wz at Hd cells (and the element type and UI cells of the L5 there) -/
 | nest (e k:Nat) (os:List (Nat × Nat × Nat)) (xs:List LV)
 /-- TN a row,of Hd the slice at the cell o of the element i is the row id2 (of n2 elements) -/
 | cW (e k:Nat) (os:List (Nat × Nat × Nat)) (xs:List LV) (i o id2 n2:Nat)
 /-- a row IA W4 given U6 -/
 | dead
abbrev Mem:=Nat→Option LE
abbrev Env:=Nat→LV
def Mem.none:Mem:=fun _=>Option.none
def Mem.put (m:Mem) (id:Nat) (x:LE):Mem:=fun i=>if i=id then some x else m i
def Env.put (e:Env) (d:Nat) (v:LV):Env:=fun i=>if i=d then v else e i
def Env.fI (e:Env) (d:Option Nat) (v:LV):Env:=match d with | some d=>e.put d v | .none=>e
def Env.of:List (Nat × LV)→Env
 | []=>fun _=>.eF
 | (d,v) :: r=>fun i=>if i=d then v else Env.of r i
def Mem.of:List (Nat × LE)→Mem
 | []=>fun _=>Option.none
 | (d,v) :: r=>fun i=>if i=d then some v else Mem.of r i
mutual
def LV.pure:LV→Bool
 | .ag cs=>LV.bk cs
 | .fS _ cs=>LV.bk cs
 | .arr _ _=>false
 | .ptr _ _=>false
 | .bJ _ _ _ _=>false
 | .mp _=>false
 | .agg cs=>LV.bk cs
 | .cX cs=>LV.bk cs
 | .fn _ cs=>LV.bk cs
 | .vE _ cs=>LV.bk cs
 | _=>true
def LV.bk:List LV→Bool
 | []=>true
 | x :: xs=>x.pure && LV.bk xs
end
mutual
/-- RA the value not Qu of id? -/
def LV.a8 (id:Nat):LV→Bool
 | .ag cs=>LV.cu id cs
 | .fS _ cs=>LV.cu id cs
 | .arr i _=>i != id
 | .ptr i _=>i != id
 | .bJ i _ _ _=>i != id
 | .mp i=>i != id
 | .agg cs=>LV.cu id cs
 | .cX cs=>LV.cu id cs
 | .fn _ cs=>LV.cu id cs
 | .vE _ cs=>LV.cu id cs
 | _=>true
def LV.cu (id:Nat):List LV→Bool
 | []=>true
 | x :: xs=>x.a8 id && LV.cu id xs
end
def LE.kU (id:Nat):LE→Bool
 | .box cs=>LV.cu id cs
 | .cW _ _ _ _ _ _ id2 _=>id2 != id
 | _=>true
def LV.cells:LV→List LV
 | .agg cs=>cs
 | x=>[x]
def LV.scalar:LV→Bool
 | .eF=>false
 | .agg _=>false
 | .cX _=>false
 | _=>true
inductive BE where
 | box (b n:Nat)
 | arr (v:Value) (k len:Nat) (ins:List Nat)
 | mp (b:Nat)
def BE.has:BE→Nat→Prop
 | .box b' _,b=>b'=b
 | .arr v _ _ ins,b=>v.ownBlock=some b ∨ b ∈ ins
 | .mp b',b=>b'=b
def BE.kP:BE→BE→Prop
 | .box b n,y=>y=.box b n
 | .arr u k len _,y=>∃ u' ln ins,y=.arr u' k ln ins∧len≤ln∧(len=ln→u'=u)
 | .mp b,y=>y=.mp b
theorem BE.kP.refl (x:BE):x.kP x:=by
 cases x with
 | box _ _=>rfl
 | arr u k len ins=>exact ⟨_,_,_,rfl,Nat.le_refl _,fun _=>rfl⟩
 | mp _=>rfl
theorem BE.kP.trans {x y z:BE} (h:x.kP y) (h':y.kP z):x.kP z:=by
 cases x with
 | box b n=>simp only [BE.kP] at h; subst h; exact h'
 | arr u k len ins=>simp only [BE.kP] at h; obtain ⟨u',ln,ll,rfl,h1,h2⟩:=h; obtain ⟨u2,Wq,Wm,rfl,h3,h4⟩:=h'; exact ⟨_,_,_,rfl,by omega,fun he=>by rw [h4 (by omega),h2 (by omega)]⟩
 | mp b=>simp only [BE.kP] at h; subst h; exact h'
structure Cx where
 w:World
 B:Nat→Option BE
 O:Nat→Prop
 /-- blocks of rows IA AL turns,with UT Q9 -/
 Q:Nat→Option Nat
def Cx.own (c:Cx) (b:Nat):Prop:=∃ id be,c.B id=some be∧be.has b
def Cx.U (c:Cx) (b:Nat):Prop:=c.O b ∨ c.Q b ≠ Option.none
def Cx.X (c:Cx) (b:Nat):Prop:=c.U b ∨ c.own b
def flat (vs:List Value):List Value:=vs.flatMap fun v=>v.cells.toList
mutual
def av (c:Cx):LV→Value→Prop
 | .eF,_=>True
 | .int k n,v=>v=.int k n
 | .bool b,v=>v=.bool b
 | .nil,v=>v=.slice Option.none 0 0
 | .pS n,v=>∃ a cap,v=.slice a n cap
 | .mj,v=>v=.nilFunc
 | .fh,v=>v=.pointer Option.none
 | .ak k xs,v=>∃ a cap,v=.slice a xs.length cap∧xs.length≤cap∧(a=Option.none→cap=0)∧LV.bk xs=true ∧
   (xs=[] ∨ ∃ b off vs,a=some ⟨b,off,Option.none⟩∧b<c.w.heap.size∧¬ c.X b∧aC c xs vs∧(∀ u ∈ vs,u.cells.size=k∧∀ y ∈ u.cells,y.oneCell'=true)∧c.w.rangeAt b off (flat vs))
 | .full k xs,v=>∃ a,v=.slice a xs.length xs.length∧(a=Option.none→xs=[])∧LV.bk xs=true ∧
   (xs=[] ∨ ∃ b off vs,a=some ⟨b,off,Option.none⟩∧b<c.w.heap.size∧¬ c.X b∧aC c xs vs∧(∀ u ∈ vs,u.cells.size=k∧∀ y ∈ u.cells,y.oneCell'=true)∧c.w.rangeAt b off (flat vs))
 | .str s,v=>v=.string s
 | .it r,v=>v=.pointer (some ⟨r,0,Option.none⟩)
 | .ag cs,v=>∃ b off vs,v=.pointer (some ⟨b,off,Option.none⟩)∧b<c.w.heap.size∧¬ c.X b∧aC c cs vs∧(∀ y ∈ vs,y.oneCell'=true)∧c.w.rangeAt b off vs
 | .aI false _ k xs,v=>∃ a cap,v=.slice a xs.length cap∧xs.length≤cap∧(a=Option.none→cap=0)∧LV.bk xs=true ∧
   (xs=[] ∨ ∃ b off vs,a=some ⟨b,off,Option.none⟩∧b<c.w.heap.size∧¬ c.X b∧aC c xs vs∧(∀ u ∈ vs,u.cells.size=k∧∀ y ∈ u.cells,y.oneCell'=true)∧c.w.rangeAt b off (flat vs))
 | .fS false cs,v=>∃ b off vs,v=.pointer (some ⟨b,off,Option.none⟩)∧b<c.w.heap.size∧¬ c.X b∧aC c cs vs∧(∀ y ∈ vs,y.oneCell'=true)∧c.w.rangeAt b off vs
 | .aI true e k xs,v=>0<k∧LV.bk xs=true∧∃ vs,c.w.ownsRow 0 e k v xs.length (flat vs)∧aC c xs vs∧(∀ u ∈ vs,u.cells.size=k∧∀ y ∈ u.cells,y.oneCell'=true)∧∀ b,v.ownBlock=some b→c.Q b=some (xs.length * k)
 | .fS true cs,v=>∃ b off vs n,v=.pointer (some ⟨b,off,Option.none⟩)∧c.Q b=some n∧aC c cs vs∧(∀ y ∈ vs,y.oneCell'=true)∧c.w.rangeAt b off vs
 | .arr id n,v=>v.oneCell'=true∧∃ u k len ins,c.B id=some (.arr u k len ins)∧n≤len∧(n=len→v=u)
 | .ptr id o,v=>∃ b n,c.B id=some (.box b n)∧v=.pointer (some ⟨b,o,Option.none⟩)
 | .bJ id n i o,v=>v.oneCell'=true∧∃ u k len ins,c.B id=some (.arr u k len ins)∧n≤len∧(n=len→∃ b,u.ownBlock=some b∧v=.pointer (some ⟨b,i * k+o,Option.none⟩))
 | .mp id,v=>∃ b,c.B id=some (.mp b)∧v=.map (some b)
 | .agg cs,v=>∃ vs,v=.agg vs.toArray∧aC c cs vs
 | .cX cs,v=>∃ vs,v=.tuple vs.toArray∧aC c cs vs
 | .fn f cs,v=>∃ vs,v=.func (.func f) #[] vs.toArray∧aC c cs vs
 | .vE f cs,v=>∃ vs,v=.func (.func f) vs.toArray #[]∧aC c cs vs
def aC (c:Cx):List LV→List Value→Prop
 | [],vs=>vs=[]
 | x :: xs,vs=>∃ v fQ,vs=v :: fQ∧av c x v∧aC c xs fQ
end
theorem aC.length {c:Cx}:∀ {xs:List LV} {vs:List Value},aC c xs vs→xs.length=vs.length
 | [],vs,h=>by simp [aC] at h; simp [h]
 | x :: xs,vs,h=>by
  simp only [aC] at h
  obtain ⟨v,fQ,rfl,_,h'⟩:=h
  simp [h'.length]
theorem aC.get {c:Cx}:∀ {xs:List LV} {vs:List Value},aC c xs vs→∀ {i:Nat} {x:LV},xs[i]?=some x→∃ v,vs[i]?=some v∧av c x v
 | [],vs,h,i,x,hx=>by simp at hx
 | y :: xs,vs,h,i,x,hx=>by
  simp only [aC] at h
  obtain ⟨v,fQ,rfl,hv,h'⟩:=h
  cases i with
  | zero=>simp at hx; subst hx; exact ⟨v,by simp,hv⟩
  | succ i=>simp at hx; obtain ⟨u,hu,hr⟩:=h'.get hx; exact ⟨u,by simpa using hu,hr⟩
theorem aC.of {c:Cx}:∀ {xs:List LV} {vs:List Value},xs.length=vs.length→(∀ (i:Nat) x v,xs[i]?=some x→vs[i]?=some v→av c x v)→aC c xs vs
 | [],vs,h,_=>by simp [aC]; exact List.eq_nil_of_length_eq_zero (by simpa using h.symm)
 | x :: xs,[],h,_=>by simp at h
 | x :: xs,v :: vs,h,hr=>by
  simp only [aC]
  exact ⟨v,vs,rfl,hr 0 x v (by simp) (by simp),aC.of (by simpa using h) fun i y u hy hu=>hr (i+1) y u (by simpa using hy) (by simpa using hu)⟩
theorem aC.append {c:Cx} {xs ys:List LV} {vs us:List Value} (h:aC c xs vs) (h':aC c ys us):aC c (xs++ys) (vs++us):=by
 induction xs generalizing vs with
 | nil=>simp [aC] at h; subst h; simpa using h'
 | cons x xs ih =>
  simp only [aC] at h
  obtain ⟨v,fQ,rfl,hv,h2⟩:=h
  simp only [List.cons_append,aC]
  exact ⟨v,fQ++us,rfl,hv,ih h2⟩
theorem aC.drop {c:Cx} {xs:List LV} {vs:List Value} (h:aC c xs vs) (n:Nat):aC c (xs.drop n) (vs.drop n):=by
 induction n generalizing xs vs with
 | zero=>simpa using h
 | succ n ih =>
  cases xs with
  | nil=>simp [aC] at h; subst h; simp [aC]
  | cons x xs =>
   simp only [aC] at h
   obtain ⟨v,fQ,rfl,hv,h2⟩:=h
   simpa using ih h2
theorem aC.take {c:Cx} {xs:List LV} {vs:List Value} (h:aC c xs vs) (n:Nat):aC c (xs.take n) (vs.take n):=by
 induction n generalizing xs vs with
 | zero=>simp [aC]
 | succ n ih =>
  cases xs with
  | nil=>simp [aC] at h; subst h; simp [aC]
  | cons x xs =>
   simp only [aC] at h
   obtain ⟨v,fQ,rfl,hv,h2⟩:=h
   simp only [List.take_succ_cons,aC]
   exact ⟨v,_,rfl,hv,ih h2⟩
theorem cK:∀ {xs:List LV},LV.bk xs=true ↔ ∀ x ∈ xs,x.pure=true
 | []=>by simp [LV.bk]
 | x :: xs=>by simp [LV.bk,cK (xs:=xs)]
theorem te {id:Nat}:∀ {xs:List LV},LV.cu id xs=true ↔ ∀ x ∈ xs,x.a8 id=true
 | []=>by simp [LV.cu]
 | x :: xs=>by simp [LV.cu,te (xs:=xs)]
mutual
theorem eS {id:Nat}:∀ (x:LV),x.pure=true→x.a8 id=true
 | .eF,_ | .int _ _,_ | .bool _,_ | .nil,_ | .pS _,_ | .full _ _,_ | .str _,_ | .it _,_ | .mj,_ | .fh,_ | .ak _ _,_ | .aI _ _ _ _,_=>by simp [LV.a8]
 | .ag cs,h=>by simp only [LV.pure] at h; simp only [LV.a8]; exact az cs h
 | .fS _ cs,h=>by simp only [LV.pure] at h; simp only [LV.a8]; exact az cs h
 | .arr _ _,h | .ptr _ _,h | .bJ _ _ _ _,h | .mp _,h=>by simp [LV.pure] at h
 | .agg cs,h=>by simp only [LV.pure] at h; simp only [LV.a8]; exact az cs h
 | .cX cs,h=>by simp only [LV.pure] at h; simp only [LV.a8]; exact az cs h
 | .fn _ cs,h=>by simp only [LV.pure] at h; simp only [LV.a8]; exact az cs h
 | .vE _ cs,h=>by simp only [LV.pure] at h; simp only [LV.a8]; exact az cs h
theorem az {id:Nat}:∀ (xs:List LV),LV.bk xs=true→LV.cu id xs=true
 | [],_=>by simp [LV.cu]
 | x :: xs,h=>by
  simp only [LV.bk,Bool.and_eq_true] at h
  simp only [LV.cu,Bool.and_eq_true]
  exact ⟨eS x h.1,az xs h.2⟩
end
def js (x y:Option BE):Prop :=
 match x with
 | .none=>True
 | some (.box b n)=>y=some (.box b n)
 | some (.arr u k len _)=>∃ u' ln ll,y=some (.arr u' k ln ll)∧len≤ln∧(len=ln→u'=u)
 | some (.mp b)=>y=some (.mp b)
theorem js.refl (x:Option BE):js x x:=by
 unfold js; split
 ·trivial
 ·rfl
 ·exact ⟨_,_,_,rfl,Nat.le_refl _,fun _=>rfl⟩
 ·rfl
theorem js.trans {x y z:Option BE} (h:js x y) (h':js y z):js x z:=by
 unfold js at *
 split
 ·trivial
 ·simp only at h; subst h; exact h'
 ·rename_i u k len ins
  obtain ⟨u',ln,ll,rfl,hl,hu⟩:=h
  obtain ⟨WG,Pf,Oc,rfl,iL,Fm⟩:=h'
  refine ⟨WG,Pf,Oc,rfl,Nat.le_trans hl iL,fun e=>?_⟩
  rw [Fm (by omega),hu (by omega)]
 ·simp only at h; subst h; exact h'
structure Cx.Le (c c':Cx):Prop where
 size:c.w.heap.size≤c'.w.heap.size
 heap:∀ b,b<c.w.heap.size→¬ c.X b→c'.w.heap[b]?=c.w.heap[b]?∧¬ c'.X b
 q:∀ b n,c.Q b=some n→c'.w.heap[b]?=c.w.heap[b]?∧c'.Q b=some n
theorem ei {w w':World} {b off:Nat} {cs:List Value} (h:w.rangeAt b off cs) (hb:w'.heap[b]?=w.heap[b]?):w'.rangeAt b off cs:=by
 intro j v hv
 rw [World.cell?_of_block (w:=w) (a:=⟨b,off+j,Option.none⟩) hb]
 exact h j v hv
theorem dN {w w':World} {base e k n:Nat} {u:Value} {vs:List Value} (h:w.ownsRow base e k u n vs) (hb:∀ b,u.ownBlock=some b→w'.heap[b]?=w.heap[b]?):w'.ownsRow base e k u n vs:=by
 refine ⟨h.1,?_⟩
 rcases h.2 with hn | ⟨g,cap,cur,rfl,h1,h2,rest⟩
 ·exact .inl hn
 ·exact .inr ⟨g,cap,cur,rfl,h1,(hb g rfl).trans h2,rest⟩
mutual
theorem av.mono {c c':Cx} (h:c.Le c'):∀ (x:LV) (v:Value),(∀ id,x.a8 id=false→js (c.B id) (c'.B id))→av c x v→av c' x v
 | .eF,v,_,hr=>by simp only [av]
 | .int _ _,v,_,hr=>by simpa only [av] using hr
 | .bool _,v,_,hr=>by simpa only [av] using hr
 | .nil,v,_,hr=>by simpa only [av] using hr
 | .pS _,v,_,hr=>by simpa only [av] using hr
 | .str _,v,_,hr=>by simpa only [av] using hr
 | .it _,v,_,hr=>by simpa only [av] using hr
 | .full k xs,v,_,hr=>by
  simp only [av] at hr ⊢
  obtain ⟨a,rfl,hn,hp,hx⟩:=hr
  refine ⟨a,rfl,hn,hp,?_⟩
  rcases hx with hx | ⟨b,off,vs,rfl,hb,hX,hl,hk,gb⟩
  ·exact .inl hx
  ·obtain ⟨h1,h2⟩:=h.heap b hb hX
   exact .inr ⟨b,off,vs,rfl,Nat.lt_of_lt_of_le hb h.size,h2,aC.mono h xs vs (fun id bE=>by rw [az xs hp] at bE; cases bE) hl,hk,ei gb h1⟩
 | .mj,v,_,hr=>by simpa only [av] using hr
 | .fh,v,_,hr=>by simpa only [av] using hr
 | .ak k xs,v,_,hr=>by
  simp only [av] at hr ⊢
  obtain ⟨a,cap,rfl,mB,hn,hp,hx⟩:=hr
  refine ⟨a,cap,rfl,mB,hn,hp,?_⟩
  rcases hx with hx | ⟨b,off,vs,rfl,hb,hX,hl,hk,gb⟩
  ·exact .inl hx
  ·obtain ⟨h1,h2⟩:=h.heap b hb hX
   exact .inr ⟨b,off,vs,rfl,Nat.lt_of_lt_of_le hb h.size,h2,aC.mono h xs vs (fun id bE=>by rw [az xs hp] at bE; cases bE) hl,hk,ei gb h1⟩
 | .ag cs,v,hB,hr=>by
  simp only [av] at hr ⊢
  obtain ⟨b,off,vs,rfl,hb,hX,hl,hk,gb⟩:=hr
  obtain ⟨h1,h2⟩:=h.heap b hb hX
  exact ⟨b,off,vs,rfl,Nat.lt_of_lt_of_le hb h.size,h2,aC.mono h cs vs (fun id bE=>hB id (by simpa only [LV.a8] using bE)) hl,hk,ei gb h1⟩
 | .aI true e k xs,v,hB,hr=>by
  simp only [av] at hr ⊢
  obtain ⟨h0,hp,vs,h1,hl,hk,hq⟩:=hr
  exact ⟨h0,hp,vs,dN h1 (fun b hb=>(h.q b _ (hq b hb)).1),aC.mono h xs vs (fun id bE=>by rw [az xs hp] at bE; cases bE) hl,hk,fun b hb=>(h.q b _ (hq b hb)).2⟩
 | .fS true cs,v,hB,hr=>by
  simp only [av] at hr ⊢
  obtain ⟨b,off,vs,n,rfl,hq,hl,hk,gb⟩:=hr
  exact ⟨b,off,vs,n,rfl,(h.q b n hq).2,aC.mono h cs vs (fun id bE=>hB id (by simpa only [LV.a8] using bE)) hl,hk,ei gb (h.q b n hq).1⟩
 | .aI false e k xs,v,_,hr=>by
  simp only [av] at hr ⊢
  obtain ⟨a,cap,rfl,mB,hn,hp,hx⟩:=hr
  refine ⟨a,cap,rfl,mB,hn,hp,?_⟩
  rcases hx with hx | ⟨b,off,vs,rfl,hb,hX,hl,hk,gb⟩
  ·exact .inl hx
  ·obtain ⟨h1,h2⟩:=h.heap b hb hX
   exact .inr ⟨b,off,vs,rfl,Nat.lt_of_lt_of_le hb h.size,h2,aC.mono h xs vs (fun id bE=>by rw [az xs hp] at bE; cases bE) hl,hk,ei gb h1⟩
 | .fS false cs,v,hB,hr=>by
  simp only [av] at hr ⊢
  obtain ⟨b,off,vs,rfl,hb,hX,hl,hk,gb⟩:=hr
  obtain ⟨h1,h2⟩:=h.heap b hb hX
  exact ⟨b,off,vs,rfl,Nat.lt_of_lt_of_le hb h.size,h2,aC.mono h cs vs (fun id bE=>hB id (by simpa only [LV.a8] using bE)) hl,hk,ei gb h1⟩
 | .arr id n,v,hB,hr=>by
  simp only [av] at hr ⊢
  obtain ⟨h1,u,k,len,ins,hu,hn,hv⟩:=hr
  have:=hB id (by simp [LV.a8])
  rw [hu] at this
  obtain ⟨u',ln,ll,Fm,hl,he⟩:=this
  refine ⟨h1,u',k,ln,ll,Fm,Nat.le_trans hn hl,fun e=>?_⟩
  rw [he (by omega)]; exact hv (by omega)
 | .ptr id o,v,hB,hr=>by
  simp only [av] at hr ⊢
  obtain ⟨b,n,hu,hv⟩:=hr
  have:=hB id (by simp [LV.a8])
  rw [hu] at this
  exact ⟨b,n,this,hv⟩
 | .bJ id n i o,v,hB,hr=>by
  simp only [av] at hr ⊢
  obtain ⟨h1,u,k,len,ins,hu,hn,hv⟩:=hr
  have:=hB id (by simp [LV.a8])
  rw [hu] at this
  obtain ⟨u',ln,ll,Fm,hl,he⟩:=this
  refine ⟨h1,u',k,ln,ll,Fm,Nat.le_trans hn hl,fun e=>?_⟩
  rw [he (by omega)]; exact hv (by omega)
 | .mp id,v,hB,hr=>by
  simp only [av] at hr ⊢
  obtain ⟨b,hu,hv⟩:=hr
  have:=hB id (by simp [LV.a8])
  rw [hu] at this
  exact ⟨b,this,hv⟩
 | .agg cs,v,hB,hr=>by
  simp only [av] at hr ⊢
  obtain ⟨vs,rfl,hl⟩:=hr
  exact ⟨vs,rfl,aC.mono h cs vs (fun id bE=>hB id (by simpa only [LV.a8] using bE)) hl⟩
 | .cX cs,v,hB,hr=>by
  simp only [av] at hr ⊢
  obtain ⟨vs,rfl,hl⟩:=hr
  exact ⟨vs,rfl,aC.mono h cs vs (fun id bE=>hB id (by simpa only [LV.a8] using bE)) hl⟩
 | .fn f cs,v,hB,hr=>by
  simp only [av] at hr ⊢
  obtain ⟨vs,rfl,hl⟩:=hr
  exact ⟨vs,rfl,aC.mono h cs vs (fun id bE=>hB id (by simpa only [LV.a8] using bE)) hl⟩
 | .vE f cs,v,hB,hr=>by
  simp only [av] at hr ⊢
  obtain ⟨vs,rfl,hl⟩:=hr
  exact ⟨vs,rfl,aC.mono h cs vs (fun id bE=>hB id (by simpa only [LV.a8] using bE)) hl⟩
theorem aC.mono {c c':Cx} (h:c.Le c'):∀ (xs:List LV) (vs:List Value),(∀ id,LV.cu id xs=false→js (c.B id) (c'.B id))→aC c xs vs→aC c' xs vs
 | [],vs,_,hr=>by simpa only [aC] using hr
 | x :: xs,vs,hB,hr=>by
  simp only [aC] at hr ⊢
  obtain ⟨v,fQ,rfl,hv,hl⟩:=hr
  refine ⟨v,fQ,rfl,av.mono h x v (fun id bE=>hB id (by simp [LV.cu,bE])) hv,aC.mono h xs fQ (fun id bE=>hB id (by simp [LV.cu,bE])) hl⟩
end
theorem xU {c:Cx} {t:Bool} {e k:Nat} {xs:List LV} {v:Value} (h:av c (.aI t e k xs) v):v.oneCell'=true:=by
 cases t
 ·simp only [av] at h; obtain ⟨_,_,rfl,_⟩:=h; rfl
 ·simp only [av] at h; obtain ⟨_,_,_,h,_⟩:=h; rcases h.2 with ⟨rfl,_⟩ | ⟨_,_,_,rfl,_⟩ <;> rfl
theorem wq {c:Cx} {t:Bool} {cs:List LV} {v:Value} (h:av c (.fS t cs) v):v.oneCell'=true:=by
 cases t
 ·simp only [av] at h; obtain ⟨_,_,_,rfl,_⟩:=h; rfl
 ·simp only [av] at h; obtain ⟨_,_,_,_,rfl,_⟩:=h; rfl
theorem eJ {c:Cx} {x:LV} {v:Value} (hs:x.scalar=true) (h:av c x v):v.oneCell'=true:=by
 cases x
 case aI=>exact xU h
 case fS=>exact wq h
 all_goals simp only [LV.scalar,av,Bool.false_eq_true] at hs h
 case int=>subst h; rfl
 case bool=>subst h; rfl
 case nil=>subst h; rfl
 case fh=>subst h; rfl
 case ak=>obtain ⟨_,_,rfl,_⟩:=h; rfl
 case ag=>obtain ⟨_,_,_,rfl,_⟩:=h; rfl
 case arr=>exact h.1
 case ptr=>obtain ⟨_,_,_,rfl⟩:=h; rfl
 case bJ=>exact h.1
 case fn=>obtain ⟨_,rfl,_⟩:=h; rfl
 case vE=>obtain ⟨_,rfl,_⟩:=h; rfl
 case pS=>obtain ⟨_,_,rfl⟩:=h; rfl
 case full=>obtain ⟨_,rfl,_⟩:=h; rfl
 case str=>subst h; rfl
 case it=>subst h; rfl
 case mj=>subst h; rfl
 case mp=>obtain ⟨_,_,rfl⟩:=h; rfl
theorem lR {x:LV} (hs:x.scalar=true):x.cells=[x]:=by
 cases x <;> simp_all [LV.scalar,LV.cells]
theorem dq {v:Value} (h:v.oneCell'=true):v.cells=#[v]:=by
 cases v <;> simp_all [Value.oneCell',Value.cells]
theorem av.cellsOf {c:Cx} {x:LV} {v:Value} (h:av c x v) (hs:x.cells.all LV.scalar=true):aC c x.cells v.cells.toList∧∀ y ∈ v.cells,y.oneCell'=true:=by
 by_cases hx:x.scalar=true
 ·have h1:=eJ hx h
  rw [lR hx,dq h1]
  simp [aC,h,h1]
 ·cases x <;> simp [LV.scalar,LV.cells] at hx hs
  case agg cs =>
   simp only [av] at h
   obtain ⟨vs,rfl,hl⟩:=h
   simp only [LV.cells,Value.cells]
   refine ⟨by simpa using hl,fun y hy=>?_⟩
   obtain ⟨i,hi⟩:=List.mem_iff_getElem?.1 (by simpa using hy:y ∈ vs)
   have hlen:=hl.length
   have dY:i<cs.length:=by rw [hlen]; exact (List.getElem?_eq_some_iff.1 hi).1
   obtain ⟨u,hu,V3⟩:=hl.get (List.getElem?_eq_getElem dY)
   rw [hi] at hu; cases hu
   exact eJ (hs _ (List.getElem_mem dY)) V3
end Go.L
namespace Go.L
def se (c:Cx) (e k:Nat) (x:LV) (v:Value) (bs:List Nat):Prop :=
 (x=.eF∧bs=[]) ∨ ∃ ys us,x=.ak k ys∧0<k∧c.w.ownsRow 0 e k v ys.length (flat us)∧aC c ys us∧(∀ u ∈ us,u.cells.size=k∧∀ y ∈ u.cells,y.oneCell'=true)∧LV.bk ys=true∧bs=v.ownBlock.toList
def fu (c:Cx) (os:List (Nat × Nat × Nat)) (o:Nat) (x:LV) (v:Value) (bs:List Nat):Prop :=
 match os.lookup o with
 | some (e,k)=>se c e k x v bs
 | .none=>av c x v∧x.pure=true∧bs=[]
def ix (c:Cx) (os:List (Nat × Nat × Nat)):Nat→List LV→List Value→List Nat→Prop
 | _,[],ws,bs=>ws=[]∧bs=[]
 | o,x :: xs,ws,bs=>∃ w Ed b1 b2,ws=w :: Ed∧bs=b1++b2∧fu c os o x w b1∧ix c os (o+1) xs Ed b2
def J4 (c:Cx) (os:List (Nat × Nat × Nat)) (x:LV) (v:Value) (bs:List Nat):Prop:=∃ cs ws,x=.agg cs∧v=.agg ws.toArray∧ix c os 0 cs ws bs
def dU (c:Cx) (os:List (Nat × Nat × Nat)):List LV→List Value→List Nat→Prop
 | [],vs,bs=>vs=[]∧bs=[]
 | x :: xs,vs,bs=>∃ v fQ b1 b2,vs=v :: fQ∧bs=b1++b2∧J4 c os x v b1∧dU c os xs fQ b2
def zN (es:Array MapEntry) (ck:Nat):Prop:=(es.toList.map (·.born)).Nodup∧∀ x ∈ es.toList,x.born<ck
def bt (c:Cx):Option LE→Option BE→Prop
 | .none,y=>y=.none
 | some (.box cs),y=>∃ b vs e,y=some (.box b cs.length)∧c.w.heap[b]?=some (.cells vs.toArray e (0,0))∧aC c cs vs∧∀ v ∈ vs,v.oneCell'=true
 | some (.arr e k xs),y=>∃ u vs,y=some (.arr u k xs.length [])∧0<k∧c.w.ownsRow 0 e k u xs.length (flat vs)∧aC c xs vs∧(∀ v ∈ vs,v.cells.size=k∧∀ y ∈ v.cells,y.oneCell'=true)∧LV.bk xs=true
 | some (.map kt vt es),y=>∃ b jw clock,y=some (.mp b)∧c.w.heap[b]?=some (.map jw clock)∧aC c (es.map (·.1)) (jw.toList.map (·.key))∧aC c (es.map (·.2)) (jw.toList.map (·.val))∧LV.bk (es.map (·.1))=true∧LV.bk (es.map (·.2))=true∧(es.map (·.1)).Nodup∧zN jw clock
 | some (.nest e k os xs),y=>∃ u vs bs,y=some (.arr u k xs.length bs)∧0<k∧c.w.ownsRow 0 e k u xs.length (flat vs)∧dU c os xs vs bs∧(∀ v ∈ vs,v.cells.size=k∧∀ y ∈ v.cells,y.oneCell'=true)∧bs.Nodup∧∀ b,u.ownBlock=some b→b ∉ bs
 | some (.cW e k os xs i o id2 n2),y=>∃ u vs bs,y=some (.arr u k xs.length bs)∧0<k∧c.w.ownsRow 0 e k u xs.length (flat vs)∧dU c os xs vs bs∧(∃ g v,u.ownBlock=some g∧c.w.cell? ⟨g,i * k+o,Option.none⟩=some v∧av c (.arr id2 n2) v)∧(∀ v ∈ vs,v.cells.size=k∧∀ y ∈ v.cells,y.oneCell'=true)∧bs.Nodup∧∀ b,u.ownBlock=some b→b ∉ bs
 | some .dead,y=>∃ u k len,y=some (.arr u k len [])∧u.ownBlock=Option.none
theorem uM {w w':World} {g:Nat} (h:w'.heap[g]?=w.heap[g]?) (o:Nat):w'.cell? ⟨g,o,Option.none⟩=w.cell? ⟨g,o,Option.none⟩:=by simp [World.cell?,h]
theorem se.mono {c c':Cx} (hle:c.Le c') {e k:Nat} {x:LV} {v:Value} {bs:List Nat} (hh:∀ b ∈ bs,c'.w.heap[b]?=c.w.heap[b]?) (h:se c e k x v bs):se c' e k x v bs:=by
 rcases h with h | ⟨ys,us,h1,h0,h2,h3,h4,h5,h6⟩
 ·exact .inl h
 ·refine .inr ⟨ys,us,h1,h0,dN h2 (fun b hb=>hh b (by rw [h6,hb]; simp)),aC.mono hle ys us (fun id bE=>by rw [az ys h5] at bE; cases bE) h3,h4,h5,h6⟩
theorem se.lt {c:Cx} {e k:Nat} {x:LV} {v:Value} {bs:List Nat} (h:se c e k x v bs):∀ b ∈ bs,b<c.w.heap.size:=by
 rcases h with ⟨_,rfl⟩ | ⟨ys,us,h1,h0,h2,h3,h4,h5,rfl⟩
 ·simp
 ·intro b hb
  have:v.ownBlock=some b:=by simpa using hb
  exact (h2.lt b this).2
theorem fu.mono {c c':Cx} (hle:c.Le c') {os:List (Nat × Nat × Nat)} {o:Nat} {x:LV} {v:Value} {bs:List Nat} (hh:∀ b ∈ bs,c'.w.heap[b]?=c.w.heap[b]?) (h:fu c os o x v bs):fu c' os o x v bs:=by
 unfold fu at *
 split
 ·rename_i e k he
  rw [he] at h
  exact se.mono hle hh h
 ·rename_i he
  rw [he] at h
  exact ⟨av.mono hle x v (fun id bE=>by rw [eS x h.2.1] at bE; cases bE) h.1,h.2⟩
theorem fu.lt {c:Cx} {os:List (Nat × Nat × Nat)} {o:Nat} {x:LV} {v:Value} {bs:List Nat} (h:fu c os o x v bs):∀ b ∈ bs,b<c.w.heap.size:=by
 unfold fu at h
 split at h
 ·exact se.lt h
 ·rw [h.2.2]; simp
theorem ix.mono {c c':Cx} (hle:c.Le c') {os:List (Nat × Nat × Nat)}:∀ {o:Nat} {xs:List LV} {ws:List Value} {bs:List Nat},(∀ b ∈ bs,c'.w.heap[b]?=c.w.heap[b]?)→ix c os o xs ws bs→ix c' os o xs ws bs
 | _,[],_,_,_,h=>by simpa only [ix] using h
 | o,x :: xs,ws,bs,hh,h=>by
  simp only [ix] at h ⊢
  obtain ⟨w,Ed,b1,b2,rfl,rfl,h1,h2⟩:=h
  exact ⟨w,Ed,b1,b2,rfl,rfl,h1.mono hle (fun b hb=>hh b (by simp [hb])),ix.mono hle (fun b hb=>hh b (by simp [hb])) h2⟩
theorem ix.lt {c:Cx} {os:List (Nat × Nat × Nat)}:∀ {o:Nat} {xs:List LV} {ws:List Value} {bs:List Nat},ix c os o xs ws bs→∀ b ∈ bs,b<c.w.heap.size
 | _,[],_,_,h=>by simp only [ix] at h; rw [h.2]; simp
 | o,x :: xs,ws,bs,h=>by
  simp only [ix] at h
  obtain ⟨w,Ed,b1,b2,rfl,rfl,h1,h2⟩:=h
  intro b hb
  rcases List.mem_append.1 hb with hb | hb
  ·exact h1.lt b hb
  ·exact ix.lt h2 b hb
theorem dU.mono {c c':Cx} (hle:c.Le c') {os:List (Nat × Nat × Nat)}:∀ {xs:List LV} {vs:List Value} {bs:List Nat},(∀ b ∈ bs,c'.w.heap[b]?=c.w.heap[b]?)→dU c os xs vs bs→dU c' os xs vs bs
 | [],_,_,_,h=>by simpa only [dU] using h
 | x :: xs,vs,bs,hh,h=>by
  simp only [dU] at h ⊢
  obtain ⟨v,fQ,b1,b2,rfl,rfl,⟨cs,ws,rfl,hv,h1⟩,h2⟩:=h
  exact ⟨v,fQ,b1,b2,rfl,rfl,⟨cs,ws,rfl,hv,h1.mono hle (fun b hb=>hh b (by simp [hb]))⟩,dU.mono hle (fun b hb=>hh b (by simp [hb])) h2⟩
theorem dU.lt {c:Cx} {os:List (Nat × Nat × Nat)}:∀ {xs:List LV} {vs:List Value} {bs:List Nat},dU c os xs vs bs→∀ b ∈ bs,b<c.w.heap.size
 | [],_,_,h=>by simp only [dU] at h; rw [h.2]; simp
 | x :: xs,vs,bs,h=>by
  simp only [dU] at h
  obtain ⟨v,fQ,b1,b2,rfl,rfl,⟨cs,ws,rfl,hv,h1⟩,h2⟩:=h
  intro b hb
  rcases List.mem_append.1 hb with hb | hb
  ·exact h1.lt b hb
  ·exact dU.lt h2 b hb
theorem dU.length {c:Cx} {os:List (Nat × Nat × Nat)}:∀ {xs:List LV} {vs:List Value} {bs:List Nat},dU c os xs vs bs→xs.length=vs.length
 | [],_,_,h=>by simp only [dU] at h; simp [h.1]
 | x :: xs,vs,bs,h=>by
  simp only [dU] at h
  obtain ⟨v,fQ,b1,b2,rfl,rfl,_,h2⟩:=h
  simp [dU.length h2]
structure bZ (c:Cx) (m:Mem):Prop where
 gD:∀ id,bt c (m id) (c.B id)
 inj:∀ id UH be eD b,c.B id=some be→c.B UH=some eD→be.has b→eD.has b→id=UH
 jQ:∀ b,c.own b→¬ c.O b
 pb:∀ b,c.O b→b<c.w.heap.size
 cQ:∀ b,c.Q b ≠ .none→¬ c.O b∧¬ c.own b∧b<c.w.heap.size
theorem bt.lt {c:Cx} {x:Option LE} {y:Option BE} (h:bt c x y) {be:BE} {b:Nat} (hy:y=some be) (hb:be.has b):b<c.w.heap.size:=by
 match x with
 | .none=>simp [bt] at h; rw [h] at hy; cases hy
 | some (.box cs) =>
  simp only [bt] at h
  obtain ⟨b',vs,e,rfl,hh,_⟩:=h
  cases hy
  simp only [BE.has] at hb
  subst hb
  exact (Array.getElem?_eq_some_iff.1 hh).1
 | some (.arr e k xs) =>
  simp only [bt] at h
  obtain ⟨u,vs,rfl,hk,bf,_⟩:=h
  cases hy
  have il:u.ownBlock=some b:=by simpa [BE.has] using hb
  exact (bf.lt b il).2
 | some (.nest e k os xs) =>
  simp only [bt] at h
  obtain ⟨u,vs,bs,rfl,hk,bf,hn,_⟩:=h
  cases hy
  rcases hb with hb | hb
  ·exact (bf.lt b hb).2
  ·exact hn.lt b hb
 | some (.cW e k os xs i o id2 n2) =>
  simp only [bt] at h
  obtain ⟨u,vs,bs,rfl,hk,bf,hn,_⟩:=h
  cases hy
  rcases hb with hb | hb
  ·exact (bf.lt b hb).2
  ·exact hn.lt b hb
 | some .dead =>
  simp only [bt] at h
  obtain ⟨u,k,len,rfl,hu⟩:=h
  cases hy
  rcases hb with hb | hb
  ·rw [hu] at hb; cases hb
  ·cases hb
 | some (.map kt vt es) =>
  simp only [bt] at h
  obtain ⟨b',jw,ck,rfl,hh,_⟩:=h
  cases hy
  simp only [BE.has] at hb
  subst hb
  exact (Array.getElem?_eq_some_iff.1 hh).1
theorem bZ.kW {c:Cx} {m:Mem} (h:bZ c m) {b:Nat} (ho:c.own b):b<c.w.heap.size:=by
 obtain ⟨id,be,h1,h2⟩:=ho
 exact (h.gD id).lt h1 h2
theorem bZ.fresh {c:Cx} {m:Mem} (h:bZ c m) {id:Nat} (hm:m id=.none):c.B id=.none:=by
 have:=h.gD id
 rw [hm] at this
 exact this
abbrev dp:Nat:=1
def gX (c c':Cx):Prop:=∀ b n,c.Q b=some n→c'.w.heap[b]?=c.w.heap[b]?∧c'.Q b=some n
theorem gX.refl (c:Cx):gX c c:=fun _ _ h=>⟨rfl,h⟩
theorem gX.trans {a b c:Cx} (h:gX a b) (k:gX b c):gX a c:=fun x n hx=>⟨(k x n (h x n hx).2).1.trans (h x n hx).1,(k x n (h x n hx).2).2⟩
structure Grow (pr:Nat→Prop) (c c':Cx):Prop where
 O:c'.O=c.O
 os:c'.w.os=c.w.os
 tape:c'.w.tape=c.w.tape
 output:c'.w.output=c.w.output
 drawn:c.w.drawn≤c'.w.drawn
 size:c.w.heap.size≤c'.w.heap.size
 jA:∀ b,b<c.w.heap.size→¬ c.own b→(c.Q b=.none ∨ ¬ pr dp)→c'.w.heap[b]?=c.w.heap[b]?
 q:¬ pr dp→∀ b n,c.Q b=some n→c'.Q b=some n
 qn:∀ b,c'.Q b ≠ .none→c.Q b ≠ .none ∨ c.own b ∨ c.w.heap.size≤b
 own:∀ b,c'.own b→c.own b ∨ c.w.heap.size≤b
 AT:∀ id be,pr id→c.B id=some be→∃ eD,c'.B id=some eD∧be.kP eD
theorem Grow.refl (pr:Nat→Prop) (c:Cx):Grow pr c c :=
 ⟨rfl,rfl,rfl,rfl,Nat.le_refl _,Nat.le_refl _,fun _ _ _ _=>rfl,fun _ _ _ h=>h,fun _ h=>.inl h,fun _ h=>.inl h,fun _ be _ h=>⟨be,h,.refl be⟩⟩
theorem Grow.trans {pr:Nat→Prop} {a b c:Cx} (h:Grow pr a b) (k:Grow pr b c):Grow pr a c where
  O:=k.O.trans h.O
  os:=k.os.trans h.os
  tape:=k.tape.trans h.tape
  output:=k.output.trans h.output
  drawn:=Nat.le_trans h.drawn k.drawn
  size:=Nat.le_trans h.size k.size
  jA:=fun x hx ho hq=>(k.jA x (Nat.lt_of_lt_of_le hx h.size) (fun hb=>(h.own x hb).elim ho (fun hs=>absurd hx (by omega))) (hq.imp (fun h0=>by
    cases nY:b.Q x with
    | none=>rfl
    | some n => rcases h.qn x (by rw [nY]; simp) with h1 | h1 | h1
                · exact absurd h0 h1
                · exact absurd h1 ho
                · omega) (fun h0=>h0))).trans (h.jA x hx ho hq)
  q:=fun hp x n hx=>k.q hp x n (h.q hp x n hx)
  qn:=fun x hx=>(k.qn x hx).elim (h.qn x) fun h'=>h'.elim (fun ho=>(h.own x ho).elim (fun h2=>.inr (.inl h2)) (fun h2=>.inr (.inr h2))) (fun hs=>.inr (.inr (Nat.le_trans h.size hs)))
  own:=fun x hx=>(k.own x hx).elim (h.own x) (fun hs=>.inr (Nat.le_trans h.size hs))
  AT:=fun id be hp hb=>by
    obtain ⟨QJ,h1,h2⟩:=h.AT id be hp hb
    obtain ⟨Bx,h3,h4⟩:=k.AT id QJ hp h1
    exact ⟨Bx,h3,h2.trans h4⟩
theorem Grow.le {pr:Nat→Prop} {c c':Cx} (h:Grow pr c c') (hq:gX c c'):c.Le c' where
 size:=h.size
 heap:=fun b hb hX=>⟨h.jA b hb (fun ho=>hX (.inr ho)) (.inl (by
  cases hx:c.Q b with
  | none=>rfl
  | some n=>exact absurd (.inl (.inr (by rw [hx]; simp))) hX)),fun Ab=>by
  rcases Ab with (hO | hQ) | ho
  ·rw [h.O] at hO; exact hX (.inl (.inl hO))
  ·rcases h.qn b hQ with h1 | h1 | h1
   ·exact hX (.inl (.inr h1))
   ·exact hX (.inr h1)
   ·omega
  ·rcases h.own b ho with ho | hs
   ·exact hX (.inr ho)
   ·omega⟩
 q:=hq
theorem Grow.keeps {pr:Nat→Prop} {c c':Cx} (h:Grow pr c c') (hp:¬ pr dp) {m:Mem} (hm:bZ c m):gX c c':=fun b n hb=>by
 have:=hm.cQ b (by rw [hb]; simp)
 exact ⟨h.jA b this.2.2 this.2.1 (.inr hp),h.q hp b n hb⟩
structure Step (pr:Nat→Prop) (c c':Cx):Prop where
 grow:Grow pr c c'
 ble:∀ id,js (c.B id) (c'.B id)
 q:gX c c'
theorem Step.refl (pr:Nat→Prop) (c:Cx):Step pr c c:=⟨.refl pr c,fun _=>.refl _,.refl c⟩
theorem Step.trans {pr:Nat→Prop} {a b c:Cx} (h:Step pr a b) (k:Step pr b c):Step pr a c:=⟨h.grow.trans k.grow,fun id=>(h.ble id).trans (k.ble id),h.q.trans k.q⟩
theorem Step.le {pr:Nat→Prop} {c c':Cx} (h:Step pr c c'):c.Le c':=h.grow.le h.q
theorem Step.wE {pr:Nat→Prop} {c c':Cx} (h:Step pr c c') {x:LV} {v:Value} (hr:av c x v):av c' x v:=av.mono h.le x v (fun id _=>h.ble id) hr
theorem Step.Qm {pr:Nat→Prop} {c c':Cx} (h:Step pr c c') {x:List LV} {v:List Value} (hr:aC c x v):aC c' x v:=aC.mono h.le x v (fun id _=>h.ble id) hr
theorem bt.mono {c c':Cx} (hle:c.Le c') (hB:∀ id,js (c.B id) (c'.B id)) {x:Option LE} {y:Option BE} (hh:∀ be b,y=some be→be.has b→c'.w.heap[b]?=c.w.heap[b]?) (h:bt c x y):bt c' x y:=by
 match x with
 | .none=>simpa only [bt] using h
 | some (.box cs) =>
  simp only [bt] at h ⊢
  obtain ⟨b,vs,e,rfl,h1,h2,h3⟩:=h
  exact ⟨b,vs,e,rfl,(hh _ b rfl rfl).trans h1,aC.mono hle cs vs (fun id _=>hB id) h2,h3⟩
 | some (.arr e k xs) =>
  simp only [bt] at h ⊢
  obtain ⟨u,vs,rfl,h0,h1,h2,h3⟩:=h
  exact ⟨u,vs,rfl,h0,dN h1 (fun b hb=>hh _ b rfl (.inl hb)),aC.mono hle xs vs (fun id _=>hB id) h2,h3⟩
 | some (.nest e k os xs) =>
  simp only [bt] at h ⊢
  obtain ⟨u,vs,bs,rfl,h0,h1,h2,h3⟩:=h
  exact ⟨u,vs,bs,rfl,h0,dN h1 (fun b hb=>hh _ b rfl (.inl hb)),h2.mono hle (fun b hb=>hh _ b rfl (.inr hb)),h3⟩
 | some (.cW e k os xs i o id2 n2) =>
  simp only [bt] at h ⊢
  obtain ⟨u,vs,bs,rfl,h0,h1,h2,⟨g,v,q1,q2,q3⟩,h3⟩:=h
  exact ⟨u,vs,bs,rfl,h0,dN h1 (fun b hb=>hh _ b rfl (.inl hb)),h2.mono hle (fun b hb=>hh _ b rfl (.inr hb)),⟨g,v,q1,(uM (hh _ g rfl (.inl q1)) _).trans q2,av.mono hle (.arr id2 n2) v (fun id _=>hB id) q3⟩,h3⟩
 | some .dead=>simpa only [bt] using h
 | some (.map kt vt es) =>
  simp only [bt] at h ⊢
  obtain ⟨b,jw,ck,rfl,h1,h2,h3,h4⟩:=h
  exact ⟨b,jw,ck,rfl,(hh _ b rfl rfl).trans h1,aC.mono hle _ _ (fun id _=>hB id) h2,aC.mono hle _ _ (fun id _=>hB id) h3,h4⟩
theorem bZ.Bo {pr:Nat→Prop} {c:Cx} {m:Mem} (h:bZ c m) (id:Nat) (le:LE) (be:BE) (w':World)
  (D3:w'.os=c.w.os) (pD:w'.tape=c.w.tape) (oC:w'.output=c.w.output) (xw:c.w.drawn≤w'.drawn) (fj:c.w.heap.size≤w'.heap.size)
  (gx:∀ b,b<c.w.heap.size→(∀ dn,c.B id=some dn→¬ dn.has b)→w'.heap[b]?=c.w.heap[b]?)
  (hblk:∀ b,be.has b→(∃ dn,c.B id=some dn∧dn.has b) ∨ c.w.heap.size≤b)
  (hle:js (c.B id) (some be)) (mi:pr id→∀ dn,c.B id=some dn→dn.kP be)
  (iy:∀ c':Cx,c'.w=w'→c.Le c'→(∀ i,js (c.B i) (c'.B i))→bt c' (some le) (some be)) :
  ∃ c':Cx,c'.w=w'∧c'.B id=some be∧bZ c' (m.put id le)∧Step pr c c':=by
 let c':Cx:=⟨w',fun i=>if i=id then some be else c.B i,c.O,c.Q⟩
 have bf:∀ b,c'.own b→c.own b ∨ c.w.heap.size≤b:=by
  rintro b ⟨i,eD,h1,h2⟩
  by_cases hi:i=id
  ·simp only [c',hi,if_true] at h1
   cases h1
   rcases hblk b h2 with ⟨dn,h3,h4⟩ | hs
   ·exact .inl ⟨id,dn,h3,h4⟩
   ·exact .inr hs
  ·simp only [c',hi,if_false] at h1
   exact .inl ⟨i,eD,h1,h2⟩
 have jH:Grow pr c c':=by
  refine ⟨rfl,D3,pD,oC,xw,fj,fun b hb ho _=>gx b hb (fun dn h0 h1=>ho ⟨id,dn,h0,h1⟩),fun _ _ _ h=>h,fun _ h=>.inl h,bf,fun i eD hp hb=>?_⟩
  by_cases hi:i=id
  ·subst hi; exact ⟨be,by simp only [c',if_true],mi hp eD hb⟩
  ·exact ⟨eD,by simp only [c',hi,if_false]; exact hb,.refl eD⟩
 have lT:gX c c':=fun b n hb=>by
  have hn:=h.cQ b (by rw [hb]; simp)
  exact ⟨gx b hn.2.2 (fun dn h0 h1=>hn.2.1 ⟨id,dn,h0,h1⟩),hb⟩
 have mh:=jH.le lT
 have dA:∀ i,js (c.B i) (c'.B i):=by
  intro i
  by_cases hi:i=id
  ·subst hi; simpa only [c',if_true] using hle
  ·simp only [c',hi,if_false]; exact js.refl _
 refine ⟨c',rfl,by simp [c'],⟨fun i=>?_,?_,?_,?_,fun b hb=>⟨(h.cQ b hb).1,fun ho=>(bf b ho).elim (h.cQ b hb).2.1 (fun hs=>by have:=(h.cQ b hb).2.2; omega),Nat.lt_of_lt_of_le (h.cQ b hb).2.2 fj⟩⟩,jH,dA,lT⟩
 ·by_cases hi:i=id
  ·subst hi; simp only [c',Mem.put,if_true]; exact iy c' rfl mh dA
  ·simp only [Mem.put,hi,if_false]
   have:c'.B i=c.B i:=by simp [c',hi]
   rw [this]
   refine (h.gD i).mono mh dA fun eD b hb qG=>?_
   refine gx b ((h.gD i).lt hb qG) fun dn h0 h1=>?_
   exact hi (h.inj i id eD dn b hb h0 qG h1)
 ·intro i i' b1 b2 b h1 h2 h3 h4
  by_cases hi:i=id <;> by_cases gn:i'=id
  ·rw [hi,gn]
  ·simp only [c',hi,if_true] at h1
   simp only [c',gn,if_false] at h2
   cases h1
   rcases hblk b h3 with ⟨dn,h5,h6⟩ | hs
   ·rw [hi]; exact h.inj id i' dn b2 b h5 h2 h6 h4
   ·have:=(h.gD i').lt h2 h4; omega
  ·simp only [c',hi,if_false] at h1
   simp only [c',gn,if_true] at h2
   cases h2
   rcases hblk b h4 with ⟨dn,h5,h6⟩ | hs
   ·rw [gn]; exact h.inj i id b1 dn b h1 h5 h3 h6
   ·have:=(h.gD i).lt h1 h3; omega
  ·simp only [c',hi,if_false] at h1
   simp only [c',gn,if_false] at h2
   exact h.inj i i' b1 b2 b h1 h2 h3 h4
 ·intro b ho hO
  rcases bf b ho with ho | hs
  ·exact h.jQ b ho hO
  ·have:=h.pb b hO; omega
 ·intro b hO; exact Nat.lt_of_lt_of_le (h.pb b hO) fj
theorem bZ.ext {pr:Nat→Prop} {c:Cx} {m:Mem} (h:bZ c m) (w':World)
  (D3:w'.os=c.w.os) (pD:w'.tape=c.w.tape) (oC:w'.output=c.w.output) (xw:c.w.drawn≤w'.drawn) (fj:c.w.heap.size≤w'.heap.size)
  (gx:∀ b,b<c.w.heap.size→w'.heap[b]?=c.w.heap[b]?) :
  bZ ⟨w',c.B,c.O,c.Q⟩ m∧Step pr c ⟨w',c.B,c.O,c.Q⟩:=by
 have jH:Grow pr c ⟨w',c.B,c.O,c.Q⟩:=⟨rfl,D3,pD,oC,xw,fj,fun b hb _ _=>gx b hb,fun _ _ _ h=>h,fun _ h=>.inl h,fun b ho=>.inl ho,fun _ be _ hb=>⟨be,hb,.refl be⟩⟩
 have lT:gX c ⟨w',c.B,c.O,c.Q⟩:=fun b n hb=>⟨gx b (h.cQ b (by rw [hb]; simp)).2.2,hb⟩
 refine ⟨⟨fun i=>?_,h.inj,h.jQ,fun b hO=>Nat.lt_of_lt_of_le (h.pb b hO) fj,fun b hb=>⟨(h.cQ b hb).1,(h.cQ b hb).2.1,Nat.lt_of_lt_of_le (h.cQ b hb).2.2 fj⟩⟩,jH,fun i=>js.refl _,lT⟩
 exact (h.gD i).mono (jH.le lT) (fun i=>js.refl _) fun be b hb qG=>gx b ((h.gD i).lt hb qG)
theorem bZ.Po {c:Cx} {m:Mem} (h:bZ c m) {b:Nat} (hb:c.w.heap.size≤b):¬ c.X b:=by
 rintro ((hO | hQ) | ho)
 ·have:=h.pb b hO; omega
 ·have:=(h.cQ b hQ).2.2; omega
 ·have:=h.kW ho; omega
def aM (P:Program) (f:Nat) (args:List LV) (m:Mem) (lv:LV) (m':Mem):Prop :=
 ∀ (c:Cx) (vs:List Value),bZ c m→aC c args vs →
  Calls P f vs.toArray c.w fun en w'=>∃ v c',en=.returned v∧c'.w=w'∧bZ c' m'∧av c' lv v∧Grow (fun id=>m id ≠ .none) c c'
def Mem.over (m mc:Mem):Mem:=fun i=>match mc i with | some x=>some x | .none=>m i
theorem aM.frame {P:Program} {f:Nat} {args:List LV} {mc mu m:Mem} {lv:LV} (h:aM P f args mc lv mu)
  (oE:∀ id,mc id ≠ .none→m id=mc id) (rn:∀ id,mc id=.none→mu id ≠ .none→m id=.none)
  (hargs:∀ id,LV.cu id args=false→mc id ≠ .none) (vZ:mc dp=.none) (pq:∀ id le,mc id=some le→∀ j,le.kU j=false→mc j ≠ .none)
  (pr:Nat→Prop) (c:Cx) (vs:List Value) (hm:bZ c m) (ha:aC c args vs) :
  Calls P f vs.toArray c.w fun en w'=>∃ v c',en=.returned v∧c'.w=w'∧bZ c' (m.over mu)∧av c' lv v∧Step pr c c':=by
 classical
 let c0:Cx:=⟨c.w,fun id=>if mc id=.none then .none else c.B id,fun b=>c.O b ∨ ∃ id be,mc id=.none∧c.B id=some be∧be.has b,c.Q⟩
 have hX:∀ b,c0.X b ↔ c.X b:=by
  intro b
  constructor
  ·rintro (((hO | ⟨id,be,_,h2,h3⟩) | hQ) | ⟨id,be,h2,h3⟩)
   ·exact .inl (.inl hO)
   ·exact .inr ⟨id,be,h2,h3⟩
   ·exact .inl (.inr hQ)
   ·by_cases hi:mc id=.none
    ·simp [c0,hi] at h2
    ·simp only [c0,hi,if_false] at h2; exact .inr ⟨id,be,h2,h3⟩
  ·rintro ((hO | hQ) | ⟨id,be,h2,h3⟩)
   ·exact .inl (.inl (.inl hO))
   ·exact .inl (.inr hQ)
   ·by_cases hi:mc id=.none
    ·exact .inl (.inl (.inr ⟨id,be,hi,h2,h3⟩))
    ·exact .inr ⟨id,be,by simp [c0,hi,h2],h3⟩
 have mh:c.Le c0:=⟨Nat.le_refl _,fun b _ hx=>⟨rfl,fun nY=>hx ((hX b).1 nY)⟩,fun _ _ h=>⟨rfl,h⟩⟩
 have BJ:∀ id,mc id ≠ .none→js (c.B id) (c0.B id):=fun id hi=>by simp only [c0,hi,if_false]; exact js.refl _
 have px : bZ c0 mc := by
  refine ⟨fun id=>?_,?_,?_,?_,fun b hb=>⟨?_,?_,(hm.cQ b hb).2.2⟩⟩
  ·by_cases hi:mc id=.none
   ·rw [hi]; simp [bt,c0,hi]
   ·have he:=hm.gD id
    rw [oE id hi] at he
    have hb:c0.B id=c.B id:=by simp [c0,hi]
    rw [hb]
    cases hx:mc id with
    | none=>exact absurd hx hi
    | some le =>
     rw [hx] at he
     cases le with
     | box cs =>
      simp only [bt] at he ⊢
      obtain ⟨b,us,e,h1,h2,h3,h4⟩:=he
      exact ⟨b,us,e,h1,h2,aC.mono mh cs us (fun j hj=>BJ j (pq id _ hx j hj)) h3,h4⟩
     | arr e k xs =>
      simp only [bt] at he ⊢
      obtain ⟨u,us,h1,h0,h2,h3,h4,h5⟩:=he
      exact ⟨u,us,h1,h0,h2,aC.mono mh xs us (fun j hj=>by rw [az xs h5] at hj; cases hj) h3,h4,h5⟩
     | nest e k os xs =>
      simp only [bt] at he ⊢
      obtain ⟨u,us,bs,h1,h0,h2,h3,h4⟩:=he
      exact ⟨u,us,bs,h1,h0,h2,h3.mono mh (fun b _=>rfl),h4⟩
     | cW e k os xs i o id2 n2 =>
      simp only [bt] at he ⊢
      obtain ⟨u,us,bs,h1,h0,h2,h3,⟨ws,v,q1,q2,q3⟩,h4⟩:=he
      exact ⟨u,us,bs,h1,h0,h2,h3.mono mh (fun b _=>rfl),⟨ws,v,q1,q2,av.mono mh (.arr id2 n2) v (fun j hj=>BJ j (pq id _ hx j hj)) q3⟩,h4⟩
     | dead=>simpa only [bt] using he
     | map kt vt es =>
      simp only [bt] at he ⊢
      obtain ⟨b,jw,ck,h1,h2,h3,h4,h5,h6,h7⟩:=he
      exact ⟨b,jw,ck,h1,h2,aC.mono mh _ _ (fun j hj=>by rw [az _ h5] at hj; cases hj) h3,aC.mono mh _ _ (fun j hj=>by rw [az _ h6] at hj; cases hj) h4,h5,h6,h7⟩
  ·intro i i' be eD b h1 h2 h3 h4
   by_cases hi:mc i=.none
   ·simp [c0,hi] at h1
   ·by_cases gn:mc i'=.none
    ·simp [c0,gn] at h2
    ·simp only [c0,hi,gn,if_false] at h1 h2; exact hm.inj i i' be eD b h1 h2 h3 h4
  ·rintro b ⟨id,be,h1,h2⟩ hO
   by_cases hi:mc id=.none
   ·simp [c0,hi] at h1
   ·simp only [c0,hi,if_false] at h1
    rcases hO with hO | ⟨j,eD,h3,h4,h5⟩
    ·exact hm.jQ b ⟨id,be,h1,h2⟩ hO
    ·have:=hm.inj id j be eD b h1 h4 h2 h5
     subst this; exact hi h3
  ·rintro b (hO | ⟨j,eD,h3,h4,h5⟩)
   ·exact hm.pb b hO
   ·exact hm.kW ⟨j,eD,h4,h5⟩
  ·rintro (hO | ⟨j,eD,h3,h4,h5⟩)
   ·exact (hm.cQ b hb).1 hO
   ·exact (hm.cQ b hb).2.1 ⟨j,eD,h4,h5⟩
  ·rintro ⟨id,be,h1,h2⟩
   by_cases hi:mc id=.none
   ·simp [c0,hi] at h1
   ·simp only [c0,hi,if_false] at h1; exact (hm.cQ b hb).2.1 ⟨id,be,h1,h2⟩
 have Vp:aC c0 args vs:=aC.mono mh args vs (fun id bE=>BJ id (hargs id bE)) ha
 refine (h c0 vs px Vp).mono ?_
 rintro en w' ⟨v,c1,rfl,rfl,iD,kr,hg⟩
 have E0:∀ id,mc id ≠ .none→∃ be eD,c.B id=some be∧c1.B id=some eD∧be.kP eD:=by
  intro id hi
  have he:=px.gD id
  cases hx:mc id with
  | none=>exact absurd hx hi
  | some le =>
   have hb:c0.B id=c.B id:=by simp [c0,hi]
   cases HN:c0.B id with
   | none=>rw [hx,HN] at he; cases le <;> simp [bt] at he
   | some be =>
    obtain ⟨eD,h1,h2⟩:=hg.AT id be hi HN
    exact ⟨be,eD,by rw [← hb]; exact HN,h1,h2⟩
 have sP:∀ id,mc id ≠ .none→mu id ≠ .none:=by
  intro id hi gn
  have he:=iD.gD id
  rw [gn] at he
  simp only [bt] at he
  obtain ⟨be,eD,_,h2,_⟩:=E0 id hi
  rw [he] at h2; cases h2
 have Mr:∀ id be,c.B id=some be→mc id=.none→mu id=.none:=by
  intro id be hb hi
  by_cases gn:mu id=.none
  ·exact gn
  ·have:=hm.fresh (rn id hi gn); rw [this] at hb; cases hb
 have KV:¬ (fun id=>mc id ≠ .none) dp:=fun h'=>h' vZ
 have Np:gX c0 c1:=hg.keeps KV px
 let c':Cx:=⟨c1.w,fun id=>if mu id=.none then c.B id else c1.B id,c.O,c1.Q⟩
 have Ab : ∀ b, c'.X b ↔ c1.X b := by
  intro b
  constructor
  ·rintro ((hO | hQ) | ⟨id,be,h2,h3⟩)
   ·exact .inl (.inl (by rw [hg.O]; exact .inl hO))
   ·exact .inl (.inr hQ)
   ·by_cases hi:mu id=.none
    ·simp only [c',hi,if_true] at h2
     have hn:mc id=.none:=by
      cases hx:mc id with
      | none=>rfl
      | some le=>exact absurd hi (sP id (by simp [hx]))
     exact .inl (.inl (by rw [hg.O]; exact .inr ⟨id,be,hn,h2,h3⟩))
    ·simp only [c',hi,if_false] at h2; exact .inr ⟨id,be,h2,h3⟩
  ·rintro ((hO | hQ) | ⟨id,be,h2,h3⟩)
   ·rw [hg.O] at hO
    rcases hO with hO | ⟨id,be,h1,h2,h3⟩
    ·exact .inl (.inl hO)
    ·exact .inr ⟨id,be,by simp [c',Mr id be h2 h1,h2],h3⟩
   ·exact .inl (.inr hQ)
   ·refine .inr ⟨id,be,?_,h3⟩
    have:mu id ≠ .none:=fun hn=>by have:=iD.fresh hn; rw [this] at h2; cases h2
    simp [c',this,h2]
 have Am:c1.Le c':=⟨Nat.le_refl _,fun b _ hx=>⟨rfl,fun nY=>hx ((Ab b).1 nY)⟩,fun _ _ h=>⟨rfl,h⟩⟩
 have HI:∀ id,js (c1.B id) (c'.B id):=by
  intro id
  by_cases hi:mu id=.none
  ·rw [iD.fresh hi]; trivial
  ·simp only [c',hi,if_false]; exact js.refl _
 have IW:∀ id be,c.B id=some be→∃ eD,c'.B id=some eD∧be.kP eD:=by
  intro id be hb
  by_cases hi:mu id=.none
  ·exact ⟨be,by simp [c',hi,hb],.refl be⟩
  ·simp only [c',hi,if_false]
   by_cases hc:mc id=.none
   ·have:=Mr id be hb hc; exact absurd this hi
   ·obtain ⟨QJ,eD,h1,h2,h3⟩:=E0 id hc
    rw [hb] at h1; cases h1
    exact ⟨eD,h2,h3⟩
 have uS:∀ b,c0.own b→c.own b:=by
  rintro b ⟨id,be,h1,h2⟩
  by_cases hi:mc id=.none
  ·simp [c0,hi] at h1
  ·simp only [c0,hi,if_false] at h1; exact ⟨id,be,h1,h2⟩
 have jH:Grow pr c c':=by
  refine ⟨rfl,hg.os,hg.tape,hg.output,hg.drawn,hg.size,fun b hb ho _=>hg.jA b hb ?_ (.inr KV),fun _ b n hb=>(Np b n hb).2,fun b hb=>(hg.qn b hb).elim .inl (fun h=>h.elim (fun h=>.inr (.inl (uS b h))) (fun h=>.inr (.inr h))),?_,fun id be _ hb=>IW id be hb⟩
  ·rintro ⟨id,be,h1,h2⟩
   by_cases hi:mc id=.none
   ·simp [c0,hi] at h1
   ·simp only [c0,hi,if_false] at h1; exact ho ⟨id,be,h1,h2⟩
  ·rintro b ⟨id,be,h1,h2⟩
   by_cases hi:mu id=.none
   ·simp only [c',hi,if_true] at h1; exact .inl ⟨id,be,h1,h2⟩
   ·simp only [c',hi,if_false] at h1
    rcases hg.own b ⟨id,be,h1,h2⟩ with ⟨j,eD,h3,h4⟩ | hs
    ·by_cases hj:mc j=.none
     ·simp [c0,hj] at h3
     ·simp only [c0,hj,if_false] at h3; exact .inl ⟨j,eD,h3,h4⟩
    ·exact .inr hs
 have dA:∀ id,js (c.B id) (c'.B id):=by
  intro id
  cases hb:c.B id with
  | none=>trivial
  | some be =>
   obtain ⟨eD,h1,h2⟩:=IW id be hb
   rw [h1]
   cases be with
   | box b n=>simp only [BE.kP] at h2; subst h2; exact js.refl _
   | arr u k len ins=>simp only [BE.kP] at h2; obtain ⟨u',ln,ll,rfl,h3,h4⟩:=h2; exact ⟨_,_,_,rfl,h3,h4⟩
   | mp b=>simp only [BE.kP] at h2; subst h2; exact js.refl _
 have lT:gX c c':=fun b n hb=>Np b n hb
 refine ⟨v,c',rfl,rfl,⟨fun id=>?_,?_,?_,?_,fun b hb=>⟨?_,?_,(iD.cQ b hb).2.2⟩⟩,av.mono Am lv v (fun id _=>HI id) kr,jH,dA,lT⟩
 ·by_cases hi:mu id=.none
  ·have hb:c'.B id=c.B id:=by simp [c',hi]
   have Sd:m.over mu id=m id:=by simp [Mem.over,hi]
   rw [Sd,hb]
   refine (hm.gD id).mono (jH.le lT) dA fun be b h1 h2=>?_
   refine hg.jA b ((hm.gD id).lt h1 h2) ?_ (.inr KV)
   rintro ⟨j,eD,h3,h4⟩
   by_cases hj:mc j=.none
   ·simp [c0,hj] at h3
   ·simp only [c0,hj,if_false] at h3
    have:=hm.inj id j be eD b h1 h3 h2 h4
    subst this
    exact absurd hi (sP id hj)
  ·have hb:c'.B id=c1.B id:=by simp [c',hi]
   cases hx:mu id with
   | none=>exact absurd hx hi
   | some le =>
    have Sd:m.over mu id=mu id:=by simp [Mem.over,hx]
    rw [Sd,hb]
    exact (iD.gD id).mono Am HI fun _ _ _ _=>rfl
 ·intro i i' be eD b h1 h2 h3 h4
  by_cases hi:mu i=.none <;> by_cases gn:mu i'=.none
  ·simp only [c',hi,gn,if_true] at h1 h2; exact hm.inj i i' be eD b h1 h2 h3 h4
  ·simp only [c',hi,if_true] at h1
   simp only [c',gn,if_false] at h2
   refine absurd ?_ (iD.jQ b ⟨i',eD,h2,h4⟩)
   rw [hg.O]
   refine .inr ⟨i,be,?_,h1,h3⟩
   cases hx:mc i with
   | none=>rfl
   | some le=>exact absurd hi (sP i (by simp [hx]))
  ·simp only [c',hi,if_false] at h1
   simp only [c',gn,if_true] at h2
   refine absurd ?_ (iD.jQ b ⟨i,be,h1,h3⟩)
   rw [hg.O]
   refine .inr ⟨i',eD,?_,h2,h4⟩
   cases hx:mc i' with
   | none=>rfl
   | some le=>exact absurd gn (sP i' (by simp [hx]))
  ·simp only [c',hi,gn,if_false] at h1 h2; exact iD.inj i i' be eD b h1 h2 h3 h4
 ·rintro b ⟨id,be,h1,h2⟩ hO
  by_cases hi:mu id=.none
  ·simp only [c',hi,if_true] at h1; exact hm.jQ b ⟨id,be,h1,h2⟩ hO
  ·simp only [c',hi,if_false] at h1; exact iD.jQ b ⟨id,be,h1,h2⟩ (by rw [hg.O]; exact .inl hO)
 ·intro b hO; exact Nat.lt_of_lt_of_le (hm.pb b hO) hg.size
 ·intro hO; exact (iD.cQ b hb).1 (by rw [hg.O]; exact .inl hO)
 ·rintro ⟨id,be,h1,h2⟩
  by_cases hi:mu id=.none
  ·simp only [c',hi,if_true] at h1
   have hn:mc id=.none:=by
    cases hx:mc id with
    | none=>rfl
    | some le=>exact absurd hi (sP id (by simp [hx]))
   exact (iD.cQ b hb).1 (by rw [hg.O]; exact .inr ⟨id,be,hn,h1,h2⟩)
  ·simp only [c',hi,if_false] at h1; exact (iD.cQ b hb).2.1 ⟨id,be,h1,h2⟩
def Cx.OQ (c' c:Cx):Prop:=c'.O=c.O∧c'.Q=c.Q
theorem Cx.OQ.refl (c:Cx):c.OQ c:=⟨rfl,rfl⟩
theorem Cx.OQ.U {c' c:Cx} (h:c'.OQ c) {b:Nat} (hb:c'.U b):c.U b:=by unfold Cx.U at *; rw [h.1,h.2] at hb; exact hb
theorem Cx.sub_le {c c':Cx} (hw:c'.w=c.w) (hO:c'.OQ c) (bf:∀ b,c'.own b→c.own b):c.Le c' :=
 ⟨by rw [hw]; exact Nat.le_refl _,fun b _ hx=>⟨by rw [hw],fun nY=>hx (nY.imp hO.U (bf b))⟩,fun b n hb=>⟨by rw [hw],by rw [hO.2]; exact hb⟩⟩
theorem Cx.mK {pr:Nat→Prop} {c c':Cx} (hw:c'.w=c.w) (hO:c'.OQ c) (bf:∀ b,c'.own b→c.own b) (hp:∀ id be,pr id→c.B id=some be→∃ eD,c'.B id=some eD∧be.kP eD):Grow pr c c' :=
 ⟨hO.1,by rw [hw],by rw [hw],by rw [hw],by rw [hw]; exact Nat.le_refl _,by rw [hw]; exact Nat.le_refl _,fun b _ _ _=>by rw [hw],fun _ b n hb=>by rw [hO.2]; exact hb,fun b hb=>.inl (by rw [hO.2] at hb; exact hb),fun b ho=>.inl (bf b ho),hp⟩
theorem Grow.sub {pr:Nat→Prop} {c c1 c':Cx} (h:Grow pr c c1) (hw:c'.w=c1.w) (hO:c'.OQ c1) (bf:∀ b,c'.own b→c1.own b) (hp:∀ id be,pr id→c.B id=some be→∃ eD,c'.B id=some eD∧be.kP eD):Grow pr c c' :=
 ⟨hO.1.trans h.O,by rw [hw]; exact h.os,by rw [hw]; exact h.tape,by rw [hw]; exact h.output,by rw [hw]; exact h.drawn,by rw [hw]; exact h.size,fun b hb ho hq=>by rw [hw]; exact h.jA b hb ho hq,fun hp b n hb=>by rw [hO.2]; exact h.q hp b n hb,fun b hb=>h.qn b (by rw [hO.2] at hb; exact hb),fun b ho=>h.own b (bf b ho),hp⟩
theorem bZ.nq {c c':Cx} {m:Mem} (h:bZ c m) (hw:c'.w=c.w) (hO:c'.OQ c) (bf:∀ b,c'.own b→c.own b):∀ b,c'.Q b ≠ .none→¬ c'.O b∧¬ c'.own b∧b<c'.w.heap.size:=fun b hb=>by
 rw [hO.2] at hb; rw [hO.1,hw]
 exact ⟨(h.cQ b hb).1,fun ho=>(h.cQ b hb).2.1 (bf b ho),(h.cQ b hb).2.2⟩
theorem bZ.UN {c c':Cx} {m:Mem} (h:bZ c m) (hO:c'.OQ c) (fj:c.w.heap.size≤c'.w.heap.size) (bf:∀ b,c'.own b→c.own b ∨ c.w.heap.size≤b):∀ b,c'.Q b ≠ .none→¬ c'.O b∧¬ c'.own b∧b<c'.w.heap.size:=fun b hb=>by
 rw [hO.2] at hb; rw [hO.1]
 exact ⟨(h.cQ b hb).1,fun ho=>(bf b ho).elim (h.cQ b hb).2.1 (fun hs=>by have:=(h.cQ b hb).2.2; omega),Nat.lt_of_lt_of_le (h.cQ b hb).2.2 fj⟩
theorem bZ.FI {c c':Cx} {m:Mem} (h:bZ c m) (hO:c'.OQ c) (gx:∀ b,b<c.w.heap.size→¬ c.own b→c'.w.heap[b]?=c.w.heap[b]?):gX c c':=fun b n hb=>by
 have hn:=h.cQ b (by rw [hb]; simp)
 exact ⟨gx b hn.2.2 hn.2.1,by rw [hO.2]; exact hb⟩
theorem bZ.TB {c:Cx} {m:Mem} (h:bZ c m) {b:Nat} (hb:c.own b):¬ c.U b:=fun hu=>hu.elim (h.jQ b hb) (fun hq=>(h.cQ b hq).2.1 hb)
end Go.L
namespace Go.L
def tsize (P:Program) (t:TypeId):Nat:=((P.info? t).map (·.size)).getD 0
def tagg (P:Program) (t:TypeId):Bool:=match P.underlying t with | some (.struct _)=>true | some (.array _ _)=>true | _=>false
def tok (P:Program) (t:TypeId):Bool:=(P.info? t).isSome && (P.underlying t).isSome
def telem (P:Program) (t:TypeId):Option Nat:=match P.underlying t with | some (.slice e)=>some e | _=>.none
def tfield (P:Program) (t:TypeId) (f:Nat):Option (Nat × Nat):=match P.underlying t with | some (.struct fs)=>(fs[f]?).map fun x=>(x.offset,x.type) | _=>.none
def vw (P:Program) (t:TypeId):Bool:=match P.underlying t with | some .bool=>true | _=>false
def tint (P:Program) (t:TypeId):Option IntKind:=match P.underlying t with | some (.int k)=>some k | _=>.none
def gI (P:Program) (t:TypeId):Bool:=match P.info? t with
 | some i=>(match i.zero with | some z=>z.cells.size == i.size && z.cells.all (·.oneCell') | .none=>false) && decide (0<i.size) && decide (i.bytes≤256)
 | .none=>false
def uu:Value→LV
 | .int k n=>.int k n
 | .bool b=>.bool b
 | .slice .none 0 0=>.nil
 | .pointer .none=>.fh
 | .nilFunc=>.mj
 | .string s=>.str s
 | _=>.eF
def D9:Value→LV
 | .agg cs=>.agg (cs.toList.map uu)
 | v=>uu v
def tzero (P:Program) (t:TypeId):Option LV:=match P.info? t with
 | some i=>(match i.zero with | some z=>if z.cells.all (·.oneCell') then some (D9 z) else .none | .none=>.none)
 | .none=>.none
def tbuild (P:Program) (t:TypeId):Bool:=match P.underlying t with
 | some (.struct fields)=>(fields.toList.mapM (fun f=>(P.info? f.type).map fun i=>(f.offset,i.size))).isSome
 | _=>false
def c9 (e:Env):Operand→LV
 | .tmp t=>e t
 | .const v=>D9 v
 | .global _=>.eF
 | .func f=>.fn f []
def rep (cs:List LV) (o:Nat) (ns:List LV):List LV:=cs.take o++ns++cs.drop (o+ns.length)
def j9:LV→Option Value
 | .int k n=>some (.int k n)
 | .bool b=>some (.bool b)
 | _=>.none
def eo:List LV→Option (List Value)
 | []=>some []
 | x :: xs=>match j9 x,eo xs with | some v,some vs=>some (v :: vs) | _,_=>.none
def nQ (P:Program) (t:TypeId) (xs ys:List LV) (b:Bool):Prop :=
 P.eqGuardType P.depth t=false∧∃ vs us,eo xs=some vs∧eo ys=some us∧∀ w,(Op.equal t (.agg vs.toArray) (.agg us.toArray)).run P w=.ok b w
def loadC (P:Program) (t:TypeId) (cs:List LV) (K:LV→Prop):Prop :=
 tok P t=true∧if tagg P t=true then tsize P t≤cs.length∧K (.agg (cs.take (tsize P t))) else match cs with | x :: _=>K x | []=>False
def oF (op:BinOp) (k:IntKind) (a b:Int) (K:LV→Prop):Prop :=
 match op with
 | .add=>K (.int k (k.wrap (a+b)))
 | .sub=>K (.int k (k.wrap (a - b)))
 | .mul=>K (.int k (k.wrap (a * b)))
 | .quo=>b ≠ 0∧K (.int k (k.wrap (a.tdiv b)))
 | .rem=>b ≠ 0∧K (.int k (a.tmod b))
 | .eql=>K (.bool (a == b))
 | .neq=>K (.bool (a != b))
 | .lss=>K (.bool (decide (a<b)))
 | .leq=>K (.bool (decide (a≤b)))
 | .gtr=>K (.bool (decide (a > b)))
 | .geq=>K (.bool (decide (a ≥ b)))
 | _=>False
def lX (P:Program) (t:TypeId):List LV→List (Nat × LV)→Option (List LV)
 | cs,[]=>some cs
 | cs,(i,x) :: r=>match tfield P t i with
  | some (off,ft)=>if x.cells.length=tsize P ft∧off+x.cells.length≤cs.length∧tok P ft=true∧x.cells.all LV.scalar=true then lX P t (rep cs off x.cells) r else .none
  | .none=>.none
def yZ (y:LV) (o:Nat) (x:LV):Option LV :=
 match y with
 | .agg cs=>if o+x.cells.length≤cs.length∧cs.all LV.scalar=true then some (.agg (rep cs o x.cells)) else .none
 | _=>if o=0∧x.scalar=true∧y.scalar=true then some x else .none
def Bs (P:Program) (f:Nat) (args:List LV) (m:Mem) (K:LV→Mem→Prop):Prop :=
 ∃ lv mc mu,aM P f args mc lv mu∧(∀ id,mc id ≠ .none→m id=mc id)∧(∀ id,mc id=.none→mu id ≠ .none→m id=.none) ∧
  (∀ id,LV.cu id args=false→mc id ≠ .none)∧mc dp=.none∧(∀ id le,mc id=some le→∀ j,le.kU j=false→mc j ≠ .none)∧K lv (m.over mu)
def Src (k:Nat) (y:LV) (ys:List LV):Prop:=y=.ak k ys ∨ (y=.nil∧ys=[]) ∨ ∃ t e,y=.aI t e k ys
def qK (k:Nat) (xs:List LV):Prop:=∀ x ∈ xs,x.pure=true∧x.cells.length=k∧x.cells.all LV.scalar=true
def LOp (P:Program) (pr:Nat→Prop) (ro:List Nat) (o:Oper) (ev:Operand→LV) (m:Mem) (K:LV→Mem→Prop):Prop :=
 match o.op with
 | .move x=>K (ev x) m
 | .assign x=>K (ev x) m
 | .pick c a b=>match ev c with | .bool t=>K (if t then ev a else ev b) m | _=>False
 | .alloc t=>match tzero P t,o.dst with
  | some z,some d=>m (100+d)=.none∧K (.ptr (100+d) 0) (m.put (100+d) (.box z.cells))
  | _,_=>False
 | .box _ x=>match o.dst with
  | some d=>(ev x).cells.all LV.scalar=true ∧
   if ro.contains d=true then K (.ag (ev x).cells) m
   else m (100+d)=.none∧K (.ptr (100+d) 0) (m.put (100+d) (.box (ev x).cells))
  | .none=>False
 | .build t parts=>tbuild P t=true∧match tzero P t with
  | some (.agg z)=>match lX P t z (parts.toList.map fun p=>(p.1,ev p.2)) with
   | some cs=>K (.agg cs) m
   | .none=>False
  | _=>False
 | .buildSlice t len parts=>match telem P t with
  | some e=>gI P e=true∧len * tsize P e≤16777216∧parts.toList.map (·.1)=List.range len∧qK (tsize P e) (parts.toList.map fun p=>ev p.2)∧K (.ak (tsize P e) (parts.toList.map fun p=>ev p.2)) m
  | .none=>False
 | .load t a=>match ev a with
  | .ag cs=>loadC P t cs fun lv=>K lv m
  | .ptr id o=>match m id with
   | some (.box cs)=>o≤cs.length∧loadC P t (cs.drop o) fun lv=>K lv m
   | _=>False
  | .bJ id n i o=>match m id with
   | some (.arr _ _ xs)=>n=xs.length∧∃ x,xs[i]?=some x∧x.cells.all LV.scalar=true∧o≤x.cells.length∧loadC P t (x.cells.drop o) fun lv=>K lv m
   | _=>False
  | _=>False
 | .store t a x=>(ev x).cells.all LV.scalar=true∧tok P t=true∧tsize P t=(ev x).cells.length∧match ev a with
  | .ptr id o=>match m id with
   | some (.box cs)=>o+(ev x).cells.length≤cs.length∧K .eF (m.put id (.box (rep cs o (ev x).cells)))
   | _=>False
  | .bJ id n i o=>match m id with
   | some (.arr e k xs)=>n=xs.length∧LV.bk (ev x).cells=true∧∃ y z,xs[i]?=some y∧yZ y o (ev x)=some z∧K .eF (m.put id (.arr e k (xs.set i z)))
   | _=>False
  | _=>False
 | .nilCheck x=>match ev x with
  | .ptr _ _=>K (ev x) m
  | .ag _=>K (ev x) m
  | .bJ id n _ _=>(match m id with | some (.arr _ _ xs)=>n=xs.length | _=>False)∧K (ev x) m
  | .fn _ _=>K (ev x) m
  | _=>False
 | .binOp op t x y _=>match ev x,ev y with
  | .int k a,.int k' b=>k=k'∧oF op k a b fun lv=>K lv m
  | .bool a,.bool b=>vw P t=true∧(match op with | .eql=>K (.bool (a == b)) m | .neq=>K (.bool (!(a == b))) m | _=>False)
  | .agg xs,.agg ys=>∃ b,nQ P t xs ys b∧(match op with | .eql=>K (.bool b) m | .neq=>K (.bool (!b)) m | _=>False)
  | _,_=>False
 | .unOp op _ x=>match op,ev x with
  | .not,.bool b=>K (.bool (!b)) m
  | .neg,.int k n=>K (.int k (k.wrap (0 - n))) m
  | _,_=>False
 | .convert s t x=>tok P s=true∧match tint P t,ev x with
  | some k,.int _ n=>K (.int k (k.wrap n)) m
  | _,_=>False
 | .slice t x lo hi mx=>(telem P t).isSome=true∧tok P ((telem P t).getD 0)=true∧mx=.none∧match ev x with
  | .ak k xs=>some k=(telem P t).map (tsize P)∧∃ l h:Nat,(match lo with | .none=>l=0 | some y=>ev y=.int .i64 l)∧(match hi with | .none=>h=xs.length | some y=>ev y=.int .i64 h) ∧
    l≤h∧h≤xs.length∧K (.ak k ((xs.take h).drop l)) m
  | .nil=>(match lo with | .none=>True | some y=>ev y=.int .i64 0)∧(match hi with | .none=>True | some y=>ev y=.int .i64 0)∧K .nil m
  | _=>False
 | .fieldAddr t x f=>match tfield P t f with
  | some (off,ft)=>tok P ft=true∧tsize P ft ≠ 0∧match ev x with
   | .ag cs=>off≤cs.length∧K (.ag (cs.drop off)) m
   | .ptr id o=>K (.ptr id (o+off)) m
   | .bJ id n i o=>(match m id with | some (.arr _ _ xs)=>n=xs.length | _=>False)∧K (.bJ id n i (o+off)) m
   | _=>False
  | .none=>False
 | .field t x f=>match tfield P t f,ev x with
  | some (off,ft),.agg cs=>off≤cs.length∧loadC P ft (cs.drop off) fun lv=>K lv m
  | _,_=>False
 | .indexAddr t x i=>match telem P t,ev x,ev i with
  | some e,.ak k xs,.int _ n=>tok P e=true∧k=tsize P e∧0≤n∧∃ y,xs[n.toNat]?=some y∧y.cells.all LV.scalar=true∧K (.ag y.cells) m
  | some e,.arr id l,.int _ n=>match m id with
   | some (.arr _ k xs)=>tok P e=true∧l=xs.length∧k=tsize P e∧0≤n∧n<l∧K (.bJ id l n.toNat 0) m
   | _=>False
  | _,_,_=>False
 | .extract t i=>match ev t with
  | .cX vs=>∃ v,vs[i]?=some v∧K v m
  | _=>False
 | .makeFunc f first cap=>match f with
  | .func f=>first=#[]∧K (.fn f (cap.toList.map ev)) m
  | _=>False
 | .makeSlice t l c=>match telem P t,tzero P ((telem P t).getD 0),ev l,ev c,o.dst with
  | some e,some z,.int .i64 n,.int .i64 n',some d=>n=n'∧0≤n∧n≤549755813888∧gI P e=true∧z.pure=true∧m (100+d)=.none ∧
    K (.arr (100+d) n.toNat) (m.put (100+d) (.arr e (tsize P e) (List.replicate n.toNat z)))
  | _,_,_,_,_=>False
 | .call c=>match c.callee with
  | .builtin .len=>match c.args.toList,c.argTypes.toList with
   | [x],[t]=>(telem P t).isSome=true∧match ev x with
    | .ak _ xs=>K (.int .i64 xs.length) m
    | .nil=>K (.int .i64 0) m
    | .arr id n=>(match m id with | some (.arr _ _ xs)=>n=xs.length | _=>False)∧K (.int .i64 n) m
    | _=>False
   | _,_=>False
  | .builtin .append=>match c.args.toList,c.argTypes.toList with
   | [x, y], [t, t'] => t = t' ∧ match telem P t with
    | some e=>gI P e=true∧∃ ys,Src (tsize P e) (ev y) ys∧match ev x with
     | .arr id n=>¬ pr id∧match m id with
      | some (.arr e' k xs)=>e'=e∧k=tsize P e∧n=xs.length∧xs.length+ys.length≤549755813888∧K (.arr id (n+ys.length)) (m.put id (.arr e k (xs++ys)))
      | _=>False
     | .nil=>match o.dst with
      | some d=>m (100+d)=.none∧ys.length≤549755813888∧K (.arr (100+d) ys.length) (m.put (100+d) (.arr e (tsize P e) ys))
      | .none=>False
     | _=>False
    | .none=>False
   | _,_=>False
  | .value x=>match ev x with
   | .fn f cap => (∃ fn, P.funcs[f]? = some fn ∧ (fn.name == "runtime.NumGoroutine") = false ∧ fn.body.isNone = false) ∧ Bs P f (c.args.toList.map ev ++ cap) m K
   | _=>False
  | _=>False
 | _=>False
def Bt (P:Program) (pr:Nat→Prop) (ro:List Nat) (ops:Array Oper) (o:Oper) (K:Env→Mem→Prop) (e:Env) (m:Mem):Prop :=
 match o.guard with
 | .none=>LOp P pr ro o (c9 e) m fun lv m'=>K (e.fI o.dst lv) m'
 | some (j,want)=>match (ops[j]?).bind (·.dst) with
  | some g=>match e g with
   | .bool t=>if t=want then LOp P pr ro o (c9 e) m fun lv m'=>K (e.fI o.dst lv) m' else K (e.fI o.dst (.cX [])) m
   | .cX []=>K (e.fI o.dst (.cX [])) m
   | _=>False
  | .none=>False
def cr (P:Program) (pr:Nat→Prop) (o:Oper) (ev:Operand→LV) (m:Mem) (lv:LV) (m':Mem):Prop :=
 ∀ (c:Cx) (a:Act) (Q:Exit→Act→World→Prop),(∀ x,av c (ev x) (a.eval x))→bZ c m →
  o.wp P a c.w (fun a' w'=>∃ v c',a'=a.put o.dst v∧c'.w=w'∧av c' lv v∧bZ c' m'∧Step pr c c') Q
end Go.L
namespace Go.L
section lists
theorem gm (v:Value) (vs:List Value):flat (v :: vs)=v.cells.toList++flat vs:=rfl
theorem eH (vs us:List Value):flat (vs++us)=flat vs++flat us:=by simp [flat]
theorem dw {k:Nat}:∀ {vs:List Value},(∀ v ∈ vs,v.cells.size=k)→(flat vs).length=vs.length * k
 | [],_=>by simp [flat]
 | v :: vs,h=>by
  rw [gm,List.length_append,dw (k:=k) (fun u hu=>h u (by simp [hu])),List.length_cons,Array.length_toList,h v (by simp),Nat.add_mul,Nat.one_mul,Nat.add_comm]
theorem fW {k:Nat} {vs:List Value} (h:∀ v ∈ vs,v.cells.size=k) {i:Nat} {u:Value} (hu:vs[i]?=some u) :
  flat vs=flat (vs.take i)++(u.cells.toList++flat (vs.drop (i+1)))∧(flat (vs.take i)).length=i * k:=by
 have hi:i<vs.length:=(List.getElem?_eq_some_iff.1 hu).1
 have he:vs[i]=u:=(List.getElem?_eq_some_iff.1 hu).2
 constructor
 ·rw [← gm,← he,← List.drop_eq_getElem_cons hi,← eH,List.take_append_drop]
 ·rw [dw (k:=k) (fun v hv=>h v (List.mem_of_mem_take hv)),List.length_take,Nat.min_eq_left (by omega)]
theorem iv {w:World} {b off:Nat} {l1 l2 l3:List Value} (h:w.rangeAt b off (l1++(l2++l3))):w.rangeAt b (off+l1.length) l2:=by
 intro j v hv
 have hj:j<l2.length:=(List.getElem?_eq_some_iff.1 hv).1
 have:=h (l1.length+j) v (by rw [List.getElem?_append_right (by omega)]; simp [List.getElem?_append_left hj,hv])
 rw [Nat.add_assoc]; exact this
theorem fm {w:World} {b off:Nat} {l:List Value} (h:w.rangeAt b off l) (n:Nat):w.rangeAt b (off+n) (l.drop n):=by
 intro j v hv
 rw [List.getElem?_drop] at hv
 rw [Nat.add_assoc]; exact h (n+j) v hv
theorem wA {w:World} {b off:Nat} {l:List Value} (h:w.rangeAt b off l) (n:Nat):w.rangeAt b off (l.take n):=by
 intro j v hv
 refine h j v ?_
 rw [List.getElem?_take] at hv
 split at hv
 ·exact hv
 ·cases hv
theorem qP (w:World) (vs:List Value) (t:TypeId):(w.alloc (.cells vs.toArray t)).rangeAt w.heap.size 0 vs:=by
 intro j v hv
 rw [World.cell?_alloc_new]
 simpa using hv
theorem mH {w:World} {b:Nat} {vs:List Value} {e:TypeId} {fr:Nat × Nat} (h:w.heap[b]?=some (.cells vs.toArray e fr)):w.rangeAt b 0 vs:=by
 intro j v hv
 simp [World.cell?,h,hv]
theorem cU {w:World} {e k n:Nat} {u:Value} {vs:List Value} (h:w.ownsRow 0 e k u n vs) {b:Nat} (hb:u.ownBlock=some b):w.rangeAt b 0 vs:=by
 intro j v hv
 have:=h.cells hb j v hv
 rw [Addr.add_mid] at this
 exact this
end lists
theorem tx {xs:List LV} (h:LV.bk xs=true) (n:Nat):LV.bk (xs.drop n)=true :=
 cK.2 fun x hx=>cK.1 h x (List.mem_of_mem_drop hx)
theorem tz {xs:List LV} (h:LV.bk xs=true) (n:Nat):LV.bk (xs.take n)=true :=
 cK.2 fun x hx=>cK.1 h x (List.mem_of_mem_take hx)
theorem jS {xs ys:List LV} (h:LV.bk xs=true) (h':LV.bk ys=true):LV.bk (xs++ys)=true :=
 cK.2 fun x hx=>(List.mem_append.1 hx).elim (cK.1 h x) (cK.1 h' x)
theorem qf (c:Cx) (v:Value):av c (uu v) v:=by
 unfold uu
 split <;> simp [av]
theorem qe (c:Cx):∀ (vs:List Value),aC c (vs.map uu) vs
 | []=>by simp [aC]
 | v :: vs=>by simp only [List.map_cons,aC]; exact ⟨v,vs,rfl,qf c v,qe c vs⟩
theorem pQ (c:Cx) (v:Value):av c (D9 v) v:=by
 unfold D9
 split
 ·rename_i cs; simp only [av]; exact ⟨cs.toList,by simp,qe c _⟩
 ·exact qf c v
theorem AM (v:Value):(uu v).cells=[uu v]:=by
 unfold uu
 split <;> rfl
theorem mI (c:Cx) (z:Value):aC c (D9 z).cells z.cells.toList:=by
 unfold D9
 split
 ·rename_i cs; simp only [LV.cells,Value.cells]; exact qe c _
 ·rename_i h
  rw [AM]
  have:z.cells=#[z]:=by cases z <;> simp_all [Value.cells]
  rw [this]
  simp only [aC]
  exact ⟨z,[],rfl,qf c z,rfl⟩
section ops
variable {P:Program} {pr:Nat→Prop} {o:Oper} {ev:Operand→LV} {m m':Mem} {lv:LV}
theorem cr.value (h:∀ (c:Cx) (a:Act),(∀ x,av c (ev x) (a.eval x))→bZ c m→∃ v c',(execOp a.eval o).run P c.w=.ok (.value v) c'.w∧av c' lv v∧bZ c' m'∧Step pr c c'):cr P pr o ev m lv m':=by
 intro c a Q bA hm
 obtain ⟨v,c',hr,h1,h2,h3⟩:=h c a bA hm
 unfold Oper.wp
 rw [hr]
 exact ⟨v,c',rfl,rfl,h1,h2,h3⟩
theorem cr.same (h:∀ (c:Cx) (a:Act),(∀ x,av c (ev x) (a.eval x))→bZ c m→∃ v,(execOp a.eval o).run P c.w=.ok (.value v) c.w∧av c lv v):cr P pr o ev m lv m :=
 cr.value fun c a bA hm=>let ⟨v,hr,h1⟩:=h c a bA hm; ⟨v,c,hr,h1,hm,Step.refl pr c⟩
theorem B1 (x:Operand) (ho:o.op=.move x ∨ o.op=.assign x):cr P pr o ev m (ev x) m :=
 cr.same fun c a bA _=>⟨a.eval x,by rcases ho with ho | ho <;> simp [execOp,ho],bA x⟩
theorem Ii (x y z:Operand) (t:Bool) (ho:o.op=.pick x y z) (hx:ev x=.bool t):cr P pr o ev m (if t then ev y else ev z) m :=
 cr.same fun c a bA _=>by
  have h:=bA x
  rw [hx] at h
  simp only [av] at h
  refine ⟨if t then a.eval y else a.eval z,?_,?_⟩
  ·simp [execOp,ho,h,asBool]
  ·cases t
   ·exact bA z
   ·exact bA y
theorem BZ {c:Cx} {m:Mem} (hm:bZ c m) (id:Nat) (bE:m id=.none) (cs:List LV) (vs:List Value) (t:TypeId) (hl:aC c cs vs) (h1:∀ v ∈ vs,v.oneCell'=true) :
  ∃ c':Cx,c'.w=c.w.alloc (.cells vs.toArray t)∧av c' (.ptr id 0) (.pointer (some ⟨c.w.heap.size,0,.none⟩))∧bZ c' (m.put id (.box cs))∧Step pr c c':=by
 have hB:=hm.fresh bE
 obtain ⟨c',hw,hb,h2,h3⟩:=hm.Bo (pr:=pr) id (.box cs) (.box c.w.heap.size cs.length) (c.w.alloc (.cells vs.toArray t)) rfl rfl rfl (Nat.le_refl _) (by simp)
  (fun b hb _=>pA c.w _ b hb) (fun b hb=>by simp [BE.has] at hb; exact .inr (by omega)) (by rw [hB]; trivial) (fun _ dn h0=>by rw [hB] at h0; cases h0)
  (fun c' hw hle dA=>by
   simp only [bt]
   exact ⟨c.w.heap.size,vs,t,rfl,by rw [hw]; exact heap_alloc_new c.w _,aC.mono hle cs vs (fun id _=>dA id) hl,h1⟩)
 exact ⟨c',hw,by simp only [av]; exact ⟨_,_,hb,rfl⟩,h2,h3⟩
theorem xT (t:TypeId) (d:Nat) (z:LV) (ho:o.op=.alloc t) (hz:tzero P t=some z) (bE:m (100+d)=.none):cr P pr o ev m (.ptr (100+d) 0) (m.put (100+d) (.box z.cells)) :=
 cr.value fun c a bA hm=>by
  unfold tzero at hz
  split at hz
  ·rename_i i hi
   split at hz
   ·rename_i zv D8
    split at hz
    ·rename_i me
     cases hz
     have KR:∀ v ∈ zv.cells.toList,v.oneCell'=true:=fun v hv=>(Array.all_eq_true_iff_forall_mem.1 me) v (by simpa using hv)
     obtain ⟨c',hw,hr,h2,h3⟩:=BZ (pr:=pr) hm (100+d) bE (D9 zv).cells zv.cells.toList t (mI c zv) KR
     refine ⟨_,c',?_,hr,h2,h3⟩
     rw [hw]
     simp [execOp,ho,Instr.alloc,zeroValue,typeInfo,hi,D8,newVar,newRow]
    ·cases hz
   ·cases hz
  ·cases hz
theorem LJ (t:TypeId) (x:Operand) (d:Nat) (ho:o.op=.box t x) (hs:(ev x).cells.all LV.scalar=true) (bE:m (100+d)=.none):cr P pr o ev m (.ptr (100+d) 0) (m.put (100+d) (.box (ev x).cells)) :=
 cr.value fun c a bA hm=>by
  obtain ⟨hl,h1⟩:=(bA x).cellsOf hs
  obtain ⟨c',hw,hr,h2,h3⟩:=BZ (pr:=pr) hm (100+d) bE (ev x).cells (a.eval x).cells.toList t hl (fun v hv=>h1 v (by simpa using hv))
  refine ⟨_,c',?_,hr,h2,h3⟩
  rw [hw]
  simp [execOp,ho,Instr.box,newVar,newRow]
theorem Db (t:TypeId) (x:Operand) (ho:o.op=.box t x) (hs:(ev x).cells.all LV.scalar=true):cr P pr o ev m (.ag (ev x).cells) m :=
 cr.value fun c a bA hm=>by
  obtain ⟨hl,h1⟩:=(bA x).cellsOf hs
  obtain ⟨h2,h3⟩:=hm.ext (pr:=pr) (c.w.alloc (.cells (a.eval x).cells.toList.toArray t)) rfl rfl rfl (Nat.le_refl _) (by simp) (fun b hb=>pA c.w _ b hb)
  refine ⟨.pointer (some ⟨c.w.heap.size,0,.none⟩),_,by simp [execOp,ho,Instr.box,newVar,newRow],?_,h2,h3⟩
  simp only [av]
  refine ⟨c.w.heap.size,0,(a.eval x).cells.toList,rfl,by simp,?_,h3.Qm hl,fun v hv=>h1 v (by simpa using hv),qP c.w _ t⟩
  exact hm.Po (Nat.le_refl _)
theorem gi {w:World} {t:TypeId} {b off:Nat} {cs:List LV} {vs:List Value} {c:Cx} (ht:tok P t=true) (hl:aC c cs vs) (hr:w.rangeAt b off vs) :
  (tagg P t=true→tsize P t≤cs.length→(Instr.loadAt t (.pointer (some ⟨b,off,.none⟩))).run P w=.ok (.agg (vs.take (tsize P t)).toArray) w) ∧
  (tagg P t=false→∀ v fQ,vs=v :: fQ→(Instr.loadAt t (.pointer (some ⟨b,off,.none⟩))).run P w=.ok v w):=by
 unfold tok at ht
 cases hi:P.info? t with
 | none=>simp [hi] at ht
 | some i =>
  cases hu:P.underlying t with
  | none=>simp [hu] at ht
  | some d =>
   constructor
   ·intro hg hs
    have e5:tsize P t=i.size:=by simp [tsize,hi]
    refine run_loadAt_mid w b off t _ d (wA hr _) hu ?_ ?_
    ·simp only [tagg,hu] at hg
     cases d <;> simp_all
    ·simp only [hi,Option.map_some,List.length_take,e5]
     rw [e5,hl.length] at hs
     rw [Nat.min_eq_left hs]
   ·intro hg v fQ he
    subst he
    have hc:w.cell? ⟨b,off,.none⟩=some v:=by simpa using hr 0 v (by simp)
    have EL:(isAgg t).run P w=.ok false w:=by
     unfold isAgg
     rw [Sem.run_bind,run_underlying hu w]
     simp only [tagg,hu] at hg
     cases d <;> simp_all
    simp [Instr.loadAt,Instr.sureAddr,loadVar,Sem.run_bind,EL,hc]
theorem hD {t:TypeId} {cs:List LV} {K:LV→Prop} (h:loadC P t cs K) :
  ∃ lv,K lv∧∀ (c:Cx) (b off:Nat) (vs:List Value),aC c cs vs→c.w.rangeAt b off vs→∃ v,(Instr.loadAt t (.pointer (some ⟨b,off,.none⟩))).run P c.w=.ok v c.w∧av c lv v:=by
 obtain ⟨ht,h⟩:=h
 by_cases hg:tagg P t=true
 ·rw [if_pos hg] at h
  refine ⟨_,h.2,fun c b off vs hl hr=>?_⟩
  refine ⟨_,(gi ht hl hr).1 hg h.1,?_⟩
  simp only [av]
  exact ⟨_,rfl,hl.take _⟩
 ·rw [if_neg hg] at h
  match cs,h with
  | x :: cs,h =>
   refine ⟨x,h,fun c b off vs hl hr=>?_⟩
   have iL:=hl
   simp only [aC] at iL
   obtain ⟨v,fQ,rfl,hv,_⟩:=iL
   exact ⟨v,(gi ht hl hr).2 (by simpa using hg) v fQ rfl,hv⟩
theorem oO {t:TypeId} {x:Operand} (ho:o.op=.load t x)
  (h:∀ (c:Cx) (a:Act),(∀ x,av c (ev x) (a.eval x))→bZ c m→∃ b off,a.eval x=.pointer (some ⟨b,off,.none⟩)∧∃ v,(Instr.loadAt t (.pointer (some ⟨b,off,.none⟩))).run P c.w=.ok v c.w∧av c lv v):cr P pr o ev m lv m :=
 cr.same fun c a bA hm=>by
  obtain ⟨b,off,hx,v,hr,hv⟩:=h c a bA hm
  exact ⟨v,by simp [execOp,ho,hx,hr],hv⟩
end ops
end Go.L
namespace Go.L
section ops
variable {P:Program} {pr:Nat→Prop} {o:Oper} {ev:Operand→LV} {m m':Mem} {lv:LV}
theorem jd {c:Cx} {m:Mem} (hm:bZ c m) {id:Nat} {cs:List LV} (h:m id=some (.box cs)):∃ b vs e,c.B id=some (.box b cs.length)∧c.w.heap[b]?=some (.cells vs.toArray e (0,0))∧aC c cs vs∧∀ v ∈ vs,v.oneCell'=true:=by
 have:=hm.gD id
 rw [h] at this
 simp only [bt] at this
 exact this
theorem j7 {c:Cx} {m:Mem} (hm:bZ c m) {id:Nat} {e k:Nat} {xs:List LV} (h:m id=some (.arr e k xs)):∃ u vs,c.B id=some (.arr u k xs.length [])∧0<k∧c.w.ownsRow 0 e k u xs.length (flat vs)∧aC c xs vs∧(∀ v ∈ vs,v.cells.size=k∧∀ y ∈ v.cells,y.oneCell'=true)∧LV.bk xs=true:=by
 have:=hm.gD id
 rw [h] at this
 simp only [bt] at this
 exact this
theorem HE {c:Cx} {m:Mem} (hm:bZ c m) {id n i off e k:Nat} {xs:List LV} {v:Value} (hv:av c (.bJ id n i off) v) (bE:m id=some (.arr e k xs)) (hn:n=xs.length) {x:LV} (hx:xs[i]?=some x) (hs:x.cells.all LV.scalar=true) (ho:off≤x.cells.length) :
  ∃ b vs,v=.pointer (some ⟨b,i * k+off,.none⟩)∧aC c (x.cells.drop off) vs∧c.w.rangeAt b (i * k+off) vs:=by
 obtain ⟨u,vs,hB,hk,bf,hl,hc,hp⟩:=j7 hm bE
 simp only [av] at hv
 obtain ⟨_,u',k',len,ll,iB,hle,hv⟩:=hv
 rw [hB] at iB
 cases iB
 obtain ⟨b,hb,rfl⟩:=hv hn
 obtain ⟨y,hy,NJ⟩:=hl.get hx
 obtain ⟨h1,h2⟩:=fW (k:=k) (fun v hv=>(hc v hv).1) hy
 have gb:=cU bf hb
 rw [h1] at gb
 have:=iv gb
 rw [h2] at this
 simp only [Nat.zero_add] at this
 exact ⟨b,_,rfl,(NJ.cellsOf hs).1.drop off,fm this off⟩
theorem Bg {t:TypeId} {x:Operand} {K:LV→Mem→Prop} (ho:o.op=.load t x) (h:LOp P pr [] o ev m K):∃ lv m',K lv m'∧cr P pr o ev m lv m':=by
 simp only [LOp,ho] at h
 cases hx:ev x <;> simp only [hx] at h
 case ag cs =>
  obtain ⟨lv,hK,hr⟩:=hD h
  refine ⟨lv,m,hK,oO ho fun c a bA hm=>?_⟩
  have hv:=bA x
  rw [hx] at hv
  simp only [av] at hv
  obtain ⟨b,off,vs,he,_,_,hl,_,gb⟩:=hv
  exact ⟨b,off,he,hr c b off vs hl gb⟩
 case ptr id off =>
  cases hm:m id with
  | none=>simp [hm] at h
  | some le =>
   cases le with
   | map _ _ _=>simp [hm] at h
   | nest _ _ _ _=>simp [hm] at h
   | cW _ _ _ _ _ _ _ _=>simp [hm] at h
   | dead=>simp [hm] at h
   | arr e k xs=>simp [hm] at h
   | box cs =>
    simp only [hm] at h
    obtain ⟨lv,hK,hr⟩:=hD h.2
    refine ⟨lv,m,hK,oO ho fun c a bA hM=>?_⟩
    obtain ⟨b,vs,e,hB,hh,hl,h1⟩:=jd hM hm
    have hv:=bA x
    rw [hx] at hv
    simp only [av] at hv
    obtain ⟨b',n,iB,he⟩:=hv
    rw [hB] at iB
    cases iB
    have gb:=fm (mH hh) off
    simp only [Nat.zero_add] at gb
    exact ⟨b,off,he,hr c b off _ (hl.drop off) gb⟩
 case bJ id n i off =>
  cases hm:m id with
  | none=>simp [hm] at h
  | some le =>
   cases le with
   | map _ _ _=>simp [hm] at h
   | nest _ _ _ _=>simp [hm] at h
   | cW _ _ _ _ _ _ _ _=>simp [hm] at h
   | dead=>simp [hm] at h
   | box cs=>simp [hm] at h
   | arr e k xs =>
    simp only [hm] at h
    obtain ⟨hn,y,hy,hs,HV,h⟩:=h
    obtain ⟨lv,hK,hr⟩:=hD h
    refine ⟨lv,m,hK,oO ho fun c a bA hM=>?_⟩
    have hv:=bA x
    rw [hx] at hv
    obtain ⟨b,vs,he,hl,gb⟩:=HE hM hv hm hn hy hs HV
    exact ⟨b,_,he,hr c b _ vs hl gb⟩
theorem iZ {w:World} {t:TypeId} {b off:Nat} {cur:Array Value} {e:TypeId} {v:Value} (ht:tok P t=true) (hs:tsize P t=v.cells.size) (hh:w.heap[b]?=some (.cells cur e (0,0))) (hl:off+v.cells.size≤cur.size) (h1:∀ y ∈ v.cells,y.oneCell'=true) :
  (Instr.storeAt t (.pointer (some ⟨b,off,.none⟩)) v).run P w=.ok () (w.setRow b (cur.toList.take off++v.cells.toList++cur.toList.drop (off+v.cells.toList.length)).toArray):=by
 unfold tok at ht
 cases hi:P.info? t with
 | none=>simp [hi] at ht
 | some i =>
  have e5:v.cells.size=i.size:=by rw [← hs]; simp [tsize,hi]
  have kA:=run_storeCells_at (P:=P) b off e v.cells.toList 0 cur w hh (by simpa using hl) (fun y hy=>h1 y (by simpa using hy))
  simp only [Nat.add_zero] at kA
  simp [Instr.storeAt,Instr.sureAddr,storeVar,sizeOf,typeInfo,hi,e5,kA]
theorem cr.skip (h:∀ (c:Cx) (a:Act),(∀ x,av c (ev x) (a.eval x))→bZ c m→∃ c',(execOp a.eval o).run P c.w=.ok .skip c'.w∧bZ c' m'∧Step pr c c'):cr P pr o ev m .eF m':=by
 intro c a Q bA hm
 obtain ⟨c',hr,h2,h3⟩:=h c a bA hm
 unfold Oper.wp
 rw [hr]
 exact ⟨undef,c',rfl,rfl,by simp [av],h2,h3⟩
theorem Ba {cs ns:List LV} {off:Nat} (h:off+ns.length≤cs.length):(rep cs off ns).length=cs.length:=by
 simp [rep]; omega
theorem za {t:TypeId} {x y:Operand} {K:LV→Mem→Prop} (ho:o.op=.store t x y) (h:LOp P pr [] o ev m K):∃ lv m',K lv m'∧cr P pr o ev m lv m':=by
 simp only [LOp,ho] at h
 obtain ⟨wW,NQ,NS,h⟩:=h
 cases hx:ev x <;> simp only [hx] at h
 case ptr id off =>
  cases hm:m id with
  | none=>simp [hm] at h
  | some le =>
   cases le with
   | map _ _ _=>simp [hm] at h
   | nest _ _ _ _=>simp [hm] at h
   | cW _ _ _ _ _ _ _ _=>simp [hm] at h
   | dead=>simp [hm] at h
   | arr e k xs=>simp [hm] at h
   | box cs =>
    simp only [hm] at h
    obtain ⟨HV,hK⟩:=h
    refine ⟨_,_,hK,cr.skip fun c a bA hM=>?_⟩
    obtain ⟨b,vs,e,hB,hh,hl,h1⟩:=jd hM hm
    have hv:=bA x
    rw [hx] at hv
    simp only [av] at hv
    obtain ⟨b',n,iB,he⟩:=hv
    rw [hB] at iB
    cases iB
    obtain ⟨D6,uq⟩:=(bA y).cellsOf wW
    have hlen:(ev y).cells.length=(a.eval y).cells.size:=by rw [D6.length]; simp
    have lA:=hl.length
    have dL:=iZ (P:=P) (t:=t) (v:=a.eval y) (off:=off) NQ (by rw [NS,hlen]) hh (by simp; omega) uq
    obtain ⟨c',hw,hb,h2,h3⟩:=hM.Bo (pr:=pr) id (.box (rep cs off (ev y).cells)) (.box b cs.length)
     (c.w.setRow b (vs.toArray.toList.take off++(a.eval y).cells.toList++vs.toArray.toList.drop (off+(a.eval y).cells.toList.length)).toArray) rfl rfl rfl (Nat.le_refl _) (by simp)
     (fun b' il ew=>setRow_other _ _ _ _ (fun e=>ew _ hB (by rw [e]; exact rfl)))
     (fun b' il=>.inl ⟨_,hB,il⟩) (by rw [hB]; exact js.refl _) (fun _ dn h0=>by rw [hB] at h0; cases h0; exact .refl _)
     (fun c' hw hle dA=>by
      simp only [bt]
      refine ⟨b,_,e,by rw [Ba HV],by rw [hw]; exact setRow_heap c.w b _ _ e _ hh,?_,?_⟩
      ·refine aC.mono hle _ _ (fun id _=>dA id) ?_
       unfold rep
       rw [D6.length]
       simp only [List.toList_toArray]
       exact ((hl.take off).append D6).append (hl.drop _)
      ·intro v hv
       simp only [List.toList_toArray,List.mem_append] at hv
       rcases hv with (hv | hv) | hv
       ·exact h1 v (List.mem_of_mem_take hv)
       ·exact uq v (by simpa using hv)
       ·exact h1 v (List.mem_of_mem_drop hv))
    refine ⟨c',?_,h2,h3⟩
    rw [hw]
    simp [execOp,ho,he,dL]
 case bJ id n i off =>
  cases hm:m id with
  | none=>simp [hm] at h
  | some le =>
   cases le with
   | map _ _ _=>simp [hm] at h
   | nest _ _ _ _=>simp [hm] at h
   | cW _ _ _ _ _ _ _ _=>simp [hm] at h
   | dead=>simp [hm] at h
   | box cs=>simp [hm] at h
   | arr e k xs =>
    simp only [hm] at h
    obtain ⟨hn,hp,z,z',hz,iN,hK⟩:=h
    refine ⟨_,_,hK,cr.skip fun c a bA hM=>?_⟩
    obtain ⟨u,vs,hB,hk,bf,hl,hc,ND⟩:=j7 hM hm
    have hv:=bA x
    rw [hx] at hv
    simp only [av] at hv
    obtain ⟨_,u',k',len,ll,iB,xD,hv⟩:=hv
    rw [hB] at iB
    cases iB
    obtain ⟨b,hb,he⟩:=hv hn
    obtain ⟨y',Q7,NJ⟩:=hl.get hz
    have hi:i<xs.length:=(List.getElem?_eq_some_iff.1 hz).1
    have WU:y'.cells.size=k:=(hc y' (List.mem_of_getElem? Q7)).1
    obtain ⟨D6,uq⟩:=(bA y).cellsOf wW
    have hlen:(ev y).cells.length=(a.eval y).cells.size:=by rw [D6.length]; simp
    obtain ⟨v',SP,K9,Uo,Tk⟩:∃ v',av c z' v'∧v'.cells.toList=y'.cells.toList.take off++(a.eval y).cells.toList++y'.cells.toList.drop (off+(a.eval y).cells.toList.length)∧off+(a.eval y).cells.size≤y'.cells.size∧z'.pure=true:=by
     unfold yZ at iN
     split at iN
     ·rename_i cs
      split at iN
      ·rename_i EP
       cases iN
       simp only [av] at NJ ⊢
       obtain ⟨zs,rfl,Tm⟩:=NJ
       refine ⟨.agg (zs.take off++(a.eval y).cells.toList++zs.drop (off+(a.eval y).cells.toList.length)).toArray,⟨_,rfl,?_⟩,by simp [Value.cells],?_,?_⟩
       ·unfold rep
        rw [D6.length]
        exact ((Tm.take off).append D6).append (Tm.drop _)
       ·have h5:=Tm.length
        have h6:=EP.1
        show off+(a.eval y).cells.size≤zs.toArray.size
        simp only [List.size_toArray]; omega
       ·have UA:LV.bk cs=true:=by have:=cK.1 ND _ (List.mem_of_getElem? hz); simpa [LV.pure] using this
        simp only [LV.pure,rep]
        exact jS (jS (tz UA _) hp) (tx UA _)
      ·cases iN
     ·split at iN
      ·rename_i EP
       obtain ⟨rfl,D5,Tj⟩:=EP
       cases iN
       have h1:=eJ D5 (bA y)
       have h2:=eJ Tj NJ
       refine ⟨a.eval y,bA y,?_,?_,?_⟩
       ·rw [dq h1,dq h2]; simp
       ·rw [dq h1,dq h2]; simp
       ·rw [lR D5] at hp; simpa [LV.bk] using hp
      ·cases iN
    obtain ⟨Ns,oD⟩:=bf
    rcases oD with ⟨rfl,h0⟩ | ⟨g,cap,cur,rfl,vU,hg,kq,zA,hcs,wX⟩
    ·omega
    ·simp only [Value.ownBlock,Option.some.injEq] at hb
     subst hb
     have KG:i * k+k≤xs.length * k:=by
      have:=Nat.mul_le_mul_right k (show i+1≤xs.length by omega)
      rw [Nat.add_mul,Nat.one_mul] at this; exact this
     have Uh:xs.length * k≤cap * k:=Nat.mul_le_mul_right k kq
     have xz:i * k+off+(a.eval y).cells.size≤cur.size:=by omega
     have dL:=iZ (P:=P) (t:=t) (v:=a.eval y) (off:=i * k+off) NQ (by rw [NS,hlen]) hg xz uq
     obtain ⟨f1,f2⟩:=fW (k:=k) (fun v hv=>(hc v hv).1) Q7
     have nk:=hl.length
     have No:i<vs.length:=by omega
     have rn:flat (vs.set i v')=(flat vs).take (i * k+off)++(a.eval y).cells.toList++(flat vs).drop (i * k+off+(a.eval y).cells.toList.length):=by
      have e1:vs.set i v'=vs.take i++v' :: vs.drop (i+1):=by rw [List.set_eq_take_append_cons_drop,if_pos No]
      rw [e1,eH,gm,K9,f1,← f2]
      have e2:(a.eval y).cells.toList.length=(a.eval y).cells.size:=by simp
      have e3:y'.cells.toList.length=y'.cells.size:=by simp
      rw [List.take_length_add_append,Nat.add_assoc (flat (vs.take i)).length,List.drop_length_add_append,List.take_append_of_le_length (by omega),List.drop_append_of_le_length (by omega)]
      simp
     have Ky:(cur.toList.take (i * k+off)++(a.eval y).cells.toList++cur.toList.drop (i * k+off+(a.eval y).cells.toList.length)).take (xs.length * k)=flat (vs.set i v'):=by
      rw [rn,← wX]
      have e2:(a.eval y).cells.toList.length=(a.eval y).cells.size:=by simp
      have e4:cur.toList.length=cur.size:=by simp
      apply List.ext_getElem?
      intro j
      simp only [List.getElem?_take,List.getElem?_append,List.length_append,List.length_take,List.getElem?_drop,e2,e4]
      repeat' split
      all_goals first | rfl | omega | (congr 1; omega) | skip
     obtain ⟨c',hw,il,h2,h3⟩:=hM.Bo (pr:=pr) id (.arr e k (xs.set i z')) (.arr (.slice (some ⟨g,0,.none⟩) xs.length cap) k xs.length [])
      (c.w.setRow g (cur.toList.take (i * k+off)++(a.eval y).cells.toList++cur.toList.drop (i * k+off+(a.eval y).cells.toList.length)).toArray) rfl rfl rfl (Nat.le_refl _) (by simp)
      (fun b' il ew=>setRow_other _ _ _ _ (fun e=>ew _ hB (.inl (by rw [e]; rfl))))
      (fun b' il=>.inl ⟨_,hB,il⟩) (by rw [hB]; exact js.refl _) (fun _ dn h0=>by rw [hB] at h0; cases h0; exact .refl _)
      (fun c' hw hle dA=>by
       simp only [bt,List.length_set]
       refine ⟨.slice (some ⟨g,0,.none⟩) xs.length cap,vs.set i v',rfl,hk,⟨?_,.inr ⟨g,cap,_,rfl,vU,by rw [hw]; exact setRow_heap c.w g _ _ e _ hg,kq,zA,?_,?_⟩⟩,?_,?_,?_⟩
       ·rw [rn]
        have e2:(a.eval y).cells.toList.length=(a.eval y).cells.size:=by simp
        simp only [List.length_append,List.length_take,List.length_drop,List.length_set,Ns,e2]
        omega
       ·have e2:(a.eval y).cells.toList.length=(a.eval y).cells.size:=by simp
        simp only [List.size_toArray,List.length_append,List.length_take,List.length_drop,Array.length_toList]
        omega
       ·exact Ky
       ·refine aC.mono hle _ _ (fun id _=>dA id) (aC.of (by simpa using nk) fun j x' w' nY Hq=>?_)
        by_cases hj:j=i
        ·subst hj
         simp only [List.getElem?_set_self hi,Option.some.injEq] at nY
         simp only [List.getElem?_set_self No,Option.some.injEq] at Hq
         subst nY; subst Hq; exact SP
        ·rw [List.getElem?_set_ne (Ne.symm hj)] at nY Hq
         obtain ⟨Mg,NW,Sn⟩:=hl.get nY
         rw [Hq] at NW; cases NW; exact Sn
       ·intro v hv
        rcases List.mem_or_eq_of_mem_set hv with hv | hv
        ·exact hc v hv
        ·subst hv
         have e5:v.cells.size=k:=by
          have:=congrArg List.length K9
          have e2:(a.eval y).cells.toList.length=(a.eval y).cells.size:=by simp
          simp only [List.length_append,List.length_take,List.length_drop,Array.length_toList] at this
          omega
         refine ⟨e5,fun y0 H4=>?_⟩
         have Lq:y0 ∈ v.cells.toList:=by simpa using H4
         rw [K9] at Lq
         simp only [List.mem_append] at Lq
         rcases Lq with (hq | hq) | hq
         ·exact (hc y' (List.mem_of_getElem? Q7)).2 y0 (by simpa using List.mem_of_mem_take hq)
         ·exact uq y0 (by simpa using hq)
         ·exact (hc y' (List.mem_of_getElem? Q7)).2 y0 (by simpa using List.mem_of_mem_drop hq)
       ·refine cK.2 fun x' nY=>?_
        rcases List.mem_or_eq_of_mem_set nY with nY | nY
        ·exact cK.1 ND x' nY
        ·subst nY; exact Tk)
     refine ⟨c',?_,h2,h3⟩
     rw [hw]
     simp [execOp,ho,he,dL]
end ops
end Go.L
namespace Go.L
section ops
variable {P:Program} {pr:Nat→Prop} {o:Oper} {ev:Operand→LV} {m m':Mem} {lv:LV} {K:LV→Mem→Prop}
theorem gl {c:Cx} {m:Mem} (hm:bZ c m) {id n e k:Nat} {xs:List LV} {v:Value} (hv:av c (.arr id n) v) (bE:m id=some (.arr e k xs)) (hn:n=xs.length) :
  ∃ vs,c.B id=some (.arr v k xs.length [])∧0<k∧c.w.ownsRow 0 e k v xs.length (flat vs)∧aC c xs vs∧(∀ v ∈ vs,v.cells.size=k∧∀ y ∈ v.cells,y.oneCell'=true)∧LV.bk xs=true:=by
 obtain ⟨u,vs,hB,hk,bf,hl,hc,ND⟩:=j7 hm bE
 simp only [av] at hv
 obtain ⟨_,u',k',len,ll,iB,xD,hv⟩:=hv
 rw [hB] at iB
 cases iB
 have:=hv hn
 subst this
 exact ⟨vs,hB,hk,bf,hl,hc,ND⟩
theorem dx {w:World} {e k n:Nat} {v:Value} {vs:List Value} (h:w.ownsRow 0 e k v n vs):∃ a cap,v=.slice a n cap:=by
 rcases h.2 with ⟨rfl,rfl⟩ | ⟨g,cap,cur,rfl,_⟩
 ·exact ⟨_,_,rfl⟩
 ·exact ⟨_,_,rfl⟩
theorem tV {x:Operand} (ho:o.op=.nilCheck x) (h:LOp P pr [] o ev m K):∃ lv m',K lv m'∧cr P pr o ev m lv m':=by
 simp only [LOp,ho] at h
 cases hx:ev x <;> simp only [hx] at h
 case ptr id off =>
  refine ⟨_,_,h,cr.same fun c a bA hm=>?_⟩
  have hv:=bA x
  rw [hx] at hv
  have uU:=hv
  simp only [av] at uU
  obtain ⟨b,n,_,he⟩:=uU
  exact ⟨a.eval x,by simp [execOp,ho,he],hv⟩
 case ag cs =>
  refine ⟨_,_,h,cr.same fun c a bA hm=>?_⟩
  have hv:=bA x
  rw [hx] at hv
  have uU:=hv
  simp only [av] at uU
  obtain ⟨b,off,vs,he,_⟩:=uU
  exact ⟨a.eval x,by simp [execOp,ho,he],hv⟩
 case bJ id n i off =>
  obtain ⟨hn,hK⟩:=h
  refine ⟨_,_,hK,cr.same fun c a bA hm=>?_⟩
  have hv:=bA x
  rw [hx] at hv
  cases bE:m id with
  | none=>simp [bE] at hn
  | some le =>
   cases le with
   | map _ _ _=>simp [bE] at hn
   | nest _ _ _ _=>simp [bE] at hn
   | cW _ _ _ _ _ _ _ _=>simp [bE] at hn
   | dead=>simp [bE] at hn
   | box cs=>simp [bE] at hn
   | arr e k xs =>
    simp only [bE] at hn
    obtain ⟨u,vs,hB,_⟩:=j7 hm bE
    have uU:=hv
    simp only [av] at uU
    obtain ⟨_,u',k',len,ll,iB,xD,uU⟩:=uU
    rw [hB] at iB
    cases iB
    obtain ⟨b,_,he⟩:=uU hn
    exact ⟨a.eval x,by simp [execOp,ho,he],hv⟩
 case fn f cap =>
  refine ⟨_,_,h,cr.same fun c a bA hm=>?_⟩
  have hv:=bA x
  rw [hx] at hv
  have uU:=hv
  simp only [av] at uU
  obtain ⟨vs,he,_⟩:=uU
  exact ⟨a.eval x,by simp [execOp,ho,he],hv⟩
theorem oo {c:Cx}:∀ {xs:List LV} {vs us:List Value},eo xs=some us→aC c xs vs→vs=us
 | [],vs,us,h,hr=>by simp [eo] at h; simp [aC] at hr; rw [hr,h]
 | x :: xs,vs,us,h,hr=>by
  simp only [aC] at hr
  obtain ⟨v,fQ,rfl,hv,rr⟩:=hr
  simp only [eo] at h
  split at h
  ·rename_i v0 Rg h1 h2
   cases h
   rw [oo h2 rr]
   cases x <;> simp [j9] at h1 <;> simp only [av] at hv <;> subst h1 <;> subst hv <;> rfl
  ·cases h
theorem y6 {op:BinOp} {t t':TypeId} {x y:Operand} (ho:o.op=.binOp op t x y t') (h:LOp P pr [] o ev m K):∃ lv m',K lv m'∧cr P pr o ev m lv m':=by
 simp only [LOp,ho] at h
 cases hx:ev x <;> simp only [hx] at h
 case int k a =>
  cases hy:ev y <;> simp only [hy] at h
  case int k' b =>
   obtain ⟨rfl,h⟩:=h
   have guard:∀ w,(eqGuard op t x y (.int k a) (.int k b)).run P w=.ok () w:=by
    intro w; unfold eqGuard; cases op <;> simp
   have key:∀ lv,(∀ w,(binOp op t (.int k a) (.int k b)).run P w=.ok lv w)→∀ l:LV,(∀ c,av c l lv)→cr P pr o ev m l m:=by
    intro lv hr l hl
    refine cr.same fun c ac bA hm=>?_
    have pE:=bA x
    have o6:=bA y
    rw [hx] at pE
    rw [hy] at o6
    simp only [av] at pE o6
    refine ⟨lv,?_,hl c⟩
    simp [execOp,ho,pE,o6,guard,hr]
   cases op <;> simp only [oF] at h
   case add=>exact ⟨_,_,h,key (.int k (k.wrap (a+b))) (fun w=>by simp [binOp,Op.intArith]) _ (fun c=>by simp [av])⟩
   case sub=>exact ⟨_,_,h,key (.int k (k.wrap (a - b))) (fun w=>by simp [binOp,Op.intArith]) _ (fun c=>by simp [av])⟩
   case mul=>exact ⟨_,_,h,key (.int k (k.wrap (a * b))) (fun w=>by simp [binOp,Op.intArith]) _ (fun c=>by simp [av])⟩
   case quo=>exact ⟨_,_,h.2,key (.int k (k.wrap (a.tdiv b))) (fun w=>by simp [binOp,Op.intDiv,h.1]) _ (fun c=>by simp [av])⟩
   case rem=>exact ⟨_,_,h.2,key (.int k (a.tmod b)) (fun w=>by simp [binOp,Op.intDiv,h.1]) _ (fun c=>by simp [av])⟩
   case eql=>exact ⟨_,_,h,key (.bool (a == b)) (fun w=>by simp [binOp,Op.intCmp]) _ (fun c=>by simp [av])⟩
   case neq=>exact ⟨_,_,h,key (.bool (a != b)) (fun w=>by simp [binOp,Op.intCmp]) _ (fun c=>by simp [av])⟩
   case lss=>exact ⟨_,_,h,key (.bool (decide (a<b))) (fun w=>by simp [binOp,Op.intCmp]) _ (fun c=>by simp [av])⟩
   case leq=>exact ⟨_,_,h,key (.bool (decide (a≤b))) (fun w=>by simp [binOp,Op.intCmp]) _ (fun c=>by simp [av])⟩
   case gtr=>exact ⟨_,_,h,key (.bool (decide (a > b))) (fun w=>by simp [binOp,Op.intCmp]) _ (fun c=>by simp [av])⟩
   case geq=>exact ⟨_,_,h,key (.bool (decide (a ≥ b))) (fun w=>by simp [binOp,Op.intCmp]) _ (fun c=>by simp [av])⟩
 case bool a =>
  cases hy:ev y <;> simp only [hy] at h
  case bool b =>
   obtain ⟨ht,h⟩:=h
   have hu:P.underlying t=some .bool:=by
    unfold vw at ht
    split at ht
    ·assumption
    ·cases ht
   have guard:∀ w,(eqGuard op t x y (.bool a) (.bool b)).run P w=.ok () w:=by
    intro w; unfold eqGuard; cases op <;> simp
   have key:∀ lv,(∀ w,(binOp op t (.bool a) (.bool b)).run P w=.ok lv w)→∀ l:LV,(∀ c,av c l lv)→cr P pr o ev m l m:=by
    intro lv hr l hl
    refine cr.same fun c ac bA hm=>?_
    have pE:=bA x
    have o6:=bA y
    rw [hx] at pE
    rw [hy] at o6
    simp only [av] at pE o6
    refine ⟨lv,?_,hl c⟩
    simp [execOp,ho,pE,o6,guard,hr]
   have heq:∀ w,(Op.equal t (.bool a) (.bool b)).run P w=.ok (a == b) w:=fun w=>run_equalIn_bool' w 9999 t a b hu
   cases op <;> simp only [] at h
   case eql=>exact ⟨_,_,h,key (.bool (a == b)) (fun w=>by simp [binOp,heq]) _ (fun c=>by simp [av])⟩
   case neq=>exact ⟨_,_,h,key (.bool (!(a == b))) (fun w=>by simp [binOp,heq]) _ (fun c=>by simp [av])⟩
 case agg xs =>
  cases hy:ev y <;> simp only [hy] at h
  case agg ys =>
   obtain ⟨b,⟨VC,us,ws,Fq,Wd,heq⟩,h⟩:=h
   have guard:∀ w,(eqGuard op t x y (.agg us.toArray) (.agg ws.toArray)).run P w=.ok () w:=by
    intro w; unfold eqGuard; cases op <;> simp [VC]
   have key:∀ lv,(∀ w,(binOp op t (.agg us.toArray) (.agg ws.toArray)).run P w=.ok lv w)→∀ l:LV,(∀ c,av c l lv)→cr P pr o ev m l m:=by
    intro lv hr l hl
    refine cr.same fun c ac bA hm=>?_
    have pE:=bA x
    have o6:=bA y
    rw [hx] at pE
    rw [hy] at o6
    simp only [av] at pE o6
    obtain ⟨vs1,pE,ee⟩:=pE
    obtain ⟨vs2,o6,fD⟩:=o6
    rw [oo Fq ee] at pE
    rw [oo Wd fD] at o6
    refine ⟨lv,?_,hl c⟩
    simp [execOp,ho,pE,o6,guard,hr]
   cases op <;> simp only [] at h
   case eql=>exact ⟨_,_,h,key (.bool b) (fun w=>by simp [binOp,heq]) _ (fun c=>by simp [av])⟩
   case neq=>exact ⟨_,_,h,key (.bool (!b)) (fun w=>by simp [binOp,heq]) _ (fun c=>by simp [av])⟩
theorem Bh {op:UnOp} {t:TypeId} {x:Operand} (ho:o.op=.unOp op t x) (h:LOp P pr [] o ev m K):∃ lv m',K lv m'∧cr P pr o ev m lv m':=by
 simp only [LOp,ho] at h
 cases op <;> cases hx:ev x <;> simp only [hx] at h
 case neg.int k n =>
   refine ⟨_,_,h,cr.same fun c a bA hm=>?_⟩
   have hv:=bA x
   rw [hx] at hv
   simp only [av] at hv
   exact ⟨_,by simp [execOp,ho,hv,Op.unary,Op.intArith]; rfl,by simp [av]⟩
 case not.bool b =>
   refine ⟨_,_,h,cr.same fun c a bA hm=>?_⟩
   have hv:=bA x
   rw [hx] at hv
   simp only [av] at hv
   exact ⟨_,by simp [execOp,ho,hv,Op.unary]; rfl,by simp [av]⟩
theorem uA {s t:TypeId} {x:Operand} (ho:o.op=.convert s t x) (h:LOp P pr [] o ev m K):∃ lv m',K lv m'∧cr P pr o ev m lv m':=by
 simp only [LOp,ho] at h
 obtain ⟨hs,h⟩:=h
 cases ht:tint P t <;> simp only [ht] at h
 case some k =>
  cases hx:ev x <;> simp only [hx] at h
  case int k' n =>
   refine ⟨_,_,h,cr.same fun c a bA hm=>?_⟩
   have hv:=bA x
   rw [hx] at hv
   simp only [av] at hv
   have hu:P.underlying t=some (.int k):=by
    unfold tint at ht
    split at ht
    ·cases ht; assumption
    ·cases ht
   unfold tok at hs
   cases Fq:P.underlying s with
   | none=>simp [Fq] at hs
   | some d =>
    refine ⟨.int k (k.wrap n),?_,by simp [av]⟩
    simp [execOp,ho,hv,convert,run_underlying hu,run_underlying Fq,Conv.intToInt]
theorem rC {t:TypeId} {x:Operand} {f:Nat} (ho:o.op=.fieldAddr t x f) (h:LOp P pr [] o ev m K):∃ lv m',K lv m'∧cr P pr o ev m lv m':=by
 simp only [LOp,ho] at h
 cases nj:tfield P t f <;> simp only [nj] at h
 case some q =>
  obtain ⟨off,ft⟩:=q
  simp only at h
  obtain ⟨gM,e5,h⟩:=h
  obtain ⟨fs,fd,hu,BM,rfl,rfl⟩:∃ fs fd,P.underlying t=some (.struct fs)∧fs[f]?=some fd∧fd.offset=off∧fd.type=ft:=by
   unfold tfield at nj
   split at nj
   ·rename_i fs hu
    cases hf:fs[f]? with
    | none=>simp [hf] at nj
    | some fd=>simp [hf] at nj; exact ⟨fs,fd,hu,hf,nj.1,nj.2⟩
   ·cases nj
  have dL:∀ (w:World) (b q:Nat),(Instr.fieldAt t (.pointer (some ⟨b,q,.none⟩)) f).run P w=.ok (.pointer (some ⟨b,q+fd.offset,.none⟩)) w:=by
   intro w b q
   have hi:∃ i,P.info? fd.type=some i∧i.size ≠ 0:=by
    unfold tok at gM
    cases hi:P.info? fd.type with
    | none=>simp [hi] at gM
    | some i=>exact ⟨i,rfl,by simpa [tsize,hi] using e5⟩
   obtain ⟨i,hi,Nj⟩:=hi
   simp [Instr.fieldAt,run_underlying hu,BM,Instr.sureAddr,fieldPlace,sizeOf,typeInfo,hi,Nj,Addr.add_mid]
  cases hx:ev x <;> simp only [hx] at h
  case ag cs =>
   refine ⟨_,_,h.2,cr.same fun c a bA hm=>?_⟩
   have hv:=bA x
   rw [hx] at hv
   simp only [av] at hv
   obtain ⟨b,q,vs,he,hb,hX,hl,h1,gb⟩:=hv
   refine ⟨_,by simp [execOp,ho,he,dL]; rfl,?_⟩
   simp only [av]
   exact ⟨b,q+fd.offset,vs.drop fd.offset,rfl,hb,hX,hl.drop _,fun y hy=>h1 y (List.mem_of_mem_drop hy),fm gb _⟩
  case ptr id q =>
   refine ⟨_,_,h,cr.same fun c a bA hm=>?_⟩
   have hv:=bA x
   rw [hx] at hv
   simp only [av] at hv
   obtain ⟨b,n,hB,he⟩:=hv
   refine ⟨_,by simp [execOp,ho,he,dL]; rfl,?_⟩
   simp only [av]
   exact ⟨b,n,hB,rfl⟩
  case bJ id n i q =>
   obtain ⟨hn,hK⟩:=h
   refine ⟨_,_,hK,cr.same fun c a bA hm=>?_⟩
   have hv:=bA x
   rw [hx] at hv
   cases bE:m id with
   | none=>simp [bE] at hn
   | some le =>
    cases le with
    | map _ _ _=>simp [bE] at hn
    | nest _ _ _ _=>simp [bE] at hn
    | cW _ _ _ _ _ _ _ _=>simp [bE] at hn
    | dead=>simp [bE] at hn
    | box cs=>simp [bE] at hn
    | arr e k xs =>
     simp only [bE] at hn
     obtain ⟨u,vs,hB,_⟩:=j7 hm bE
     simp only [av] at hv
     obtain ⟨_,u',k',len,ll,iB,xD,hv⟩:=hv
     rw [hB] at iB
     cases iB
     obtain ⟨b,hb,he⟩:=hv hn
     refine ⟨_,by simp [execOp,ho,he,dL]; rfl,?_⟩
     simp only [av]
     exact ⟨rfl,u,k,xs.length,_,hB,xD,fun _=>⟨b,hb,by rw [Nat.add_assoc]⟩⟩
theorem GS {t:TypeId} {cs:List LV} {off:Nat} (h:loadC P t (cs.drop off) fun lv=>K lv m) (HV:off≤cs.length) :
  ∃ lv,K lv m∧∀ (c:Cx) (vs:List Value),aC c cs vs→∃ v,(part t vs.toArray off).run P c.w=.ok v c.w∧av c lv v:=by
 obtain ⟨ht,h⟩:=h
 unfold tok at ht
 cases hi:P.info? t with
 | none=>simp [hi] at ht
 | some i =>
  cases hu:P.underlying t with
  | none=>simp [hu] at ht
  | some d =>
   have e5:tsize P t=i.size:=by simp [tsize,hi]
   by_cases hg:tagg P t=true
   ·rw [if_pos hg] at h
    refine ⟨_,h.2,fun c vs hl=>?_⟩
    have EL:(isAgg t).run P c.w=.ok true c.w:=by
     unfold isAgg
     rw [Sem.run_bind,run_underlying hu c.w]
     simp only [tagg,hu] at hg
     cases d <;> simp_all
    refine ⟨.agg ((vs.drop off).take (tsize P t)).toArray,?_,?_⟩
    ·simp only [part,Sem.run_bind,EL,Result.andThen_ok,if_true,sizeOf,typeInfo,run_program,hi,Sem.run_pure,e5]
     congr 2
     simp [List.extract_eq_take_drop]
    ·simp only [av]
     exact ⟨_,rfl,(hl.drop off).take _⟩
   ·rw [if_neg hg] at h
    cases hcs:cs.drop off with
    | nil=>simp [hcs] at h
    | cons x r =>
     simp only [hcs] at h
     refine ⟨x,h,fun c vs hl=>?_⟩
     have EL:(isAgg t).run P c.w=.ok false c.w:=by
      unfold isAgg
      rw [Sem.run_bind,run_underlying hu c.w]
      simp only [tagg,hu] at hg
      cases d <;> simp_all
     have iL:=hl.drop off
     rw [hcs] at iL
     simp only [aC] at iL
     obtain ⟨v,fQ,he,hv,_⟩:=iL
     have EV:vs[off]?=some v:=by
      have:=congrArg (fun l=>l[0]?) he
      simpa using this
     exact ⟨v,by simp [part,EL,EV],hv⟩
theorem y8 {t:TypeId} {x:Operand} {f:Nat} (ho:o.op=.field t x f) (h:LOp P pr [] o ev m K):∃ lv m',K lv m'∧cr P pr o ev m lv m':=by
 simp only [LOp,ho] at h
 cases nj:tfield P t f <;> simp only [nj] at h
 case some q =>
  obtain ⟨off,ft⟩:=q
  cases hx:ev x <;> simp only [hx] at h
  case agg cs =>
   obtain ⟨lv,hK,hr⟩:=GS h.2 h.1
   refine ⟨lv,m,hK,cr.same fun c a bA hm=>?_⟩
   obtain ⟨fs,fd,hu,BM,rfl,rfl⟩:∃ fs fd,P.underlying t=some (.struct fs)∧fs[f]?=some fd∧fd.offset=off∧fd.type=ft:=by
    unfold tfield at nj
    split at nj
    ·rename_i fs hu
     cases hf:fs[f]? with
     | none=>simp [hf] at nj
     | some fd=>simp [hf] at nj; exact ⟨fs,fd,hu,hf,nj.1,nj.2⟩
    ·cases nj
   have hv:=bA x
   rw [hx] at hv
   simp only [av] at hv
   obtain ⟨vs,he,hl⟩:=hv
   obtain ⟨v,ee,fD⟩:=hr c vs hl
   exact ⟨v,by simp [execOp,ho,he,Instr.field,run_underlying hu,BM,asAgg,ee],fD⟩
theorem uB {t:Operand} {i:Nat} (ho:o.op=.extract t i) (h:LOp P pr [] o ev m K):∃ lv m',K lv m'∧cr P pr o ev m lv m':=by
 simp only [LOp,ho] at h
 cases hx:ev t <;> simp only [hx] at h
 case cX vs =>
  obtain ⟨x,nY,hK⟩:=h
  refine ⟨_,_,hK,cr.same fun c a bA hm=>?_⟩
  have hv:=bA t
  rw [hx] at hv
  simp only [av] at hv
  obtain ⟨us,he,hl⟩:=hv
  obtain ⟨v,kr,wY⟩:=hl.get nY
  exact ⟨v,by simp [execOp,ho,he,Instr.extract,kr],wY⟩
theorem tK {c:Cx} {ev:Operand→LV} {a:Act} (bA:∀ x,av c (ev x) (a.eval x)):∀ (xs:List Operand),aC c (xs.map ev) (xs.map a.eval)
 | []=>by simp [aC]
 | x :: xs=>by simp only [List.map_cons,aC]; exact ⟨_,_,rfl,bA x,tK bA xs⟩
theorem tU {f:Fn} {first cap:Array Operand} (ho:o.op=.makeFunc f first cap) (h:LOp P pr [] o ev m K):∃ lv m',K lv m'∧cr P pr o ev m lv m':=by
 simp only [LOp,ho] at h
 cases f <;> simp only [] at h
 case func f =>
  obtain ⟨rfl,hK⟩:=h
  refine ⟨_,_,hK,cr.same fun c a bA hm=>?_⟩
  refine ⟨.func (.func f) #[] (cap.toList.map a.eval).toArray,by simp [execOp,ho,Instr.makeFunc]; rw [← Array.toList_map,Array.toArray_toList],?_⟩
  simp only [av]
  exact ⟨_,rfl,tK bA _⟩
theorem rD {t:TypeId} {x i:Operand} (ho:o.op=.indexAddr t x i) (h:LOp P pr [] o ev m K):∃ lv m',K lv m'∧cr P pr o ev m lv m':=by
 simp only [LOp,ho] at h
 cases lU:telem P t <;> simp only [lU] at h
 case some e =>
  have hu:P.underlying t=some (.slice e):=by
   unfold telem at lU
   split at lU
   ·cases lU; assumption
   ·cases lU
  cases hx:ev x <;> simp only [hx] at h
  case ak k xs =>
   cases hi:ev i <;> simp only [hi] at h
   case int ki n =>
    obtain ⟨gM,hk,h0,y,hy,Tj,hK⟩:=h
    refine ⟨_,_,hK,cr.same fun c a bA hm=>?_⟩
    have Fx:=bA i
    rw [hi] at Fx
    simp only [av] at Fx
    have hv:=bA x
    rw [hx] at hv
    simp only [av] at hv
    obtain ⟨ad,cap,he,mB,hn,hp,hr⟩:=hv
    have dY:n.toNat<xs.length:=(List.getElem?_eq_some_iff.1 hy).1
    rcases hr with rfl | ⟨b,off,vs,rfl,hb,hX,hl,hc,gb⟩
    ·simp at dY
    ·obtain ⟨u,Ja,K6⟩:=hl.get hy
     obtain ⟨f1,f2⟩:=fW (k:=k) (fun v hv=>(hc v hv).1) Ja
     rw [f1] at gb
     have xF:=iv gb
     rw [f2] at xF
     obtain ⟨wa,Fo⟩:=K6.cellsOf Tj
     refine ⟨.pointer (some ⟨b,off+n.toNat * k,.none⟩),?_,?_⟩
     ·unfold tok at gM
      cases sO:P.info? e with
      | none=>simp [sO] at gM
      | some ie =>
       have lT:k=ie.size:=by rw [hk]; simp [tsize,sO]
       have vV:n<(xs.length:Int):=by omega
       simp [execOp,ho,he,Fx,Instr.indexAt,asIntOf,run_underlying hu,h0,vV,sizeOf,typeInfo,sO,Addr.add_mid,lT]
     ·simp only [av]
      exact ⟨b,_,u.cells.toList,rfl,hb,hX,wa,fun y hy=>Fo y (by simpa using hy),xF⟩
  case arr id l =>
   cases hi:ev i <;> simp only [hi] at h
   case int ki n =>
    cases bE:m id with
    | none=>simp [bE] at h
    | some le =>
     cases le with
     | map _ _ _=>simp [bE] at h
     | nest _ _ _ _=>simp [bE] at h
     | cW _ _ _ _ _ _ _ _=>simp [bE] at h
     | dead=>simp [bE] at h
     | box cs=>simp [bE] at h
     | arr e' k xs =>
      simp only [bE] at h
      obtain ⟨gM,iL,hk,h0,dY,hK⟩:=h
      refine ⟨_,_,hK,cr.same fun c a bA hm=>?_⟩
      have Fx:=bA i
      rw [hi] at Fx
      simp only [av] at Fx
      have hv:=bA x
      rw [hx] at hv
      obtain ⟨vs,hB,I3,bf,hl,hc,hp⟩:=gl hm hv bE iL
      rcases bf.2 with ⟨_,RE⟩ | ⟨g,cap,cur,Lh,_⟩
      ·omega
      ·refine ⟨.pointer (some ⟨g,n.toNat * k,.none⟩),?_,?_⟩
       ·unfold tok at gM
        cases sO:P.info? e with
        | none=>simp [sO] at gM
        | some ie =>
         have lT:k=ie.size:=by rw [hk]; simp [tsize,sO]
         have vV:n<(xs.length:Int):=by omega
         simp [execOp,ho,Lh,Fx,Instr.indexAt,asIntOf,run_underlying hu,h0,vV,sizeOf,typeInfo,sO,Addr.add_mid,lT]
       ·simp only [av]
        exact ⟨rfl,_,k,xs.length,_,hB,by omega,fun _=>⟨g,by rw [Lh]; rfl,by simp⟩⟩
end ops
end Go.L
namespace Go.L
section ops
variable {P:Program} {pr:Nat→Prop} {o:Oper} {ev:Operand→LV} {m m':Mem} {lv:LV} {K:LV→Mem→Prop}
theorem fO {t e:TypeId} (h:telem P t=some e):P.underlying t=some (.slice e):=by
 unfold telem at h
 split at h
 ·cases h; assumption
 ·cases h
theorem y9 {t:TypeId} {x:Operand} {lo hi mx:Option Operand} (ho:o.op=.slice t x lo hi mx) (h:LOp P pr [] o ev m K):∃ lv m',K lv m'∧cr P pr o ev m lv m':=by
 simp only [LOp,ho] at h
 obtain ⟨lU,wX,rfl,h⟩:=h
 obtain ⟨e,lU⟩:=Option.isSome_iff_exists.1 lU
 have hu:=fO lU
 have I2:∃ ie,P.info? e=some ie:=by
  simp only [lU,Option.getD_some] at wX
  unfold tok at wX
  cases hi:P.info? e with
  | none=>simp [hi] at wX
  | some ie=>exact ⟨ie,rfl⟩
 cases hx:ev x <;> simp only [hx] at h
 case nil =>
  obtain ⟨rJ,Hn,hK⟩:=h
  refine ⟨_,_,hK,cr.same fun c a bA hm=>?_⟩
  have hv:=bA x
  rw [hx] at hv
  simp only [av] at hv
  refine ⟨.slice .none 0 0,?_,by simp [av]⟩
  have h1:∀ y,lo=some y→a.eval y=.int .i64 0:=fun y hy=>by
   subst hy; simp only at rJ; have:=bA y; rw [rJ] at this; simpa only [av] using this
  have h2:∀ y,hi=some y→a.eval y=.int .i64 0:=fun y hy=>by
   subst hy; simp only at Hn; have:=bA y; rw [Hn] at this; simpa only [av] using this
  obtain ⟨ie,sO⟩:=I2
  cases lo <;> cases hi <;> simp_all [execOp,Instr.sliceAt,run_underlying hu,Instr.slice,Instr.sliceBounds,Instr.sliceBound,asIntOf,sizeOf,typeInfo]
 case ak k xs =>
  obtain ⟨hk,l,h',rJ,Hn,VN,WN,hK⟩:=h
  refine ⟨_,_,hK,cr.same fun c a bA hm=>?_⟩
  have hv:=bA x
  rw [hx] at hv
  simp only [av] at hv
  obtain ⟨ad,cap,he,mB,hn,hp,hr⟩:=hv
  have h1:∀ y,lo=some y→a.eval y=.int .i64 l:=fun y hy=>by
   subst hy; simp only at rJ; have:=bA y; rw [rJ] at this; simpa only [av] using this
  have h2:∀ y,hi=some y→a.eval y=.int .i64 h':=fun y hy=>by
   subst hy; simp only at Hn; have:=bA y; rw [Hn] at this; simpa only [av] using this
  obtain ⟨ie,sO⟩:=I2
  have lT:k=ie.size:=by simpa [lU,tsize,sO] using hk
  have dL:(execOp a.eval o).run P c.w=.ok (.value (.slice (if cap=l then ad else ad.map (·.add (l * ie.size))) (h' - l) (cap - l))) c.w:=by
   have g1:(Instr.sliceBounds true xs.length cap (lo.map a.eval) (hi.map a.eval) .none).run P c.w=.ok (l,h',cap) c.w:=by
    have b2:(h':Int)≤cap:=by omega
    have b1:(l:Int)≤h':=by omega
    cases lo <;> cases hi <;> simp_all [Instr.sliceBounds,Instr.sliceBound,asIntOf]
   simp [execOp,ho,he,Instr.sliceAt,run_underlying hu,Instr.slice,g1,sizeOf,typeInfo,sO]
  refine ⟨_,dL,?_⟩
  simp only [av]
  have hlen:((xs.take h').drop l).length=h' - l:=by simp; omega
  refine ⟨_,cap - l,by rw [hlen],by rw [hlen]; omega,fun h0=>?_,tx (tz hp _) _,?_⟩
  ·have:ad=.none:=by
    split at h0
    ·exact h0
    ·simpa using h0
   have:=hn this; omega
  ·by_cases RZ:(xs.take h').drop l=[]
   ·exact .inl RZ
   ·right
    have HW:0<h' - l:=by rw [← hlen]; exact List.length_pos_iff.2 RZ
    rcases hr with rfl | ⟨b,off,vs,rfl,hb,hX,hl,hc,gb⟩
    ·simp at RZ
    ·refine ⟨b,off+l * k,(vs.take h').drop l,?_,hb,hX,(hl.take h').drop l,fun u hu=>hc u (List.mem_of_mem_take (List.mem_of_mem_drop hu)),?_⟩
     ·rw [if_neg (by omega)]; simp [Addr.add_mid,lT]
     ·have e1:vs=vs.take l++((vs.take h').drop l++vs.drop h'):=by
       rw [← List.append_assoc]
       have:vs.take l=(vs.take h').take l:=by rw [List.take_take,Nat.min_eq_left VN]
       rw [this,List.take_append_drop,List.take_append_drop]
      rw [e1,eH,eH] at gb
      have:=iv gb
      rwa [dw (k:=k) (fun v hv=>(hc v (List.mem_of_mem_take hv)).1),List.length_take,Nat.min_eq_left (by have:=hl.length; omega)] at this
theorem DN {c0:Call} (ho:o.op=.call c0) (hc:c0.callee=.builtin .len) (h:LOp P pr [] o ev m K):∃ lv m',K lv m'∧cr P pr o ev m lv m':=by
 obtain ⟨cl,args,Mc⟩:=c0
 simp only at hc
 subst hc
 simp only [LOp,ho] at h
 split at h
 ·rename_i x t hargs uo
  obtain rfl:args=#[x]:=by apply Array.ext'; simpa using hargs
  obtain rfl:Mc=#[t]:=by apply Array.ext'; simpa using uo
  obtain ⟨lU,h⟩:=h
  obtain ⟨e,lU⟩:=Option.isSome_iff_exists.1 lU
  have hu:=fO lU
  have run:∀ (a:Act) (w:World) ad n cap,a.eval x=.slice ad n cap→(execOp a.eval o).run P w=.ok (.value (.int .i64 n)) w:=by
   intro a w ad n cap he
   simp [execOp,ho,resolve,invoke,builtin,Builtin.len_,he,run_underlying hu,goInt]
  cases hx:ev x <;> simp only [hx] at h
  case nil =>
   refine ⟨_,_,h,cr.same fun c a bA hm=>?_⟩
   have hv:=bA x
   rw [hx] at hv
   simp only [av] at hv
   exact ⟨_,run a c.w _ _ _ hv,by simp [av]⟩
  case ak k xs =>
   refine ⟨_,_,h,cr.same fun c a bA hm=>?_⟩
   have hv:=bA x
   rw [hx] at hv
   simp only [av] at hv
   obtain ⟨ad,cap,he,_⟩:=hv
   exact ⟨_,run a c.w _ _ _ he,by simp [av]⟩
  case arr id n =>
   obtain ⟨hn,hK⟩:=h
   refine ⟨_,_,hK,cr.same fun c a bA hm=>?_⟩
   have hv:=bA x
   rw [hx] at hv
   cases bE:m id with
   | none=>simp [bE] at hn
   | some le =>
    cases le with
    | map _ _ _=>simp [bE] at hn
    | nest _ _ _ _=>simp [bE] at hn
    | cW _ _ _ _ _ _ _ _=>simp [bE] at hn
    | dead=>simp [bE] at hn
    | box cs=>simp [bE] at hn
    | arr e' k xs =>
     simp only [bE] at hn
     obtain ⟨vs,hB,I3,bf,hl,hc,hp⟩:=gl hm hv bE hn
     obtain ⟨ad,cap,he⟩:=dx bf
     exact ⟨_,run a c.w _ _ _ he,by simp [av,hn]⟩
 ·cases h
theorem Bf {c0:Call} {x:Operand} (ho:o.op=.call c0) (hc:c0.callee=.value x) (h:LOp P pr [] o ev m K):∃ lv m',K lv m'∧cr P pr o ev m lv m':=by
 obtain ⟨cl,args,Mc⟩:=c0
 simp only at hc
 subst hc
 simp only [LOp,ho] at h
 cases hx:ev x <;> simp only [hx] at h
 case fn f cap =>
  obtain ⟨⟨fn,hf,E5,xu⟩,lv,mc,mu,nU,h1,h2,h3,Mo,h4,hK⟩:=h
  refine ⟨lv,_,hK,fun c a Q bA hm=>?_⟩
  have hv:=bA x
  rw [hx] at hv
  simp only [av] at hv
  obtain ⟨us,he,hl⟩:=hv
  have dL:(execOp a.eval o).run P c.w=.ok (.enter f ((args.toList.map a.eval)++us).toArray) c.w:=by
   have e1:Array.map a.eval args++us.toArray=((args.toList.map a.eval)++us).toArray:=by
    apply Array.ext'; simp
   have Ap : ¬ fn.name = "runtime.NumGoroutine" := by simpa using E5
   have Ac:¬ fn.body=.none:=fun hn=>by rw [hn] at xu; cases xu
   simp [execOp,ho,resolve,Deferred.ofValue,he,invoke,callFunc,hf,Ap,Ac,e1]
  unfold Oper.wp
  rw [dL]
  simp only [Oper.upon]
  refine (nU.frame (m:=m) h1 h2 h3 Mo h4 pr c _ hm ((tK bA _).append hl)).mono ?_
  rintro en w' ⟨v,c',rfl,rfl,iM,uU,hs⟩
  exact ⟨v,c',rfl,rfl,uU,iM,hs⟩
end ops
end Go.L
namespace Go.L
section ops
variable {P:Program} {pr:Nat→Prop} {o:Oper} {ev:Operand→LV} {m m':Mem} {lv:LV} {K:LV→Mem→Prop}
theorem qg {e:TypeId} (h:gI P e=true):∃ i z,P.info? e=some i∧i.zero=some z∧z.cells.size=i.size∧(∀ v ∈ z.cells,v.oneCell'=true)∧0<i.size∧i.bytes≤256∧tsize P e=i.size:=by
 unfold gI at h
 split at h
 ·rename_i i hi
  split at h
  ·rename_i z hz
   simp only [Bool.and_eq_true,decide_eq_true_eq,beq_iff_eq] at h
   exact ⟨i,z,hi,hz,h.1.1.1,fun v hv=>(Array.all_eq_true_iff_forall_mem.1 h.1.1.2) v hv,h.1.2,h.2,by simp [tsize,hi]⟩
  ·simp at h
 ·cases h
theorem G1 {c:Cx} {y:LV} {ys:List LV} {k:Nat} {v:Value} (hy:Src k y ys) (hv:av c y v) :
  (ys=[]∧v=.slice .none 0 0) ∨ ∃ ad cap us,v=.slice (some ad) ys.length cap∧aC c ys us∧(∀ u ∈ us,u.cells.size=k∧∀ y ∈ u.cells,y.oneCell'=true)∧LV.bk ys=true∧∀ j u,(flat us)[j]?=some u→c.w.cell? (ad.add j)=some u:=by
 rcases hy with rfl | ⟨rfl,rfl⟩ | ⟨t,e,rfl⟩
 ·simp only [av] at hv
  obtain ⟨a,cap,rfl,mB,hn,hp,hr⟩:=hv
  rcases hr with rfl | ⟨b,off,vs,rfl,hb,hX,hl,hc,gb⟩
  ·cases a with
   | none=>left; have:=hn rfl; subst this; exact ⟨rfl,rfl⟩
   | some ad=>right; exact ⟨ad,cap,[],rfl,by simp [aC],by simp,by simp [LV.bk],by simp [flat]⟩
  ·right
   exact ⟨_,cap,vs,rfl,hl,hc,hp,fun j u hu=>by rw [Addr.add_mid]; exact gb j u hu⟩
 ·simp only [av] at hv
  exact .inl ⟨rfl,hv⟩
 ·cases t
  ·simp only [av] at hv
   obtain ⟨a,cap,rfl,mB,hn,hp,hr⟩:=hv
   rcases hr with rfl | ⟨b,off,vs,rfl,hb,hX,hl,hc,gb⟩
   ·cases a with
    | none=>left; have:=hn rfl; subst this; exact ⟨rfl,rfl⟩
    | some ad=>right; exact ⟨ad,cap,[],rfl,by simp [aC],by simp,by simp [LV.bk],by simp [flat]⟩
   ·right
    exact ⟨_,cap,vs,rfl,hl,hc,hp,fun j u hu=>by rw [Addr.add_mid]; exact gb j u hu⟩
  ·simp only [av] at hv
   obtain ⟨_,hp,vs,ho,hl,hc,_⟩:=hv
   rcases ho.2 with ⟨rfl,h0⟩ | ⟨g,cap,cur,rfl,_⟩
   ·exact .inl ⟨List.eq_nil_of_length_eq_zero h0,rfl⟩
   ·exact .inr ⟨_,cap,vs,rfl,hl,hc,hp,fun j u hu=>ho.cells rfl j u hu⟩
theorem et {w:World} {t ty e:TypeId} {i:TypeInfo} {z:Value} (ht:P.underlying t=some (.slice e)) (hi:P.info? e=some i) (hz:i.zero=some z) (zD:z.cells.size=i.size) (e5:0<i.size) (DZ:i.bytes≤256)
  {v:Value} {n:Nat} {xs:List Value} (bf:w.ownsRow 0 e i.size v n xs) {a:Addr} {q cap:Nat} {news:List Value} (hl:news.length=q * i.size) (jI:∀ j u,news[j]?=some u→w.cell? (a.add j)=some u) (h1:∀ u ∈ news,u.oneCell'=true)
  (hb:n+q≤549755813888) :
  ∃ v' w',(Builtin.append_ #[t,t] ty #[v,.slice (some a) q cap]).run P w=.ok v' w'∧w'.ownsRow 0 e i.size v' (n+q) (xs++news)∧w.grownBy w' v.ownBlock∧(∀ b,v'.ownBlock=some b→v.ownBlock=some b ∨ w.heap.size≤b)∧(q=0→v'=v)∧w.drawn≤w'.drawn:=by
 have hmul:(n+q) * i.bytes≤140737488355328:=by
  have:=Nat.mul_le_mul hb DZ
  omega
 have MY:n+q≤maxLen:=by simp only [maxLen]; omega
 obtain ⟨v',w',hr,h2,h3,h4⟩:=run_append_own (P:=P) w 0 t ty e i z i.size i.bytes ht hi hz rfl rfl zD e5 v n xs bf a q cap news hl jI h1 MY hmul (Nat.zero_le _)
 refine ⟨v',w',hr,h2,h3,?_⟩
 rcases bf.2 with ⟨rfl,rfl⟩ | ⟨g,zV,cur,rfl,CL,hg,kq,zA,hcs,NO⟩
 ·by_cases hq:q=0
  ·have uU:v'=.slice .none 0 0:=h4.2 ⟨rfl,hq⟩
   subst uU
   subst hq
   have hn:news=[]:=List.eq_nil_of_length_eq_zero (by simpa using hl)
   have nW:(Builtin.append_ #[t,t] ty #[.slice .none 0 0,.slice (some a) 0 cap]).run P w=.ok (.slice .none 0 0) w:=by
    simp [Builtin.append_,run_underlying ht,sizeOf,typeInfo,hi,Builtin.lenOf,Builtin.firstCells,loadCells,loadCellsFrom]
   rw [hr] at nW
   cases nW
   exact ⟨fun b hb=>by simp [Value.ownBlock] at hb,fun _=>rfl,Nat.le_refl _⟩
  ·have fD:=run_append_nil (P:=P) w t ty e i z ht hi hz a q cap news hl jI (by omega) (by omega) (by have il:=hmul; simp only [Nat.zero_add] at il; omega)
   rw [hr] at fD
   cases fD
   exact ⟨fun b hb=>by simp [Value.ownBlock] at hb; exact .inr (by omega),fun h=>absurd h hq,by simp⟩
 ·by_cases nX:n+q≤zV
  ·have xz:n * i.size+news.length≤cur.size:=by rw [hl,hcs,← Nat.add_mul]; exact Nat.mul_le_mul_right _ nX
   have fD:=run_append_room (P:=P) w t ty e i ht hi g n zV cur hg a q cap news hl jI h1 nX xz
   rw [hr] at fD
   cases fD
   exact ⟨fun b hb=>.inl (by simpa [Value.ownBlock] using hb),(fun h=>by subst h; rfl),Nat.le_refl _⟩
  ·have holds:∀ j u,xs[j]?=some u→w.cell? ((⟨g,0,.none⟩:Addr).add j)=some u:=bf.cells (g:=g) rfl
   have fD:=run_append_grow (P:=P) w t ty e i z ht hi hz ⟨g,0,.none⟩ n zV xs bf.1 holds a q cap news hl jI (by omega) (by simp only [maxLen] at MY; omega) (growslice_fits (by omega) hmul)
   rw [hr] at fD
   cases fD
   exact ⟨fun b hb=>by simp [Value.ownBlock] at hb; exact .inr (by omega),(fun h=>by omega),by simp⟩
theorem wJ {c0:Call} (ho:o.op=.call c0) (hc:c0.callee=.builtin .append) (h:LOp P pr [] o ev m K):∃ lv m',K lv m'∧cr P pr o ev m lv m':=by
 obtain ⟨cl,args,Mc⟩:=c0
 simp only at hc
 subst hc
 simp only [LOp,ho] at h
 split at h
 ·rename_i x y t t' hargs uo
  obtain rfl:args=#[x,y]:=by apply Array.ext'; simpa using hargs
  obtain rfl:Mc=#[t,t']:=by apply Array.ext'; simpa using uo
  obtain ⟨rfl,h⟩:=h
  cases lU:telem P t <;> simp only [lU] at h
  case some e =>
   have hu:=fO lU
   obtain ⟨oD,ys,hy,h⟩:=h
   obtain ⟨i,z,hi,hz,zD,D7,e5,DZ,qI⟩:=qg oD
   have BL:∀ (a:Act) (w:World),(execOp a.eval o).run P w=((Builtin.append_ #[t,t] o.type #[a.eval x,a.eval y]).run P w).andThen fun v w'=>.ok (.value v) w':=by
    intro a w
    simp [execOp,ho,resolve,invoke,builtin]
   have main:∀ (c:Cx) (a:Act),(∀ x,av c (ev x) (a.eval x))→bZ c m→∀ (u:Value) (n:Nat) (xs:List LV) (vs:List Value),a.eval x=u→c.w.ownsRow 0 e i.size u n (flat vs)→n=xs.length→aC c xs vs→(∀ v ∈ vs,v.cells.size=i.size∧∀ y ∈ v.cells,y.oneCell'=true)→LV.bk xs=true→n+ys.length≤549755813888 →
     ∃ v' w',(execOp a.eval o).run P c.w=.ok (.value v') w'∧(∃ us,w'.ownsRow 0 e i.size v' (n+ys.length) (flat (vs++us))∧aC c (xs++ys) (vs++us)∧(∀ v ∈ vs++us,v.cells.size=i.size∧∀ y ∈ v.cells,y.oneCell'=true)∧LV.bk (xs++ys)=true) ∧
      c.w.grownBy w' u.ownBlock∧(∀ b,v'.ownBlock=some b→u.ownBlock=some b ∨ c.w.heap.size≤b)∧(ys.length=0→v'=u)∧c.w.drawn≤w'.drawn:=by
    intro c a bA hm u n xs vs hx bf hn hl hc hp hb
    rcases G1 (k:=tsize P e) hy (bA y) with ⟨rfl,hv⟩ | ⟨ad,cap,us,hv,KM,ES,E9,gb⟩
    ·refine ⟨u,c.w,?_,⟨[],by simpa using bf,by simpa using hl,by simpa using hc,by simpa using hp⟩,⟨rfl,rfl,rfl,Nat.le_refl _,fun _ _ _=>rfl⟩,fun b hb=>.inl hb,fun _=>rfl,Nat.le_refl _⟩
     rw [BL,hx,hv,run_append_owned_none (P:=P) (w:=c.w) 0 t o.type e i i.size hu hi u n _ bf]
     rfl
    ·have KN:=KM.length
     rw [qI] at ES
     have CR:(flat us).length=ys.length * i.size:=by rw [dw (k:=i.size) (fun v hv=>(ES v hv).1),KN]
     obtain ⟨v',w',hr,h2,h3,h4,h5,h6⟩:=et (P:=P) (ty:=o.type) hu hi hz zD e5 DZ bf (cap:=cap) CR gb (fun q hq=>by
      simp only [flat,List.mem_flatMap] at hq
      obtain ⟨v,hv,hq⟩:=hq
      exact (ES v hv).2 q (by simpa using hq)) hb
     refine ⟨v',w',?_,⟨us,by rw [eH]; exact h2,hl.append KM,fun v hv=>(List.mem_append.1 hv).elim (hc v) (ES v),jS hp E9⟩,h3,h4,h5,h6⟩
     rw [BL,hx,hv,hr]
     rfl
   cases hx:ev x <;> simp only [hx] at h
   case arr id n =>
    obtain ⟨VS,h⟩:=h
    cases bE:m id with
    | none=>simp [bE] at h
    | some le =>
     cases le with
     | map _ _ _=>simp [bE] at h
     | nest _ _ _ _=>simp [bE] at h
     | cW _ _ _ _ _ _ _ _=>simp [bE] at h
     | dead=>simp [bE] at h
     | box cs=>simp [bE] at h
     | arr e' k xs =>
      simp only [bE] at h
      obtain ⟨rfl,hk,hn,hb,hK⟩:=h
      refine ⟨_,_,hK,cr.value fun c a bA hm=>?_⟩
      have hv:=bA x
      rw [hx] at hv
      obtain ⟨vs,hB,I3,bf,hl,hc,hp⟩:=gl hm hv bE hn
      have xC:k=i.size:=by rw [hk,qI]
      subst xC
      obtain ⟨v',w',hr,⟨us,q1,q2,q3,q4⟩,q5,q6,q7,q8⟩:=main c a bA hm _ _ xs vs rfl bf rfl hl hc hp hb
      obtain ⟨c',hw,il,h2,h3⟩:=hm.Bo (pr:=pr) id (.arr e' i.size (xs++ys)) (.arr v' i.size (xs.length+ys.length) []) w' q5.os q5.tape q5.output q8 q5.size
       (fun b il ew=>q5.block b il (fun hh=>ew _ hB (.inl hh.symm)))
       (fun b il=>il.elim (fun il=>(q6 b il).imp (fun hh=>⟨_,hB,.inl hh⟩) (fun hh=>hh)) (fun hh=>by cases hh))
       (by rw [hB]; exact ⟨_,_,_,rfl,by omega,fun hh=>q7 (by omega)⟩) (fun mi=>absurd mi VS)
       (fun c' hw hle dA=>by
        simp only [bt,List.length_append]
        exact ⟨v',vs++us,rfl,I3,by rw [hw]; exact q1,aC.mono hle _ _ (fun id _=>dA id) q2,q3,q4⟩)
      refine ⟨v',c',by rw [hw]; exact hr,?_,h2,h3⟩
      simp only [av]
      refine ⟨?_,v',_,_,_,il,by omega,fun _=>rfl⟩
      obtain ⟨ad,cp,he⟩:=dx q1
      rw [he]; rfl
   case nil =>
    cases hd:o.dst <;> simp only [hd] at h
    case some d =>
     obtain ⟨bE,hb,hK⟩:=h
     refine ⟨_,_,hK,cr.value fun c a bA hm=>?_⟩
     have hv:=bA x
     rw [hx] at hv
     simp only [av] at hv
     have hB:=hm.fresh bE
     obtain ⟨v',w',hr,⟨us,q1,q2,q3,q4⟩,q5,q6,q7,q8⟩:=main c a bA hm _ 0 [] [] hv (World.ownsRow_nil c.w 0 e i.size) rfl (by simp [aC]) (by simp) (by simp [LV.bk]) (by omega)
     simp only [Nat.zero_add,List.nil_append] at q1 q2 q3 q4
     obtain ⟨c',hw,il,h2,h3⟩:=hm.Bo (pr:=pr) (100+d) (.arr e (tsize P e) ys) (.arr v' (tsize P e) ys.length []) w' q5.os q5.tape q5.output q8 q5.size
      (fun b il _=>q5.block b il (fun hh=>by simp [Value.ownBlock] at hh))
      (fun b il=>il.elim (fun il=>(q6 b il).elim (fun hh=>by simp [Value.ownBlock] at hh) .inr) (fun hh=>by cases hh))
      (by rw [hB]; trivial) (fun _ dn h0=>by rw [hB] at h0; cases h0)
      (fun c' hw hle dA=>by
       simp only [bt,qI]
       exact ⟨v',us,rfl,e5,by rw [hw]; exact q1,aC.mono hle _ _ (fun id _=>dA id) q2,q3,q4⟩)
     refine ⟨v',c',by rw [hw]; exact hr,?_,h2,h3⟩
     simp only [av]
     refine ⟨?_,v',_,_,_,il,by omega,fun _=>rfl⟩
     obtain ⟨ad,cp,he⟩:=dx q1
     rw [he]; rfl
 ·cases h
theorem flat_get {k:Nat} (hk:0<k):∀ {vs:List Value},(∀ v ∈ vs,v.cells.size=k)→∀ j,(flat vs)[j]?=(vs[j / k]?).bind fun v=>v.cells[j % k]?
 | [],_,j=>by simp [flat]
 | v :: vs,h,j=>by
  have hv:v.cells.toList.length=k:=by simpa using h v (by simp)
  rw [gm]
  by_cases hj:j<k
  ·rw [List.getElem?_append_left (by omega),Nat.div_eq_of_lt hj,Nat.mod_eq_of_lt hj]
   simp
  ·rw [List.getElem?_append_right (by omega),flat_get hk (fun u hu=>h u (by simp [hu])),hv]
   have e1:j / k=(j - k) / k+1:=by
    rw [show j=(j - k)+k by omega,Nat.add_div_right _ hk]; simp
   have e2:j % k=(j - k) % k:=by
    conv=>lhs; rw [show j=(j - k)+k by omega,Nat.add_mod_right]
   rw [e1,e2,List.getElem?_cons_succ]
theorem rE {t:TypeId} {x y:Operand} (ho:o.op=.makeSlice t x y) (h:LOp P pr [] o ev m K):∃ lv m',K lv m'∧cr P pr o ev m lv m':=by
 simp only [LOp,ho] at h
 split at h
 ·rename_i e z n n' d lU hz hx hy hd
  obtain ⟨rfl,h0,hb,oD,hp,bE,hK⟩:=h
  have hu:=fO lU
  obtain ⟨i,zv,hi,D8,zD,D7,e5,DZ,qI⟩:=qg oD
  refine ⟨_,_,hK,cr.value fun c a bA hm=>?_⟩
  have pE:=bA x
  have o6:=bA y
  rw [hx] at pE
  rw [hy] at o6
  simp only [av] at pE o6
  have Wl:z=D9 zv:=by
   rw [lU] at hz
   simp only [Option.getD_some,tzero,hi,D8] at hz
   split at hz
   ·cases hz; rfl
   ·cases hz
  subst Wl
  have Kk:(i.bytes:Int) * n≤281474976710656:=by
   have h1:(i.bytes:Int) * n≤256 * n:=Int.mul_le_mul_of_nonneg_right (by omega) h0
   omega
  have dL:=run_make (P:=P) c.w t e i zv hu hi D8 .i64 .i64 n n h0 (Int.le_refl _) Kk (by omega)
  have hB:=hm.fresh bE
  have ow:(madeCells zv.cells (n.toNat * i.size)).toList=flat (List.replicate n.toNat zv):=by
   apply List.ext_getElem?
   intro j
   rw [flat_get e5 (fun v hv=>by rw [List.eq_of_mem_replicate hv]; exact zD)]
   simp only [Array.getElem?_toList,madeCells,Array.getElem?_map,Array.getElem?_range,List.getElem?_replicate,zD]
   by_cases hj:j<n.toNat * i.size
   ·have h1:j / i.size<n.toNat:=(Nat.div_lt_iff_lt_mul e5).2 hj
    have h2:j % i.size<zv.cells.size:=by rw [zD]; exact Nat.mod_lt _ e5
    rw [if_pos hj,if_pos h1]
    simp [h2]
   ·have h1:¬ j / i.size<n.toNat:=fun hh=>hj ((Nat.div_lt_iff_lt_mul e5).1 hh)
    rw [if_neg hj,if_neg h1]
    rfl
  have fj:(madeCells zv.cells (n.toNat * i.size)).size=n.toNat * i.size:=size_madeCells _ _
  obtain ⟨c',hw,il,h2,h3⟩:=hm.Bo (pr:=pr) (100+d) (.arr e (tsize P e) (List.replicate n.toNat (D9 zv))) (.arr (.slice (some ⟨c.w.heap.size,0,.none⟩) n.toNat n.toNat) (tsize P e) n.toNat [])
   (c.w.alloc (.cells (madeCells zv.cells (n.toNat * i.size)) e)) rfl rfl rfl (Nat.le_refl _) (by simp)
   (fun b il _=>pA c.w _ b il) (fun b il=>by simp [BE.has,Value.ownBlock] at il; exact .inr (by omega)) (by rw [hB]; trivial) (fun _ dn h0=>by rw [hB] at h0; cases h0)
   (fun c' hw hle dA=>by
    simp only [bt,qI,List.length_replicate]
    refine ⟨_,List.replicate n.toNat zv,rfl,e5,⟨by rw [dw (k:=i.size) (fun v hv=>by rw [List.eq_of_mem_replicate hv]; exact zD)]; simp,.inr ⟨c.w.heap.size,n.toNat,_,rfl,Nat.zero_le _,by rw [hw]; exact heap_alloc_new c.w _,Nat.le_refl _,by simp only [maxLen]; omega,fj,?_⟩⟩,?_,?_,?_⟩
    ·rw [List.take_of_length_le (by rw [Array.length_toList,fj]; exact Nat.le_refl _),ow]
    ·refine aC.of (by simp) fun j q r hq hr=>?_
     rw [List.getElem?_replicate] at hq hr
     split at hq
     ·rename_i hj
      rw [if_pos hj] at hr
      cases hq; cases hr; exact pQ c' zv
     ·cases hq
    ·intro v hv
     rw [List.eq_of_mem_replicate hv]
     exact ⟨zD,D7⟩
    ·refine cK.2 fun q hq=>?_
     rw [List.eq_of_mem_replicate hq]; exact hp)
  refine ⟨.slice (some ⟨c.w.heap.size,0,.none⟩) n.toNat n.toNat,c',by rw [hw]; simp [execOp,ho,pE,o6,dL],?_,h2,h3⟩
  simp only [av]
  exact ⟨rfl,_,_,_,_,il,Nat.le_refl _,fun _=>rfl⟩
 ·cases h
theorem EI {cells:Array Value} {off:Nat} {l:Array Value} (h:off+l.size≤cells.size) :
  (l.zipIdx.foldl (fun cs (x:Value × Nat)=>cs.setIfInBounds (off+x.2) x.1) cells).toList=cells.toList.take off++l.toList++cells.toList.drop (off+l.toList.length):=by
 obtain ⟨g1,g2⟩:=Great.foldl_set off l.toList 0 cells
 have e0:l.zipIdx.foldl (fun cs (x:Value × Nat)=>cs.setIfInBounds (off+x.2) x.1) cells=(l.toList.zipIdx 0).foldl (fun cs (x:Value × Nat)=>cs.setIfInBounds (off+x.2) x.1) cells:=by
  rw [← Array.foldl_toList]; simp
 rw [e0]
 apply List.ext_getElem?
 intro j
 rw [Array.getElem?_toList,g2 j]
 have e1:l.toList.length=l.size:=by simp
 have e2:cells.toList.length=cells.size:=by simp
 simp only [Nat.add_zero,List.getElem?_append,List.length_append,List.length_take,List.getElem?_take,List.getElem?_drop,e1,e2]
 by_cases h1:j<off
 ·rw [if_neg (by omega),if_pos (by omega),if_pos (by omega),if_pos h1]; simp
 ·by_cases h2:j<off+l.size
  ·rw [if_pos (by omega),if_pos (by omega),if_neg (by omega)]
   congr 1; omega
  ·rw [if_neg (by omega),if_neg (by omega)]
   rw [← Array.getElem?_toList]; congr 1; omega
theorem sC {t:TypeId} {fields:Array Field} {tw:List (Nat × Nat)} (hu:P.underlying t=some (.struct fields)) (wV:fields.toList.mapM (fun f=>(P.info? f.type).map fun i=>(f.offset,i.size))=some tw) {c:Cx} {a:Act} (bA:∀ x,av c (ev x) (a.eval x)) :
  ∀ (parts:List (Nat × Operand)) (cs:List LV) (cells:Array Value) (r:List LV),aC c cs cells.toList→lX P t cs (parts.map fun p=>(p.1,ev p.2))=some r →
   ∃ rc,Instr.fill (tw.toArray[·]?) cells (parts.map fun p=>(p.1,a.eval p.2))=some rc∧aC c r rc.toList
 | [],cs,cells,r,hl,h=>by
  simp only [List.map_nil,lX,Option.some.injEq] at h
  subst h
  exact ⟨cells,rfl,hl⟩
 | (i, x) :: parts, cs, cells, r, hl, h => by
  simp only [List.map_cons,lX] at h
  cases nj:tfield P t i with
  | none=>simp [nj] at h
  | some q =>
   obtain ⟨off,ft⟩:=q
   simp only [nj] at h
   split at h
   ·rename_i hc
    obtain ⟨h1,h2,h3,h4⟩:=hc
    obtain ⟨uV,My⟩:=(bA x).cellsOf h4
    have UD:(ev x).cells.length=(a.eval x).cells.size:=by rw [uV.length]; simp
    have lA:cs.length=cells.size:=by rw [hl.length]; simp
    have KU : tw.toArray[i]? = some (off, tsize P ft) := by
     unfold tfield at nj
     rw [hu] at nj
     simp only at nj
     cases hf:fields[i]? with
     | none=>simp [hf] at nj
     | some fd =>
      simp only [hf,Option.map_some,Option.some.injEq,Prod.mk.injEq] at nj
      obtain ⟨rfl,rfl⟩:=nj
      have R5:∀ (fs:List Field) (ps:List (Nat × Nat)),fs.mapM (fun f=>(P.info? f.type).map fun i=>(f.offset,i.size))=some ps→∀ (i:Nat) fd,fs[i]?=some fd→ps[i]?=some (fd.offset,tsize P fd.type):=by
       intro fs
       induction fs with
       | nil=>intro ps _ i fd BM; simp at BM
       | cons f fs ih =>
        intro ps rq i fd BM
        simp only [List.mapM_cons,Option.bind_eq_bind,Option.pure_def] at rq
        cases hi:P.info? f.type with
        | none=>simp [hi] at rq
        | some inf =>
         cases hr:fs.mapM (fun f=>(P.info? f.type).map fun i=>(f.offset,i.size)) with
         | none=>simp [hi,hr] at rq
         | some rest =>
          simp [hi,hr] at rq
          subst rq
          cases i with
          | zero=>simp at BM; subst BM; simp [tsize,hi]
          | succ i=>simp at BM; simpa using ih rest hr i fd BM
      have:=R5 fields.toList tw wV i fd (by simpa using hf)
      simpa using this
    have Nc:=EI (cells:=cells) (off:=off) (l:=(a.eval x).cells) (by omega)
    obtain ⟨rc,SJ,zC⟩:=sC hu wV bA parts (rep cs off (ev x).cells) ((a.eval x).cells.zipIdx.foldl (fun cs (x:Value × Nat)=>cs.setIfInBounds (off+x.2) x.1) cells) r (by
     rw [Nc]
     unfold rep
     rw [uV.length]
     exact ((hl.take off).append uV).append (hl.drop _)) h
    refine ⟨rc,?_,zC⟩
    simp only [List.map_cons]
    unfold Instr.fill
    simp only [KU]
    rw [if_neg (by simp only [ne_eq,Bool.or_eq_true,decide_eq_true_eq,not_or,Decidable.not_not,Nat.not_lt,gt_iff_lt]; omega)]
    exact SJ
   ·cases h
theorem y7 {t:TypeId} {parts:Array (Nat × Operand)} (ho:o.op=.build t parts) (h:LOp P pr [] o ev m K):∃ lv m',K lv m'∧cr P pr o ev m lv m':=by
 simp only [LOp,ho] at h
 obtain ⟨Mw,h⟩:=h
 split at h
 ·rename_i z hz
  split at h
  ·rename_i cs hf
   refine ⟨_,_,h,cr.same fun c a bA hm=>?_⟩
   unfold tbuild at Mw
   split at Mw
   ·rename_i fields hu
    obtain ⟨tw,wV⟩:=Option.isSome_iff_exists.1 Mw
    unfold tzero at hz
    split at hz
    ·rename_i i hi
     split at hz
     ·rename_i zv D8
      split at hz
      ·have Wi:D9 zv=.agg z:=by simpa using hz
       have Wj:aC c z zv.cells.toList:=by have:=mI c zv; rw [Wi] at this; exact this
       obtain ⟨rc,SJ,zC⟩:=sC hu wV bA parts.toList z zv.cells cs Wj hf
       have hb:P.built t (parts.map fun p=>(p.1,a.eval p.2)).toList=some rc:=by
        unfold Program.built
        simp only [hi,hu,D8,wV,Array.toList_map]
        exact SJ
       have dL:=run_build (P:=P) c.w t _ rc hb
       refine ⟨.agg rc,by simp [execOp,ho,dL],?_⟩
       simp only [av]
       exact ⟨rc.toList,by simp,zC⟩
      ·cases hz
     ·cases hz
    ·cases hz
   ·cases Mw
  ·cases h
 ·cases h
theorem qk {t:TypeId} {len:Nat} {parts:Array (Nat × Operand)} (ho:o.op=.buildSlice t len parts) (h:LOp P pr [] o ev m K):∃ lv m',K lv m'∧cr P pr o ev m lv m':=by
 simp only [LOp,ho] at h
 cases lU:telem P t <;> simp only [lU] at h
 case some e =>
  obtain ⟨oD,NK,EX,EU,hK⟩:=h
  have hu:=fO lU
  obtain ⟨i,zv,hi,D8,zD,D7,e5,DZ,qI⟩:=qg oD
  refine ⟨_,_,hK,cr.value fun c a bA hm=>?_⟩
  have mE:parts.toList.length=len:=by have:=congrArg List.length EX; simpa using this
  let vs:=parts.toList.map fun p=>a.eval p.2
  have hl:aC c (parts.toList.map fun p=>ev p.2) vs:=aC.of (by simp [vs]) fun j x v hx hv=>by
   simp only [vs,List.getElem?_map,Option.map_eq_some_iff] at hx hv
   obtain ⟨p,hp,rfl⟩:=hx
   obtain ⟨p',As,rfl⟩:=hv
   rw [hp] at As; cases As; exact bA _
  have hcell:∀ v ∈ vs,v.cells.size=i.size∧∀ y ∈ v.cells,y.oneCell'=true:=by
   intro v hv
   simp only [vs,List.mem_map] at hv
   obtain ⟨p,hp,rfl⟩:=hv
   obtain ⟨_,e1,e2⟩:=EU (ev p.2) (List.mem_map.2 ⟨p,hp,rfl⟩)
   obtain ⟨e3,e4⟩:=(bA p.2).cellsOf e2
   refine ⟨?_,e4⟩
   have:=e3.length
   rw [e1,qI] at this
   simpa using this.symm
  have Fa:LV.bk (parts.toList.map fun p=>ev p.2)=true:=cK.2 fun x hx=>(EU x hx).1
  have Au:(parts.map fun (p:Nat × Operand)=>(p.1,a.eval p.2)).toList=(vs.zipIdx 0).map fun x=>(x.2,x.1):=by
   apply List.ext_getElem?
   intro j
   have hj:=congrArg (fun l=>l[j]?) EX
   simp only [List.getElem?_map,List.getElem?_range] at hj
   simp only [Array.toList_map,List.getElem?_map,List.getElem?_zipIdx,vs,Nat.zero_add]
   cases hp:parts.toList[j]? with
   | none=>simp
   | some p =>
    rw [hp] at hj
    have iC:j<len:=by
     rw [← mE]; exact (List.getElem?_eq_some_iff.1 hp).1
    rw [List.getElem?_range iC] at hj
    simp at hj
    simp [hj]
  obtain ⟨cells,xy,xA⟩:∃ cells,Instr.fill (fun i'=>some (i' * i.size,i.size)) ((Array.range (len * i.size)).map (zv.cells[· % zv.cells.size]!)) (parts.map fun (p:Nat × Operand)=>(p.1,a.eval p.2)).toList=some cells∧cells.toList=flat vs:=by
   have nk:vs.length=len:=by simp [vs,mE]
   obtain ⟨r,hr,UB,NI⟩:=Great.fill_dense e5 vs 0 ((Array.range (len * i.size)).map (zv.cells[· % zv.cells.size]!)) (fun v hv=>(hcell v hv).1) (by simp [nk])
   refine ⟨r,by rw [Au]; exact hr,?_⟩
   apply List.ext_getElem?
   intro j
   rw [flat_get e5 (fun v hv=>(hcell v hv).1),Array.getElem?_toList,NI j]
   simp only [Nat.zero_mul,Nat.zero_le,true_and,Nat.zero_add,Nat.sub_zero,nk]
   by_cases hj:j<len * i.size
   ·rw [if_pos hj]
   ·rw [if_neg hj]
    have h1:¬ j / i.size<len:=fun hh=>hj ((Nat.div_lt_iff_lt_mul e5).1 hh)
    rw [List.getElem?_eq_none (by omega:vs.length≤j / i.size)]
    simp; omega
  have ow:cells=(flat vs).toArray:=by rw [← xA]
  subst ow
  have dL:(execOp a.eval o).run P c.w=.ok (.value (.slice (some ⟨c.w.heap.size,0,.none⟩) len len)) (c.w.alloc (.cells (flat vs).toArray e)):=by
   by_cases I4:len=0
   ·subst I4
    have CZ:parts=#[]:=by apply Array.ext'; simpa using mE
    subst CZ
    simp [execOp,ho,Instr.buildSlice,run_underlying hu,sizeOf,typeInfo,hi,Instr.fill,newRow,vs,flat,Array.range_zero']
   ·have HW:¬ len * i.size=0:=by
     intro h0
     rcases Nat.mul_eq_zero.1 h0 with h0 | h0 <;> omega
    have hb:=run_buildSlice (P:=P) c.w t e len (parts.map fun (p:Nat × Operand)=>(p.1,a.eval p.2)) (flat vs).toArray i zv hu hi D8 (by rw [qI] at NK; omega) HW xy
    simp [execOp,ho,hb]
  obtain ⟨h2,h3⟩:=hm.ext (pr:=pr) (c.w.alloc (.cells (flat vs).toArray e)) rfl rfl rfl (Nat.le_refl _) (by simp) (fun b hb=>pA c.w _ b hb)
  refine ⟨_,_,dL,?_,h2,h3⟩
  simp only [av]
  refine ⟨some ⟨c.w.heap.size,0,.none⟩,len,by simp [mE],by simp [mE],by simp,Fa,.inr ⟨c.w.heap.size,0,vs,rfl,by simp,hm.Po (Nat.le_refl _),h3.Qm hl,fun u hu=>by rw [qI]; exact hcell u hu,qP c.w _ e⟩⟩
theorem kZ {ro:List Nat} (h:LOp P pr ro o ev m K):∃ lv m',K lv m'∧cr P pr o ev m lv m':=by
 have ud:∀ (ho:∀ t x,o.op ≠ .box t x),LOp P pr [] o ev m K:=by
  intro kz
  unfold LOp at h ⊢
  split at h <;> first | exact h | (rename_i t x ho; exact absurd ho (kz t x))
 cases ho:o.op
 case move x=>simp only [LOp,ho] at h; exact ⟨_,_,h,B1 x (.inl ho)⟩
 case assign x=>simp only [LOp,ho] at h; exact ⟨_,_,h,B1 x (.inr ho)⟩
 case pick x y z =>
  simp only [LOp,ho] at h
  cases hx:ev x <;> simp only [hx] at h
  case bool t=>exact ⟨_,_,h,Ii x y z t ho hx⟩
 case alloc t =>
  simp only [LOp,ho] at h
  split at h
  ·rename_i z d hz hd
   exact ⟨_,_,h.2,xT t d z ho hz h.1⟩
  ·cases h
 case box t x =>
  simp only [LOp,ho] at h
  split at h
  ·rename_i d hd
   obtain ⟨hs,h⟩:=h
   split at h
   ·exact ⟨_,_,h,Db t x ho hs⟩
   ·exact ⟨_,_,h.2,LJ t x d ho hs h.1⟩
  ·cases h
 case build t parts=>exact y7 ho (ud (by simp [ho]))
 case buildSlice t n parts=>exact qk ho (ud (by simp [ho]))
 case load t x=>exact Bg ho (ud (by simp [ho]))
 case store t x y=>exact za ho (ud (by simp [ho]))
 case nilCheck x=>exact tV ho (ud (by simp [ho]))
 case binOp op t x y t'=>exact y6 ho (ud (by simp [ho]))
 case unOp op t x=>exact Bh ho (ud (by simp [ho]))
 case convert s t x=>exact uA ho (ud (by simp [ho]))
 case slice t x lo hi mx=>exact y9 ho (ud (by simp [ho]))
 case fieldAddr t x f=>exact rC ho (ud (by simp [ho]))
 case field t x f=>exact y8 ho (ud (by simp [ho]))
 case indexAddr t x i=>exact rD ho (ud (by simp [ho]))
 case extract t i=>exact uB ho (ud (by simp [ho]))
 case makeFunc f a b=>exact tU ho (ud (by simp [ho]))
 case makeSlice t x y=>exact rE ho (ud (by simp [ho]))
 case call c =>
  cases hc:c.callee
  case value x=>exact Bf ho hc (ud (by simp [ho]))
  case builtin b =>
   cases b
   case len=>exact DN ho hc (ud (by simp [ho]))
   case append=>exact wJ ho hc (ud (by simp [ho]))
   all_goals simp [LOp,ho,hc] at h
  all_goals simp [LOp,ho,hc] at h
 all_goals simp [LOp,ho] at h
end ops
end Go.L
namespace Go.L
structure l9 (N:Nat) (c:Cx) (e:Env) (m:Mem) (a:Act):Prop where
 env:∀ i,av c (e i) (a.tmps.getD i undef)
 mem:bZ c m
 size:a.tmps.size=N
 defers:a.defers=[]
theorem l9.ev {N:Nat} {c:Cx} {e:Env} {m:Mem} {a:Act} (h:l9 N c e m a) (x:Operand):av c (c9 e x) (a.eval x):=by
 cases x with
 | tmp t=>exact h.env t
 | const v=>exact pQ c v
 | global g=>simp [c9,av]
 | func f=>simp only [c9,Act.eval,av]; exact ⟨[],rfl,by simp [aC]⟩
theorem l9.put {N:Nat} {pr:Nat→Prop} {c c':Cx} {e:Env} {m m':Mem} {a:Act} (h:l9 N c e m a) (hs:Step pr c c') (hm:bZ c' m') {d:Option Nat} (hd:∀ i,d=some i→i<N) {lv:LV} {v:Value} (hv:av c' lv v):l9 N c' (e.fI d lv) m' (a.put d v):=by
 cases d with
 | none=>exact ⟨fun i=>hs.wE (h.env i),hm,h.size,h.defers⟩
 | some d =>
  refine ⟨fun i=>?_,hm,by simp [Act.put,h.size],h.defers⟩
  simp only [Env.fI,Env.put,Act.put]
  by_cases hi:i=d
  ·subst hi
   have:i<a.tmps.size:=by rw [h.size]; exact hd i rfl
   simpa [this] using hv
  ·simp only [hi,if_false]
   have:=hs.wE (h.env i)
   simpa [Array.getElem?_setIfInBounds_ne (Ne.symm hi)] using this
def mv (P:Program) (N:Nat) (pr:Nat→Prop) (code:Code) (e:Env) (m:Mem) (ex:Exit) (e':Env) (m':Mem):Prop :=
 ∀ (c:Cx) (a:Act),l9 N c e m a→code.wp P (fun x a' w'=>x=ex∧∃ c':Cx,c'.w=w'∧l9 N c' e' m' a'∧Grow pr c c') a c.w
def LH (P:Program) (N:Nat) (pr:Nat→Prop) (code:Code) (Q:Exit→Env→Mem→Prop) (e:Env) (m:Mem):Prop :=
 ∃ ex e' m',mv P N pr code e m ex e' m'∧Q ex e' m'
def Wk (pr:Nat→Prop) (e:Env) (m:Mem) (e':Env) (m':Mem):Prop :=
 ∀ (N:Nat) (c:Cx) (a:Act),l9 N c e m a→∃ c':Cx,c'.w=c.w∧l9 N c' e' m' a∧Grow pr c c'
theorem Wk.trans {pr:Nat→Prop} {e e' T3:Env} {m m' UL:Mem} (h:Wk pr e m e' m') (k:Wk pr e' m' T3 UL):Wk pr e m T3 UL:=fun N c a hr=>by
 obtain ⟨c1,Fy,ee,zB⟩:=h N c a hr
 obtain ⟨c2,qJ,fD,pw⟩:=k N c1 a ee
 exact ⟨c2,qJ.trans Fy,fD,zB.trans pw⟩
section rules
variable {P:Program} {N:Nat} {pr:Nat→Prop} {Q:Exit→Env→Mem→Prop} {e e':Env} {m m':Mem}
theorem LH.mono {c:Code} {Q':Exit→Env→Mem→Prop} (h:LH P N pr c Q e m) (hq:∀ ex e m,Q ex e m→Q' ex e m):LH P N pr c Q' e m:=by
 obtain ⟨ex,e',m',h1,h2⟩:=h
 exact ⟨ex,e',m',h1,hq _ _ _ h2⟩
theorem mv.wk {c:Code} {ex:Exit} {e2:Env} {m2:Mem} (hw:Wk pr e m e' m') (h:mv P N pr c e' m' ex e2 m2):mv P N pr c e m ex e2 m2:=by
 intro cx a hr
 obtain ⟨c1,Fy,ee,zB⟩:=hw N cx a hr
 rw [← Fy]
 refine wp_mono (h c1 a ee) ?_
 rintro x a' w' ⟨hx,c2,qJ,fD,pw⟩
 exact ⟨hx,c2,qJ,fD,zB.trans pw⟩
theorem LH.wk {c:Code} (hw:Wk pr e m e' m') (h:LH P N pr c Q e' m'):LH P N pr c Q e m:=by
 obtain ⟨ex,e2,m2,h1,h2⟩:=h
 exact ⟨ex,e2,m2,h1.wk hw,h2⟩
theorem LH.skip (h:Q .normal e m):LH P N pr .skip Q e m:=⟨_,_,_,fun c a hr=>wp_skip ⟨rfl,c,rfl,hr,.refl pr c⟩,h⟩
theorem LH.ret (h:Q .ret e m):LH P N pr .ret Q e m:=⟨_,_,_,fun c a hr=>wp_ret ⟨rfl,c,rfl,hr,.refl pr c⟩,h⟩
theorem LH.exit {id:Nat} (h:Q (.exit id) e m):LH P N pr (.exit id) Q e m:=⟨_,_,_,fun c a hr=>wp_exit ⟨rfl,c,rfl,hr,.refl pr c⟩,h⟩
def zd (K:Env→Mem→Prop) (Q:Exit→Env→Mem→Prop):Exit→Env→Mem→Prop
 | .normal,e,m=>K e m
 | ex,e,m=>Q ex e m
theorem LH.seq {x y:Code} (h:LH P N pr x (zd (LH P N pr y Q) Q) e m):LH P N pr (.seq x y) Q e m:=by
 obtain ⟨ex,e1,m1,h1,h2⟩:=h
 cases ex with
 | normal =>
  obtain ⟨Va,e2,m2,h3,h4⟩:=h2
  refine ⟨Va,e2,m2,fun c a hr=>wp_seq (wp_mono (h1 c a hr) ?_),h4⟩
  rintro x a' w' ⟨rfl,c',rfl,rr,sM⟩
  refine wp_mono (h3 c' a' rr) ?_
  rintro x MJ Mg ⟨hx,c2,qJ,fD,pw⟩
  exact ⟨hx,c2,qJ,fD,sM.trans pw⟩
 | exit id =>
  refine ⟨_,e1,m1,fun c a hr=>wp_seq (wp_mono (h1 c a hr) ?_),h2⟩
  rintro x a' w' ⟨rfl,hq⟩
  exact ⟨rfl,hq⟩
 | goto l =>
  refine ⟨_,e1,m1,fun c a hr=>wp_seq (wp_mono (h1 c a hr) ?_),h2⟩
  rintro x a' w' ⟨rfl,hq⟩
  exact ⟨rfl,hq⟩
 | ret =>
  refine ⟨_,e1,m1,fun c a hr=>wp_seq (wp_mono (h1 c a hr) ?_),h2⟩
  rintro x a' w' ⟨rfl,hq⟩
  exact ⟨rfl,hq⟩
 | panic ch =>
  refine ⟨_,e1,m1,fun c a hr=>wp_seq (wp_mono (h1 c a hr) ?_),h2⟩
  rintro x a' w' ⟨rfl,hq⟩
  exact ⟨rfl,hq⟩
 | outgrown =>
  refine ⟨_,e1,m1,fun c a hr=>wp_seq (wp_mono (h1 c a hr) ?_),h2⟩
  rintro x a' w' ⟨rfl,hq⟩
  exact ⟨rfl,hq⟩
theorem LH.cond {x:Operand} {y z:Code} {t:Bool} (hx:c9 e x=.bool t) (h1:t=true→LH P N pr y Q e m) (h2:t=false→LH P N pr z Q e m):LH P N pr (.cond x y z) Q e m:=by
 cases t with
 | true =>
  obtain ⟨ex,e',m',h3,h4⟩:=h1 rfl
  refine ⟨ex,e',m',fun c a hr=>?_,h4⟩
  have:=hr.ev x
  rw [hx] at this
  simp only [av] at this
  exact wp_cond_true this (h3 c a hr)
 | false =>
  obtain ⟨ex,e',m',h3,h4⟩:=h2 rfl
  refine ⟨ex,e',m',fun c a hr=>?_,h4⟩
  have:=hr.ev x
  rw [hx] at this
  simp only [av] at this
  exact wp_cond_false this (h3 c a hr)
def lE (id:Nat) (Q:Exit→Env→Mem→Prop):Exit→Env→Mem→Prop
 | .exit j,e,m=>if j=id then Q .normal e m else Q (.exit j) e m
 | ex,e,m=>Q ex e m
theorem LH.block {id:Nat} {c:Code} (h:LH P N pr c (lE id Q) e m):LH P N pr (.block id c) Q e m:=by
 obtain ⟨ex,e1,m1,h1,h2⟩:=h
 have gen:∀ QP,(∀ a w,∀ R:Act→World→Prop,R a w→Exit.inBlock id (fun x a w=>x=QP∧R a w) ex a w)→Q QP e1 m1→LH P N pr (.block id c) Q e m:=by
  intro QP hb hq
  refine ⟨QP,e1,m1,fun cx a hr=>wp_block (wp_mono (h1 cx a hr) ?_),hq⟩
  rintro x a' w' ⟨rfl,hh⟩
  exact hb a' w' (fun a' w'=>∃ c':Cx,c'.w=w'∧l9 N c' e1 m1 a'∧Grow pr cx c') hh
 cases ex with
 | exit j =>
  by_cases hj:j=id
  ·subst hj
   simp only [lE,if_true] at h2
   exact gen .normal (fun a w R hR=>by simp [Exit.inBlock,hR]) h2
  ·simp only [lE,hj,if_false] at h2
   exact gen (.exit j) (fun a w R hR=>by simp [Exit.inBlock,hj,hR]) h2
 | normal=>exact gen _ (fun a w R hR=>⟨rfl,hR⟩) h2
 | goto l=>exact gen _ (fun a w R hR=>⟨rfl,hR⟩) h2
 | ret=>exact gen _ (fun a w R hR=>⟨rfl,hR⟩) h2
 | panic ch=>exact gen _ (fun a w R hR=>⟨rfl,hR⟩) h2
 | outgrown=>exact gen _ (fun a w R hR=>⟨rfl,hR⟩) h2
def si (P:Program) (N:Nat) (pr:Nat→Prop) (c:Code) (ex:Exit) (e':Env) (m':Mem):Nat→Env→Mem→Prop
 | 0,e,m=>ex ≠ .normal∧mv P N pr c e m ex e' m'
 | n+1,e,m=>∃ e1 m1,mv P N pr c e m .normal e1 m1∧si P N pr c ex e' m' n e1 m1
theorem si.exec {c:Code} {ex:Exit} {n:Nat} (h:si P N pr c ex e' m' n e m):mv P N pr (.loop c) e m ex e' m':=by
 intro cx a hr
 refine wp_loop_ghost (fun k a w=>∃ e1 m1,∃ c1:Cx,si P N pr c ex e' m' k e1 m1∧c1.w=w∧l9 N c1 e1 m1 a∧Grow pr cx c1) n ⟨e,m,cx,h,rfl,hr,.refl pr cx⟩ ?_
 rintro k a w ⟨e1,m1,c1,hR,rfl,ee,zB⟩
 cases k with
 | zero =>
  obtain ⟨ew,hx⟩:=hR
  refine wp_mono (hx c1 a ee) ?_
  rintro x a' w' ⟨rfl,c2,rfl,fD,pw⟩
  cases x <;> first | exact absurd rfl ew | exact ⟨rfl,c2,rfl,fD,zB.trans pw⟩
 | succ k =>
  obtain ⟨e2,m2,hx,hR⟩:=hR
  refine wp_mono (hx c1 a ee) ?_
  rintro x a' w' ⟨rfl,c2,rfl,fD,pw⟩
  exact ⟨k,by omega,e2,m2,c2,hR,rfl,fD,zB.trans pw⟩
theorem mv.post {c:Code} {ex:Exit} {e2:Env} {m2:Mem} (h:mv P N pr c e m ex e' m') (hw:Wk pr e' m' e2 m2):mv P N pr c e m ex e2 m2:=by
 intro cx a hr
 refine wp_mono (h cx a hr) ?_
 rintro x a' w' ⟨hx,c1,rfl,ee,zB⟩
 obtain ⟨c2,qJ,fD,pw⟩:=hw N c1 a' ee
 exact ⟨hx,c2,qJ,fD,zB.trans pw⟩
def tN (pr:Nat→Prop) (I:Nat→Env→Mem→Prop) (n:Nat) (Q:Exit→Env→Mem→Prop):Exit→Env→Mem→Prop
 | .normal,e,m=>∃ e' m',Wk pr e m e' m'∧∃ k,k<n∧I k e' m'
 | ex,e,m=>Q ex e m
theorem LH.loop {c:Code} (I:Nat→Env→Mem→Prop) (n:Nat) (h0:I n e m) (h:∀ n e m,I n e m→LH P N pr c (tN pr I n Q) e m):LH P N pr (.loop c) Q e m:=by
 have key:∀ n e m,I n e m→∃ ex e' m' k,si P N pr c ex e' m' k e m∧Q ex e' m':=by
  intro n
  induction n using Nat.strongRecOn with
  | _ n ih =>
   intro e m hI
   obtain ⟨ex,e1,m1,h1,h2⟩:=h n e m hI
   cases ex with
   | normal =>
    obtain ⟨e2,m2,hw,k,hk,Vj⟩:=h2
    obtain ⟨ex,e',m',j,hR,hQ⟩:=ih k hk e2 m2 Vj
    exact ⟨ex,e',m',j+1,⟨e2,m2,h1.post hw,hR⟩,hQ⟩
   | exit id=>exact ⟨_,e1,m1,0,⟨by simp,h1⟩,h2⟩
   | goto l=>exact ⟨_,e1,m1,0,⟨by simp,h1⟩,h2⟩
   | ret=>exact ⟨_,e1,m1,0,⟨by simp,h1⟩,h2⟩
   | panic ch=>exact ⟨_,e1,m1,0,⟨by simp,h1⟩,h2⟩
   | outgrown=>exact ⟨_,e1,m1,0,⟨by simp,h1⟩,h2⟩
 obtain ⟨ex,e',m',k,hR,hQ⟩:=key n e m h0
 exact ⟨ex,e',m',hR.exec,hQ⟩
theorem nD {ops:Array Oper} {o:Oper} {c:Cx} {a:Act} (hr:l9 N c e m a) (hd:∀ q ∈ ops,∀ i,q.dst=some i→i<N) {j:Nat} {want:Bool} (hg:o.guard=some (j,want)) {g:Nat} (hj:(ops[j]?).bind (·.dst)=some g) {t:Bool} (ht:e g=.bool t) :
  Region.wanted o (yielded ops a.tmps)=(t == want):=by
 have hv:=hr.env g
 rw [ht] at hv
 simp only [av] at hv
 have R4:g<N:=by
  cases hq:ops[j]? with
  | none=>simp [hq] at hj
  | some q=>simp [hq] at hj; exact hd q (Array.mem_of_getElem? hq) g hj
 have e5:g<a.tmps.size:=by rw [hr.size]; exact R4
 have EV:a.tmps[g]?=some (.bool t):=by
  rw [Array.getElem?_eq_getElem e5]
  simpa [e5] using hv
 simp [Region.wanted,hg,yielded,hj,EV]
theorem qX {ops:Array Oper} {o:Oper} {c:Cx} {a:Act} (hr:l9 N c e m a) (hd:∀ q ∈ ops,∀ i,q.dst=some i→i<N) {j:Nat} {want:Bool} (hg:o.guard=some (j,want)) {g:Nat} (hj:(ops[j]?).bind (·.dst)=some g) (ht:e g=.cX []) :
  Region.wanted o (yielded ops a.tmps)=false:=by
 have hv:=hr.env g
 rw [ht] at hv
 simp only [av,aC] at hv
 obtain ⟨vs,hv,rfl⟩:=hv
 have R4:g<N:=by
  cases hq:ops[j]? with
  | none=>simp [hq] at hj
  | some q=>simp [hq] at hj; exact hd q (Array.mem_of_getElem? hq) g hj
 have e5:g<a.tmps.size:=by rw [hr.size]; exact R4
 have EV:a.tmps[g]?=some (.tuple #[]):=by
  rw [Array.getElem?_eq_getElem e5]
  simpa [e5] using hv
 simp [Region.wanted,hg,yielded,hj,EV]
theorem oU (c:Cx):av c (.cX []) undef:=by
 simp only [av,aC]
 exact ⟨[],rfl,rfl⟩
theorem xg {ro:List Nat} {ops:Array Oper} {o:Oper} {K:Env→Mem→Prop} (hd:∀ q ∈ ops,∀ i,q.dst=some i→i<N) (HU:∀ i,o.dst=some i→i<N) (h:Bt P pr ro ops o K e m) :
  ∃ lv m',K (e.fI o.dst lv) m'∧∀ (c:Cx) (a:Act) (R:Act→World→Prop) (Q:Exit→Act→World→Prop),l9 N c e m a →
   (∀ a' (c':Cx),l9 N c' (e.fI o.dst lv) m' a'→Step pr c c'→R a' c'.w) →
   if Region.wanted o (yielded ops a.tmps) then o.wp P a c.w R Q ∨ (o.asks P a c.w∧LetsOut Q) else R (a.put o.dst undef) c.w:=by
 have run:∀ (h:LOp P pr ro o (c9 e) m fun lv m'=>K (e.fI o.dst lv) m'),∃ lv m',K (e.fI o.dst lv) m'∧∀ (c:Cx) (a:Act) (R:Act→World→Prop) (Q:Exit→Act→World→Prop),l9 N c e m a →
   (∀ a' (c':Cx),l9 N c' (e.fI o.dst lv) m' a'→Step pr c c'→R a' c'.w)→o.wp P a c.w R Q:=by
  intro h
  obtain ⟨lv,m',hK,gM⟩:=kZ h
  refine ⟨lv,m',hK,fun c a R Q hr hR=>?_⟩
  refine Oper.wp_mono ?_ (gM c a Q hr.ev hr.mem)
  rintro a' w' ⟨v,c',rfl,rfl,hv,iM,hs⟩
  exact hR _ c' (hr.put hs iM HU hv) hs
 unfold Bt at h
 split at h
 ·rename_i hg
  obtain ⟨lv,m',hK,dL⟩:=run h
  refine ⟨lv,m',hK,fun c a R Q hr hR=>?_⟩
  rw [if_pos (by simp [Region.wanted,hg])]
  exact .inl (dL c a R Q hr hR)
 ·rename_i j want hg
  split at h
  ·rename_i g hj
   cases ht:e g <;> simp only [ht] at h
   case bool t =>
    split at h
    ·rename_i heq
     obtain ⟨lv,m',hK,dL⟩:=run h
     refine ⟨lv,m',hK,fun c a R Q hr hR=>?_⟩
     rw [nD hr hd hg hj ht,if_pos (by simpa using heq)]
     exact .inl (dL c a R Q hr hR)
    ·rename_i ew
     refine ⟨.cX [],m,h,fun c a R Q hr hR=>?_⟩
     rw [nD hr hd hg hj ht,if_neg (by simpa using ew)]
     exact hR _ c (hr.put (Step.refl pr c) hr.mem HU (oU c)) (Step.refl pr c)
   case cX vs =>
    cases vs with
    | cons x xs=>exact h.elim
    | nil =>
     refine ⟨.cX [],m,h,fun c a R Q hr hR=>?_⟩
     rw [qX hr hd hg hj ht,if_neg (by simp)]
     exact hR _ c (hr.put (Step.refl pr c) hr.mem HU (oU c)) (Step.refl pr c)
  ·cases h
def om (N:Nat) (l:List Oper):Bool:=l.all fun o=>match o.dst with | some d=>decide (d<N) | .none=>true
theorem rH {l:List Oper} (h:om N l=true):∀ q ∈ l.toArray,∀ i,q.dst=some i→i<N:=by
 intro q hq i hi
 have:=List.all_eq_true.1 h q (by simpa using hq)
 simpa [hi] using this
end rules
end Go.L
namespace Go.L
mutual
def LV.refs:LV→List Nat
 | .ag cs=>LV.bK cs
 | .fS _ cs=>LV.bK cs
 | .arr i _=>[i]
 | .ptr i _=>[i]
 | .bJ i _ _ _=>[i]
 | .mp i=>[i]
 | .agg cs=>LV.bK cs
 | .cX cs=>LV.bK cs
 | .fn _ cs=>LV.bK cs
 | .vE _ cs=>LV.bK cs
 | _=>[]
def LV.bK:List LV→List Nat
 | []=>[]
 | x :: xs=>x.refs++LV.bK xs
end
mutual
theorem iX {id:Nat}:∀ (x:LV),x.a8 id=false→id ∈ x.refs
 | .eF,h | .int _ _,h | .bool _,h | .nil,h | .pS _,h | .full _ _,h | .str _,h | .it _,h | .mj,h | .fh,h | .ak _ _,h | .aI _ _ _ _,h=>by simp [LV.a8] at h
 | .ag cs,h=>by simp only [LV.a8] at h; simp only [LV.refs]; exact db cs h
 | .fS _ cs,h=>by simp only [LV.a8] at h; simp only [LV.refs]; exact db cs h
 | .arr _ _,h | .ptr _ _,h | .bJ _ _ _ _,h | .mp _,h=>by simp [LV.a8] at h; simp [LV.refs,h]
 | .agg cs,h=>by simp only [LV.a8] at h; simp only [LV.refs]; exact db cs h
 | .cX cs,h=>by simp only [LV.a8] at h; simp only [LV.refs]; exact db cs h
 | .fn _ cs,h=>by simp only [LV.a8] at h; simp only [LV.refs]; exact db cs h
 | .vE _ cs,h=>by simp only [LV.a8] at h; simp only [LV.refs]; exact db cs h
theorem db {id:Nat}:∀ (xs:List LV),LV.cu id xs=false→id ∈ LV.bK xs
 | [],h=>by simp [LV.cu] at h
 | x :: xs,h=>by
  simp only [LV.cu,Bool.and_eq_false_iff] at h
  simp only [LV.bK,List.mem_append]
  exact h.imp (iX x) (db xs)
end
theorem bZ.sub {c:Cx} {m:Mem} (h:bZ c m) (m':Mem) (oE:∀ id,m' id=m id ∨ m' id=.none) (pq:∀ id le,m' id=some le→∀ j,le.kU j=false→m' j ≠ .none) :
  ∃ c':Cx,c'.w=c.w∧c'.OQ c∧bZ c' m'∧(∀ x v,(∀ j,x.a8 j=false→m' j ≠ .none)→av c x v→av c' x v)∧(∀ b,c'.own b→c.own b)∧(∀ b,c.own b→(∀ id be,m' id ≠ .none→c.B id=some be→¬ be.has b)→¬ c'.own b)∧∀ id,m' id ≠ .none→c'.B id=c.B id:=by
 classical
 let c':Cx:=⟨c.w,fun id=>if m' id=.none then .none else c.B id,c.O,c.Q⟩
 have hB:∀ id,m' id ≠ .none→c'.B id=c.B id:=fun id hi=>by simp [c',hi]
 have bf:∀ b,c'.own b→c.own b:=by
  rintro b ⟨id,be,h1,h2⟩
  by_cases hi:m' id=.none
  ·simp [c',hi] at h1
  ·rw [hB id hi] at h1; exact ⟨id,be,h1,h2⟩
 have hle:c.Le c':=Cx.sub_le rfl ⟨rfl,rfl⟩ bf
 have hV:∀ x v,(∀ j,x.a8 j=false→m' j ≠ .none)→av c x v→av c' x v:=fun x v hr hv =>
  av.mono hle x v (fun id bE=>by rw [hB id (hr id bE)]; exact js.refl _) hv
 refine ⟨c',rfl,⟨rfl,rfl⟩,⟨fun id=>?_,?_,fun b ho=>h.jQ b (bf b ho),h.pb,h.nq rfl ⟨rfl,rfl⟩ bf⟩,hV,bf,?_,hB⟩
 ·by_cases hi:m' id=.none
  ·rw [hi]; simp [bt,c',hi]
  ·have he:=h.gD id
   rw [← (oE id).resolve_right hi] at he
   rw [hB id hi]
   cases hx:m' id with
   | none=>exact absurd hx hi
   | some le =>
    rw [hx] at he
    cases le with
    | box cs =>
     simp only [bt] at he ⊢
     obtain ⟨b,us,e,h1,h2,h3,h4⟩:=he
     exact ⟨b,us,e,h1,h2,aC.mono hle cs us (fun j hj=>by rw [hB j (pq id _ hx j hj)]; exact js.refl _) h3,h4⟩
    | arr e k xs =>
     simp only [bt] at he ⊢
     obtain ⟨u,us,h1,h0,h2,h3,h4,h5⟩:=he
     exact ⟨u,us,h1,h0,h2,aC.mono hle xs us (fun j hj=>by rw [az xs h5] at hj; cases hj) h3,h4,h5⟩
    | nest e k os xs =>
     simp only [bt] at he ⊢
     obtain ⟨u,us,bs,h1,h0,h2,h3,h4⟩:=he
     exact ⟨u,us,bs,h1,h0,h2,h3.mono hle (fun b _=>rfl),h4⟩
    | cW e k os xs i o id2 n2 =>
     simp only [bt] at he ⊢
     obtain ⟨u,us,bs,h1,h0,h2,h3,⟨ws,v,q1,q2,q3⟩,h4⟩:=he
     exact ⟨u,us,bs,h1,h0,h2,h3.mono hle (fun b _=>rfl),⟨ws,v,q1,q2,av.mono hle (.arr id2 n2) v (fun j hj=>by rw [hB j (pq id _ hx j hj)]; exact js.refl _) q3⟩,h4⟩
    | dead=>simpa only [bt] using he
    | map kt vt es =>
     simp only [bt] at he ⊢
     obtain ⟨b,jw,ck,h1,h2,h3,h4,h5,h6,h7⟩:=he
     exact ⟨b,jw,ck,h1,h2,aC.mono hle _ _ (fun j hj=>by rw [az _ h5] at hj; cases hj) h3,aC.mono hle _ _ (fun j hj=>by rw [az _ h6] at hj; cases hj) h4,h5,h6,h7⟩
 ·intro i i' be eD b h1 h2 h3 h4
  by_cases hi:m' i=.none
  ·simp [c',hi] at h1
  ·by_cases gn:m' i'=.none
   ·simp [c',gn] at h2
   ·rw [hB i hi] at h1; rw [hB i' gn] at h2; exact h.inj i i' be eD b h1 h2 h3 h4
 ·rintro b WQ ew ⟨id,be,h1,h2⟩
  by_cases hi:m' id=.none
  ·simp [c',hi] at h1
  ·rw [hB id hi] at h1; exact ew id be hi h1 h2
def aV (el:List (Nat × LV)) (ml:List (Nat × LE)):Bool :=
 (el.all fun p=>p.2.refs.all fun j=>ml.any fun q=>q.1 == j) && ml.all fun q=>match q.2 with
  | .box cs=>(LV.bK cs).all fun j=>ml.any fun q=>q.1 == j
  | .arr _ _ _=>true
  | .map _ _ _=>true
  | .nest _ _ _ _=>true
  | .cW _ _ _ _ _ _ id2 _=>ml.any fun q=>q.1 == id2
  | .dead=>true
theorem fl {ml:List (Nat × LE)} {id:Nat} {le:LE} (h:Mem.of ml id=some le):(id,le) ∈ ml:=by
 induction ml with
 | nil=>simp [Mem.of] at h
 | cons p ml ih =>
  obtain ⟨d,v⟩:=p
  simp only [Mem.of] at h
  split at h
  ·rename_i hi; cases h; subst hi; simp
  ·exact List.mem_cons_of_mem _ (ih h)
theorem jm {ml:List (Nat × LE)} {id:Nat} (h:(ml.any fun q=>q.1 == id)=true):Mem.of ml id ≠ .none:=by
 induction ml with
 | nil=>simp at h
 | cons p ml ih =>
  obtain ⟨d,v⟩:=p
  simp only [Mem.of]
  by_cases hd:id=d
  ·simp [hd]
  ·simp only [hd,if_false]
   simp only [List.any_cons,Bool.or_eq_true,beq_iff_eq] at h
   exact ih (h.resolve_left (fun hh=>hd hh.symm))
theorem CD (el:List (Nat × LV)) (i:Nat):Env.of el i=.eF ∨ (i,Env.of el i) ∈ el:=by
 induction el with
 | nil=>exact .inl rfl
 | cons p el ih =>
  obtain ⟨d,v⟩:=p
  simp only [Env.of]
  by_cases hd:i=d
  ·subst hd; simp
  ·simp only [hd,if_false]
   exact ih.imp (fun h=>h) (List.mem_cons_of_mem _)
theorem Wk.cut {pr:Nat→Prop} {e:Env} {m:Mem} (el:List (Nat × LV)) (ml:List (Nat × LE)) (he:∀ p ∈ el,e p.1=p.2) (hm:∀ p ∈ ml,m p.1=some p.2) (hr:aV el ml=true) (mi:∀ id,pr id→m id=.none ∨ Mem.of ml id ≠ .none):Wk pr e m (Env.of el) (Mem.of ml):=by
 intro N c a bV
 simp only [aV,Bool.and_eq_true,List.all_eq_true] at hr
 obtain ⟨c',hw,hO,iM,hV,bf,_,hB⟩:=bV.mem.sub (Mem.of ml) (fun id=>by
   cases h:Mem.of ml id with
   | none=>exact .inr rfl
   | some le=>exact .inl (hm _ (fl h)).symm)
  (fun id le bE j hj=>by
   have h2:=hr.2 _ (fl bE)
   cases le with
   | box cs =>
    simp only [List.all_eq_true] at h2
    exact jm (h2 j (db cs hj))
   | cW _ _ _ _ _ _ id2 _ =>
    simp only [LE.kU,bne_eq_false_iff_eq] at hj
    subst hj
    exact jm h2
   | _=>simp [LE.kU] at hj)
 refine ⟨c',hw,⟨fun i=>?_,iM,bV.size,bV.defers⟩,?_⟩
 ·rcases CD el i with h | h
  ·rw [h]; simp [av]
  ·have h1:=he _ h
   simp only at h1
   refine hV _ _ (fun j hj=>jm (hr.1 _ h j (iX _ hj))) ?_
   rw [← h1]; exact bV.env i
 ·refine Cx.mK hw hO bf (fun id be hp hb=>?_)
  have:Mem.of ml id ≠ .none:=by
   rcases mi id hp with h0 | h0
   ·have:=bV.mem.fresh h0; rw [this] at hb; cases hb
   ·exact h0
  exact ⟨be,by rw [hB id this]; exact hb,.refl be⟩
mutual
/-- a settled box: UI Cv Rw Cv of settled cells -/
def LV.bg (id:Nat) (cs:List LV):LV→LV
 | .ptr i o=>if i=id then .ag (cs.drop o) else .ptr i o
 | .agg l=>.agg (LV.qF id cs l)
 | .cX l=>.cX (LV.qF id cs l)
 | .fn f l=>.fn f (LV.qF id cs l)
 | .vE f l=>.vE f (LV.qF id cs l)
 | .arr i n=>if i=id then .eF else .arr i n
 | .bJ i n j o=>if i=id then .eF else .bJ i n j o
 | .mp i=>if i=id then .eF else .mp i
 | .ag l=>if LV.cu id l=true then .ag l else .eF
 | .fS t l=>if LV.cu id l=true then .fS t l else .eF
 | x=>x
def LV.qF (id:Nat) (cs:List LV):List LV→List LV
 | []=>[]
 | x :: xs=>x.bg id cs :: LV.qF id cs xs
end
mutual
/-- a settled row: the slice over it QK a list -/
def LV.eI (id k:Nat) (xs:List LV):LV→LV
 | .arr i n=>if i=id then (if n=xs.length then .ak k xs else .eF) else .arr i n
 | .agg l=>.agg (LV.fX id k xs l)
 | .cX l=>.cX (LV.fX id k xs l)
 | .fn f l=>.fn f (LV.fX id k xs l)
 | .vE f l=>.vE f (LV.fX id k xs l)
 | .ptr i o=>if i=id then .eF else .ptr i o
 | .bJ i n j o=>if i=id then .eF else .bJ i n j o
 | .mp i=>if i=id then .eF else .mp i
 | .ag l=>if LV.cu id l=true then .ag l else .eF
 | .fS t l=>if LV.cu id l=true then .fS t l else .eF
 | x=>x
def LV.fX (id k:Nat) (xs:List LV):List LV→List LV
 | []=>[]
 | x :: l=>x.eI id k xs :: LV.fX id k xs l
end
def Mem.del (m:Mem) (id:Nat):Mem:=fun i=>if i=id then .none else m i
section Aa
variable {c c':Cx} {id:Nat}
mutual
theorem xp {cs:List LV} (hV:∀ x v,x.a8 id=true→av c x v→av c' x v) (hp:∀ o v,av c (.ptr id o) v→av c' (.ag (cs.drop o)) v):∀ (x:LV) (v:Value),av c x v→av c' (x.bg id cs) v
 | .eF,v,h=>by simp [LV.bg,av]
 | .int _ _,v,h=>by simp only [LV.bg]; exact hV _ _ (by simp [LV.a8]) h
 | .bool _,v,h=>by simp only [LV.bg]; exact hV _ _ (by simp [LV.a8]) h
 | .nil,v,h=>by simp only [LV.bg]; exact hV _ _ (by simp [LV.a8]) h
 | .pS _,v,h=>by simp only [LV.bg]; exact hV _ _ (by simp [LV.a8]) h
 | .full _ _,v,h=>by simp only [LV.bg]; exact hV _ _ (by simp [LV.a8]) h
 | .str _,v,h=>by simp only [LV.bg]; exact hV _ _ (by simp [LV.a8]) h
 | .it _,v,h=>by simp only [LV.bg]; exact hV _ _ (by simp [LV.a8]) h
 | .mj,v,h=>by simp only [LV.bg]; exact hV _ _ (by simp [LV.a8]) h
 | .fh,v,h=>by simp only [LV.bg]; exact hV _ _ (by simp [LV.a8]) h
 | .ak _ _,v,h=>by simp only [LV.bg]; exact hV _ _ (by simp [LV.a8]) h
 | .aI _ _ _ _,v,h=>by simp only [LV.bg]; exact hV _ _ (by simp [LV.a8]) h
 | .ag _,v,h=>by
  simp only [LV.bg]
  split
  ·rename_i hn; exact hV _ _ (by simpa [LV.a8] using hn) h
  ·simp [av]
 | .fS _ _,v,h=>by
  simp only [LV.bg]
  split
  ·rename_i hn; exact hV _ _ (by simpa [LV.a8] using hn) h
  ·simp [av]
 | .arr i n,v,h=>by
  simp only [LV.bg]
  split
  ·simp [av]
  ·rename_i hi; exact hV _ _ (by simp [LV.a8,hi]) h
 | .ptr i o,v,h=>by
  simp only [LV.bg]
  split
  ·rename_i hi; subst hi; exact hp o v h
  ·rename_i hi; exact hV _ _ (by simp [LV.a8,hi]) h
 | .bJ i n j o,v,h=>by
  simp only [LV.bg]
  split
  ·simp [av]
  ·rename_i hi; exact hV _ _ (by simp [LV.a8,hi]) h
 | .mp i,v,h=>by
  simp only [LV.bg]
  split
  ·simp [av]
  ·rename_i hi; exact hV _ _ (by simp [LV.a8,hi]) h
 | .agg l,v,h=>by
  simp only [LV.bg,av] at h ⊢
  obtain ⟨vs,rfl,hl⟩:=h
  exact ⟨vs,rfl,lj hV hp l vs hl⟩
 | .cX l,v,h=>by
  simp only [LV.bg,av] at h ⊢
  obtain ⟨vs,rfl,hl⟩:=h
  exact ⟨vs,rfl,lj hV hp l vs hl⟩
 | .fn f l,v,h=>by
  simp only [LV.bg,av] at h ⊢
  obtain ⟨vs,rfl,hl⟩:=h
  exact ⟨vs,rfl,lj hV hp l vs hl⟩
 | .vE f l,v,h=>by
  simp only [LV.bg,av] at h ⊢
  obtain ⟨vs,rfl,hl⟩:=h
  exact ⟨vs,rfl,lj hV hp l vs hl⟩
theorem lj {cs:List LV} (hV:∀ x v,x.a8 id=true→av c x v→av c' x v) (hp:∀ o v,av c (.ptr id o) v→av c' (.ag (cs.drop o)) v):∀ (xs:List LV) (vs:List Value),aC c xs vs→aC c' (LV.qF id cs xs) vs
 | [],vs,h=>by simpa only [LV.qF,aC] using h
 | x :: xs,vs,h=>by
  simp only [LV.qF,aC] at h ⊢
  obtain ⟨v,fQ,rfl,h1,h2⟩:=h
  exact ⟨v,fQ,rfl,xp hV hp x v h1,lj hV hp xs fQ h2⟩
end
mutual
theorem xo {k:Nat} {xs:List LV} (hV:∀ x v,x.a8 id=true→av c x v→av c' x v) (hp:∀ v,av c (.arr id xs.length) v→av c' (.ak k xs) v):∀ (x:LV) (v:Value),av c x v→av c' (x.eI id k xs) v
 | .eF,v,h=>by simp [LV.eI,av]
 | .int _ _,v,h=>by simp only [LV.eI]; exact hV _ _ (by simp [LV.a8]) h
 | .bool _,v,h=>by simp only [LV.eI]; exact hV _ _ (by simp [LV.a8]) h
 | .nil,v,h=>by simp only [LV.eI]; exact hV _ _ (by simp [LV.a8]) h
 | .pS _,v,h=>by simp only [LV.eI]; exact hV _ _ (by simp [LV.a8]) h
 | .full _ _,v,h=>by simp only [LV.eI]; exact hV _ _ (by simp [LV.a8]) h
 | .str _,v,h=>by simp only [LV.eI]; exact hV _ _ (by simp [LV.a8]) h
 | .it _,v,h=>by simp only [LV.eI]; exact hV _ _ (by simp [LV.a8]) h
 | .mj,v,h=>by simp only [LV.eI]; exact hV _ _ (by simp [LV.a8]) h
 | .fh,v,h=>by simp only [LV.eI]; exact hV _ _ (by simp [LV.a8]) h
 | .ak _ _,v,h=>by simp only [LV.eI]; exact hV _ _ (by simp [LV.a8]) h
 | .aI _ _ _ _,v,h=>by simp only [LV.eI]; exact hV _ _ (by simp [LV.a8]) h
 | .ag _,v,h=>by
  simp only [LV.eI]
  split
  ·rename_i hn; exact hV _ _ (by simpa [LV.a8] using hn) h
  ·simp [av]
 | .fS _ _,v,h=>by
  simp only [LV.eI]
  split
  ·rename_i hn; exact hV _ _ (by simpa [LV.a8] using hn) h
  ·simp [av]
 | .arr i n,v,h=>by
  simp only [LV.eI]
  split
  ·rename_i hi
   split
   ·rename_i hn; subst hi; subst hn; exact hp v h
   ·simp [av]
  ·rename_i hi; exact hV _ _ (by simp [LV.a8,hi]) h
 | .ptr i o,v,h=>by
  simp only [LV.eI]
  split
  ·simp [av]
  ·rename_i hi; exact hV _ _ (by simp [LV.a8,hi]) h
 | .bJ i n j o,v,h=>by
  simp only [LV.eI]
  split
  ·simp [av]
  ·rename_i hi; exact hV _ _ (by simp [LV.a8,hi]) h
 | .mp i,v,h=>by
  simp only [LV.eI]
  split
  ·simp [av]
  ·rename_i hi; exact hV _ _ (by simp [LV.a8,hi]) h
 | .agg l,v,h=>by
  simp only [LV.eI,av] at h ⊢
  obtain ⟨vs,rfl,hl⟩:=h
  exact ⟨vs,rfl,jX hV hp l vs hl⟩
 | .cX l,v,h=>by
  simp only [LV.eI,av] at h ⊢
  obtain ⟨vs,rfl,hl⟩:=h
  exact ⟨vs,rfl,jX hV hp l vs hl⟩
 | .fn f l,v,h=>by
  simp only [LV.eI,av] at h ⊢
  obtain ⟨vs,rfl,hl⟩:=h
  exact ⟨vs,rfl,jX hV hp l vs hl⟩
 | .vE f l,v,h=>by
  simp only [LV.eI,av] at h ⊢
  obtain ⟨vs,rfl,hl⟩:=h
  exact ⟨vs,rfl,jX hV hp l vs hl⟩
theorem jX {k:Nat} {xs:List LV} (hV:∀ x v,x.a8 id=true→av c x v→av c' x v) (hp:∀ v,av c (.arr id xs.length) v→av c' (.ak k xs) v):∀ (l:List LV) (vs:List Value),aC c l vs→aC c' (LV.fX id k xs l) vs
 | [],vs,h=>by simpa only [LV.fX,aC] using h
 | x :: l,vs,h=>by
  simp only [LV.fX,aC] at h ⊢
  obtain ⟨v,fQ,rfl,h1,h2⟩:=h
  exact ⟨v,fQ,rfl,xo hV hp x v h1,jX hV hp l fQ h2⟩
end
end Aa
mutual
theorem pI {c:Cx} {j:Nat} (hB:c.B j=.none):∀ (x:LV) (v:Value),av c x v→x.a8 j=true
 | .eF,v,h | .int _ _,v,h | .bool _,v,h | .nil,v,h | .pS _,v,h | .full _ _,v,h | .str _,v,h | .it _,v,h | .mj,v,h | .fh,v,h | .ak _ _,v,h | .aI _ _ _ _,v,h=>by simp [LV.a8]
 | .ag cs,v,h=>by
  simp only [av] at h
  obtain ⟨b,off,vs,_,_,_,hl,_⟩:=h
  simp only [LV.a8]; exact eR hB cs vs hl
 | .fS t cs,v,h=>by
  obtain ⟨vs,hl⟩:∃ vs,aC c cs vs:=by
   cases t
   ·simp only [av] at h; obtain ⟨b,off,vs,_,_,_,hl,_⟩:=h; exact ⟨vs,hl⟩
   ·simp only [av] at h; obtain ⟨b,off,vs,_,_,_,hl,_⟩:=h; exact ⟨vs,hl⟩
  simp only [LV.a8]; exact eR hB cs vs hl
 | .arr i n,v,h=>by
  simp only [av] at h
  obtain ⟨_,u,k,len,ins,h1,_⟩:=h
  by_cases hi:i=j
  ·subst hi; rw [hB] at h1; cases h1
  ·simp [LV.a8,hi]
 | .ptr i o,v,h=>by
  simp only [av] at h
  obtain ⟨b,n,h1,_⟩:=h
  by_cases hi:i=j
  ·subst hi; rw [hB] at h1; cases h1
  ·simp [LV.a8,hi]
 | .bJ i n q o,v,h=>by
  simp only [av] at h
  obtain ⟨_,u,k,len,ins,h1,_⟩:=h
  by_cases hi:i=j
  ·subst hi; rw [hB] at h1; cases h1
  ·simp [LV.a8,hi]
 | .mp i,v,h=>by
  simp only [av] at h
  obtain ⟨b,h1,_⟩:=h
  by_cases hi:i=j
  ·subst hi; rw [hB] at h1; cases h1
  ·simp [LV.a8,hi]
 | .agg l,v,h=>by
  simp only [av] at h
  obtain ⟨vs,rfl,hl⟩:=h
  simp only [LV.a8]; exact eR hB l vs hl
 | .cX l,v,h=>by
  simp only [av] at h
  obtain ⟨vs,rfl,hl⟩:=h
  simp only [LV.a8]; exact eR hB l vs hl
 | .fn f l,v,h=>by
  simp only [av] at h
  obtain ⟨vs,rfl,hl⟩:=h
  simp only [LV.a8]; exact eR hB l vs hl
 | .vE f l,v,h=>by
  simp only [av] at h
  obtain ⟨vs,rfl,hl⟩:=h
  simp only [LV.a8]; exact eR hB l vs hl
theorem eR {c:Cx} {j:Nat} (hB:c.B j=.none):∀ (xs:List LV) (vs:List Value),aC c xs vs→LV.cu j xs=true
 | [],vs,h=>by simp [LV.cu]
 | x :: xs,vs,h=>by
  simp only [aC] at h
  obtain ⟨v,fQ,rfl,h1,h2⟩:=h
  simp only [LV.cu,Bool.and_eq_true]
  exact ⟨pI hB x v h1,eR hB xs fQ h2⟩
end
theorem wD {c:Cx} {j:Nat} (hB:c.B j=.none) (x:LV) (v:Value) (h:av c x v) (hx:x.a8 j=false):False:=by
 rw [pI hB x v h] at hx; cases hx
theorem bZ.del {c:Cx} {m:Mem} (h:bZ c m) (id:Nat) (pq:∀ i le,i ≠ id→m i=some le→le.kU id=true) :
  ∃ c':Cx,c'.w=c.w∧c'.OQ c∧bZ c' (m.del id)∧(∀ x v,x.a8 id=true→av c x v→av c' x v)∧(∀ b,c'.own b→c.own b)∧(∀ b be,c.B id=some be→be.has b→¬ c'.X b)∧∀ i,i ≠ id→c'.B i=c.B i:=by
 obtain ⟨c',hw,hO,iM,hV,bf,Nx,hB⟩:=h.sub (m.del id) (fun i=>by unfold Mem.del; split <;> simp) (fun i le hi j hj=>by
  unfold Mem.del at hi ⊢
  split at hi
  ·cases hi
  ·rename_i ew
   have EY:j ≠ id:=fun he=>by subst he; rw [pq i le ew hi] at hj; cases hj
   simp only [EY,if_false]
   intro h0
   have he:=h.gD i
   rw [hi] at he
   have BJ:=h.fresh h0
   cases le with
   | box cs =>
    simp only [bt] at he
    obtain ⟨b,us,e,_,_,hl,_⟩:=he
    obtain ⟨x,hx,Wg⟩:∃ x ∈ cs,x.a8 j=false:=by
     have hn:LV.cu j cs=false:=hj
     rw [← Bool.not_eq_true,te] at hn
     simp only [Classical.not_forall] at hn
     obtain ⟨x,hx,Wf⟩:=hn
     exact ⟨x,hx,by simpa using Wf⟩
    obtain ⟨q,hq⟩:=List.mem_iff_getElem?.1 hx
    obtain ⟨v,_,hv⟩:=hl.get hq
    exact wD BJ x v hv Wg
   | cW _ _ _ _ _ _ id2 n2 =>
    simp only [bt] at he
    obtain ⟨_,_,_,_,_,_,_,⟨_,v,_,_,q3⟩,_⟩:=he
    exact wD BJ _ v q3 hj
   | _=>simp [LE.kU] at hj)
 refine ⟨c',hw,hO,iM,fun x v hx hv=>hV x v (fun j hj=>?_) hv,bf,fun b be hb qG=>?_,fun i hi=>?_⟩
 ·have EY:j ≠ id:=fun he=>by subst he; rw [hx] at hj; cases hj
  unfold Mem.del
  simp only [EY,if_false]
  intro h0
  exact wD (h.fresh h0) x v hv hj
 ·rintro ((Ua | Ub) | rp)
  ·rw [hO.1] at Ua; exact h.jQ b ⟨id,be,hb,qG⟩ Ua
  ·rw [hO.2] at Ub; exact (h.cQ b Ub).2.1 ⟨id,be,hb,qG⟩
  ·refine Nx b ⟨id,be,hb,qG⟩ (fun i eD hi HN HM=>?_) rp
   have:=h.inj i id eD be b HN hb HM qG
   subst this
   unfold Mem.del at hi
   simp at hi
 ·by_cases h0:m.del id i=.none
  ·have h1:=iM.fresh h0
   have h2:m i=.none:=by unfold Mem.del at h0; simpa [hi] using h0
   rw [h1,h.fresh h2]
  ·exact hB i h0
def sG (id:Nat) (ml:List (Nat × LE)):Bool:=ml.all fun q=>q.1 == id || match q.2 with | .box cs=>LV.cu id cs | .arr _ _ _=>true | .map _ _ _=>true | .nest _ _ _ _=>true | .cW _ _ _ _ _ _ id2 _=>id2 != id | .dead=>true
theorem Mem.AN (ml:List (Nat × LE)) (id:Nat):(Mem.of ml).del id=Mem.of (ml.filter fun q=>q.1 != id):=by
 funext i
 unfold Mem.del
 induction ml with
 | nil=>simp [Mem.of]
 | cons p ml ih =>
  obtain ⟨d,v⟩:=p
  by_cases hd:d=id
  ·subst hd
   simp only [List.filter_cons,bne_self_eq_false,Bool.false_eq_true,if_false,← ih,Mem.of]
   split
   ·rfl
   ·rename_i hi; simp [hi]
  ·have:(d != id)=true:=by simpa using hd
   simp only [List.filter_cons,this,if_true,Mem.of]
   by_cases hi:i=id
   ·subst hi
    simp only [if_true] at ih ⊢
    rw [if_neg (fun h=>hd h.symm)]; exact ih
   ·simp only [hi,if_false] at ih ⊢
    split
    ·rfl
    ·exact ih
theorem Env.of_map (el:List (Nat × LV)) (f:LV→LV) (hf:f .eF=.eF):(fun i=>f (Env.of el i))=Env.of (el.map fun p=>(p.1,f p.2)):=by
 funext i
 induction el with
 | nil=>simpa [Env.of] using hf
 | cons p el ih =>
  obtain ⟨d,v⟩:=p
  simp only [Env.of,List.map_cons]
  split
  ·rfl
  ·exact ih
theorem mA {id:Nat} {ml:List (Nat × LE)} (h:sG id ml=true):∀ i le,i ≠ id→Mem.of ml i=some le→le.kU id=true:=by
 intro i le hi hm
 have:=List.all_eq_true.1 h _ (fl hm)
 cases le with
 | box cs=>simpa [hi,LE.kU] using this
 | cW _ _ _ _ _ _ _ _=>simpa [hi,LE.kU] using this
 | _=>rfl
theorem Wk.bg {pr:Nat→Prop} {el:List (Nat × LV)} {ml:List (Nat × LE)} (id:Nat) (cs:List LV) (bE:Mem.of ml id=some (.box cs)) (hp:LV.bk cs=true) (kf:sG id ml=true) (mi:¬ pr id) :
  Wk pr (Env.of el) (Mem.of ml) (Env.of (el.map fun p=>(p.1,p.2.bg id cs))) (Mem.of (ml.filter fun q=>q.1 != id)):=by
 intro N c a bV
 rw [← Env.of_map el (LV.bg id cs) (by simp [LV.bg]),← Mem.AN]
 obtain ⟨c',hw,hO,iM,hV,bf,hX,hB⟩:=bV.mem.del id (mA kf)
 obtain ⟨b,vs,e,zw,hh,hl,h1⟩:=jd bV.mem bE
 refine ⟨c',hw,⟨fun i=>xp hV ?_ _ _ (bV.env i),iM,bV.size,bV.defers⟩,?_⟩
 ·intro o v hv
  simp only [av] at hv ⊢
  obtain ⟨b',n,iB,rfl⟩:=hv
  rw [zw] at iB
  cases iB
  have gb:=fm (mH hh) o
  simp only [Nat.zero_add] at gb
  refine ⟨b,o,vs.drop o,rfl,by rw [hw]; exact (Array.getElem?_eq_some_iff.1 hh).1,hX b _ zw rfl,?_,fun y hy=>h1 y (List.mem_of_mem_drop hy),by rw [hw]; exact gb⟩
  have hle:c.Le c':=Cx.sub_le hw hO bf
  exact (aC.mono hle cs vs (fun j hj=>by rw [az cs hp] at hj; cases hj) hl).drop o
 ·refine Cx.mK hw hO bf (fun i be Av hb=>?_)
  exact ⟨be,by rw [hB i (fun h=>mi (h ▸ Av))]; exact hb,.refl be⟩
theorem Wk.eI {pr:Nat→Prop} {el:List (Nat × LV)} {ml:List (Nat × LE)} (id e k:Nat) (xs:List LV) (bE:Mem.of ml id=some (.arr e k xs)) (kf:sG id ml=true) (mi:¬ pr id) :
  Wk pr (Env.of el) (Mem.of ml) (Env.of (el.map fun p=>(p.1,p.2.eI id k xs))) (Mem.of (ml.filter fun q=>q.1 != id)):=by
 intro N c a bV
 rw [← Env.of_map el (LV.eI id k xs) (by simp [LV.eI]),← Mem.AN]
 obtain ⟨c',hw,hO,iM,hV,bf,hX,hB⟩:=bV.mem.del id (mA kf)
 refine ⟨c',hw,⟨fun i=>xo hV ?_ _ _ (bV.env i),iM,bV.size,bV.defers⟩,?_⟩
 ·intro v hv
  obtain ⟨vs,zw,hk,iu,hl,hc,hp⟩:=gl bV.mem hv bE rfl
  simp only [av]
  have hle:c.Le c':=Cx.sub_le hw hO bf
  have iL:=aC.mono hle xs vs (fun j hj=>by rw [az xs hp] at hj; cases hj) hl
  rcases iu.2 with ⟨rfl,h0⟩ | ⟨g,cap,cur,rfl,_,hg,kq,_⟩
  ·exact ⟨.none,0,by rw [h0],by omega,fun _=>rfl,hp,.inl (List.eq_nil_of_length_eq_zero h0)⟩
  ·refine ⟨some ⟨g,0,.none⟩,cap,rfl,kq,by simp,hp,.inr ⟨g,0,vs,rfl,by rw [hw]; exact (Array.getElem?_eq_some_iff.1 hg).1,hX g _ zw (.inl rfl),iL,hc,?_⟩⟩
   rw [hw]; exact cU iu rfl
 ·refine Cx.mK hw hO bf (fun i be Av hb=>?_)
  exact ⟨be,by rw [hB i (fun h=>mi (h ▸ Av))]; exact hb,.refl be⟩
theorem Wk.own {pr:Nat→Prop} {el fy:List (Nat × LV)} {ml:List (Nat × LE)} (id e k:Nat) (bE:Mem.of ml id=.none) (hk:0<k)
  (rm:fy.length=el.length) (hh:∀ i:Nat,∀ p q,el[i]?=some p→fy[i]?=some q→q.1=p.1∧(q.2=p.2 ∨ (p.2=.nil∧q.2=.arr id 0))) :
  Wk pr (Env.of el) (Mem.of ml) (Env.of fy) (Mem.of ((id,.arr e k []) :: ml)):=by
 intro N c a bV
 have hB:=bV.mem.fresh bE
 obtain ⟨c',hw,hb,h2,h3⟩:=bV.mem.Bo (pr:=pr) id (.arr e k []) (.arr (.slice .none 0 0) k 0 []) c.w rfl rfl rfl (Nat.le_refl _) (Nat.le_refl _)
  (fun b _ _=>rfl) (fun b hb=>by simp [BE.has,Value.ownBlock] at hb) (by rw [hB]; trivial) (fun _ dn h0=>by rw [hB] at h0; cases h0)
  (fun c' hw hle dA=>by
   simp only [bt]
   exact ⟨.slice .none 0 0,[],rfl,hk,by rw [hw]; exact World.ownsRow_nil c.w 0 e k,by simp [aC],by simp,by simp [LV.bk]⟩)
 refine ⟨c',hw,⟨fun i=>?_,?_,bV.size,bV.defers⟩,h3.grow⟩
 ·have key:∀ (el fy:List (Nat × LV)),fy.length=el.length→(∀ i:Nat,∀ p q,el[i]?=some p→fy[i]?=some q→q.1=p.1∧(q.2=p.2 ∨ (p.2=.nil∧q.2=.arr id 0)))→Env.of fy i=Env.of el i ∨ (Env.of el i=.nil∧Env.of fy i=.arr id 0):=by
   intro el
   induction el with
   | nil=>intro fy hl _; have:fy=[]:=List.eq_nil_of_length_eq_zero (by simpa using hl); subst this; exact .inl rfl
   | cons p el ih =>
    intro fy hl hh
    cases fy with
    | nil=>simp at hl
    | cons q fy =>
     obtain ⟨h1,h2⟩:=hh 0 p q (by simp) (by simp)
     obtain ⟨d,v⟩:=p
     obtain ⟨d',v'⟩:=q
     simp only at h1 h2
     subst h1
     simp only [Env.of]
     split
     ·exact h2
     ·exact ih fy (by simpa using hl) (fun i p q hp hq=>hh (i+1) p q (by simpa using hp) (by simpa using hq))
  rcases key el fy rm hh with he | ⟨he,Aj⟩
  ·rw [he]; exact h3.wE (bV.env i)
  ·rw [Aj]
   have:=bV.env i
   rw [he] at this
   simp only [av] at this ⊢
   exact ⟨by rw [this]; rfl,_,_,_,_,hb,Nat.le_refl _,fun _=>this⟩
 ·have:(Mem.of ml).put id (.arr e k [])=Mem.of ((id,.arr e k []) :: ml):=rfl
  rw [← this]; exact h2
def Env.args (l:List LV):Env:=fun i=>l.getD i .eF
def jl (P:Program) (e:Env) (m:Mem):List ResultVar→(List LV→Prop)→Prop
 | [],K=>K []
 | .tmp t :: r,K=>jl P e m r fun l=>K (e t :: l)
 | .cell a t :: r,K=>match e a with
  | .ptr id o=>match m id with
   | some (.box cs)=>o≤cs.length∧loadC P t (cs.drop o) fun lv=>jl P e m r fun l=>K (lv :: l)
   | _=>False
  | .ag cs=>loadC P t cs fun lv=>jl P e m r fun l=>K (lv :: l)
  | _=>False
def tM (tmps:Array Value):ResultVar→Sem Value
 | .tmp t=>pure (tmps.getD t undef)
 | .cell x t=>do loadVar t (← asAddr (tmps.getD x undef))
def oneOf:List LV→LV
 | [x]=>x
 | l=>.cX l
theorem oH {P:Program} {e:Env} {m:Mem}:∀ (rs:List ResultVar) (K:List LV→Prop),jl P e m rs K →
  ∃ l,K l∧∀ (N:Nat) (c:Cx) (a:Act),l9 N c e m a→∃ vs,(rs.mapM (tM a.tmps)).run P c.w=.ok vs c.w∧aC c l vs
 | [],K,h=>⟨[],h,fun N c a hr=>⟨[],by simp,by simp [aC]⟩⟩
 | .tmp t :: r,K,h=>by
  simp only [jl] at h
  obtain ⟨l,hK,hl⟩:=oH r _ h
  refine ⟨_,hK,fun N c a hr=>?_⟩
  obtain ⟨vs,h1,h2⟩:=hl N c a hr
  refine ⟨a.tmps.getD t undef :: vs,by simp only [List.mapM_cons,Sem.run_bind,tM,Sem.run_pure,Result.andThen_ok,h1],?_⟩
  simp only [aC]
  exact ⟨_,_,rfl,hr.env t,h2⟩
 | .cell x t :: r,K,h=>by
  simp only [jl] at h
  have fin:∀ (cs:List LV),loadC P t cs (fun lv=>jl P e m r fun l=>K (lv :: l))→(∀ (N:Nat) (c:Cx) (a:Act),l9 N c e m a→∃ b off vs,a.tmps.getD x undef=.pointer (some ⟨b,off,.none⟩)∧aC c cs vs∧c.w.rangeAt b off vs)→∃ l,K l∧∀ (N:Nat) (c:Cx) (a:Act),l9 N c e m a→∃ vs,((ResultVar.cell x t :: r).mapM (tM a.tmps)).run P c.w=.ok vs c.w∧aC c l vs:=by
   intro cs h RS
   obtain ⟨lv,hK,hv⟩:=hD h
   obtain ⟨l,vR,hl⟩:=oH r _ hK
   refine ⟨_,vR,fun N c a hr=>?_⟩
   obtain ⟨b,off,us,he,wa,gb⟩:=RS N c a hr
   obtain ⟨v,kr,wY⟩:=hv c b off us wa gb
   obtain ⟨vs,h1,h2⟩:=hl N c a hr
   have Nw:(loadVar t ⟨b,off,.none⟩).run P c.w=.ok v c.w:=by
    simpa [Instr.loadAt,Instr.sureAddr] using kr
   refine ⟨v :: vs,?_,by simp only [aC]; exact ⟨_,_,rfl,wY,h2⟩⟩
   simp only [List.mapM_cons,tM,Sem.run_bind,he,asAddr,Sem.run_pure,Result.andThen_ok,Nw,h1]
  cases hx:e x <;> simp only [hx] at h
  case ag cs =>
   refine fin cs h fun N c a hr=>?_
   have:=hr.env x
   rw [hx] at this
   simp only [av] at this
   obtain ⟨b,off,vs,he,_,_,hl,_,gb⟩:=this
   exact ⟨b,off,vs,he,hl,gb⟩
  case ptr id o =>
   cases hm:m id with
   | none=>simp [hm] at h
   | some le =>
    cases le with
    | map _ _ _=>simp [hm] at h
    | nest _ _ _ _=>simp [hm] at h
    | cW _ _ _ _ _ _ _ _=>simp [hm] at h
    | dead=>simp [hm] at h
    | arr _ _ _=>simp [hm] at h
    | box cs =>
     simp only [hm] at h
     refine fin (cs.drop o) h.2 fun N c a hr=>?_
     obtain ⟨b,vs,q,hB,hh,hl,h1⟩:=jd hr.mem hm
     have:=hr.env x
     rw [hx] at this
     simp only [av] at this
     obtain ⟨b',n,iB,he⟩:=this
     rw [hB] at iB
     cases iB
     have gb:=fm (mH hh) o
     simp only [Nat.zero_add] at gb
     exact ⟨b,o,_,he,hl.drop o,gb⟩
def LZ (P:Program) (fn:Func) (pr:Nat→Prop) (R:LV→Mem→Prop):Exit→Env→Mem→Prop
 | .ret,e,m=>jl P e m fn.results.toList fun l=>∃ ml,(∀ p ∈ ml,m p.1=some p.2)∧aV [(0,oneOf l)] ml=true∧(∀ id,pr id→m id=.none ∨ Mem.of ml id ≠ .none)∧R (oneOf l) (Mem.of ml)
 | .normal,e,m=>jl P e m fn.results.toList fun l=>∃ ml,(∀ p ∈ ml,m p.1=some p.2)∧aV [(0,oneOf l)] ml=true∧(∀ id,pr id→m id=.none ∨ Mem.of ml id ≠ .none)∧R (oneOf l) (Mem.of ml)
 | _,_,_=>False
theorem aM.Ie {P:Program} {f:Nat} {fn:Func} {code:Code} {args:List LV} {m:Mem} {R:LV→Mem→Prop} (hf:P.funcs[f]?=some fn) (hb:fn.body=some code) (hn:args.length≤fn.ntmps)
  (h:LH P fn.ntmps (fun id=>m id ≠ .none) code (LZ P fn (fun id=>m id ≠ .none) R) (Env.args args) m):∃ lv m',aM P f args m lv m'∧R lv m':=by
 obtain ⟨ex,e',m1,hx,hq⟩:=h
 have main:(jl P e' m1 fn.results.toList fun l=>∃ ml,(∀ p ∈ ml,m1 p.1=some p.2)∧aV [(0,oneOf l)] ml=true∧(∀ id,m id ≠ .none→m1 id=.none ∨ Mem.of ml id ≠ .none)∧R (oneOf l) (Mem.of ml))→(ex=.ret ∨ ex=.normal)→∃ lv m',aM P f args m lv m'∧R lv m':=by
  intro K4 hex
  obtain ⟨l,⟨ml,h1,h2,h3,hR⟩,hl⟩:=oH _ _ K4
  refine ⟨oneOf l,Mem.of ml,fun c vs hm ha=>?_,hR⟩
  refine calls_of_wp hf hb ?_
  have hlen:=ha.length
  have bV:l9 fn.ntmps c (Env.args args) m { tmps:=vs.toArray++Array.replicate (fn.ntmps - vs.toArray.size) undef,defers:=[] }:=by
   refine ⟨fun i=>?_,hm,by simp; omega,rfl⟩
   simp only [Env.args,List.getD_eq_getElem?_getD]
   cases hi:args[i]? with
   | none=>simp [av]
   | some x =>
    obtain ⟨v,hv,hr⟩:=ha.get hi
    have xB:i<vs.length:=(List.getElem?_eq_some_iff.1 hv).1
    have:(vs.toArray++Array.replicate (fn.ntmps - vs.toArray.size) undef).getD i undef=v:=by
     rw [Array.getD_eq_getD_getElem?,Array.getElem?_append_left (by simpa using xB)]
     simp [hv]
    rw [this]; exact hr
  refine wp_mono (hx c _ bV) ?_
  rintro x a' w' ⟨rfl,c1,rfl,ee,zB⟩
  obtain ⟨us,Fq,wa⟩:=hl _ c1 a' ee
  have KR:(results fn a'.tmps).run P c1.w=.ok (if h:us.toArray.size=1 then us.toArray[0] else .tuple us.toArray) c1.w:=by
   have e1:results fn a'.tmps=(do let vs ← fn.results.mapM (tM a'.tmps); pure (if h:vs.size=1 then vs[0] else .tuple vs)):=by
    unfold results
    congr 2
   rw [e1,Array.mapM_eq_mapM_toList]
   simp only [Sem.run_bind,Sem.run_map,Fq,Result.andThen_ok,Sem.run_pure]
  have V4:av c1 (oneOf l) (if h:us.toArray.size=1 then us.toArray[0] else .tuple us.toArray):=by
   have Nt:=wa.length
   match l,us,wa with
   | [],us,wa=>simp only [aC] at wa; subst wa; simp [oneOf,av,aC]
   | [x],us,wa =>
    simp only [aC] at wa
    obtain ⟨v,fQ,rfl,hv,rfl⟩:=wa
    simpa [oneOf] using hv
   | x :: y :: l,us,wa =>
    have e5:¬ us.toArray.size=1:=by have:=wa.length; simp at this ⊢; omega
    rw [dif_neg e5]
    simp only [oneOf,av]
    exact ⟨us,rfl,wa⟩
  obtain ⟨c2,qJ,⟨Na,jj,_,_⟩,pw⟩:=Wk.cut (pr:=fun id=>m id ≠ .none) (e:=Env.of [(0,oneOf l)]) (m:=m1) [(0,oneOf l)] ml (by simp [Env.of]) h1 h2 (fun id hp=>h3 id hp) 1 c1 { tmps:=#[if h:us.toArray.size=1 then us.toArray[0] else .tuple us.toArray],defers:=[] }
   ⟨fun i=>by
    by_cases hi:i=0
    ·subst hi; simpa [Env.of] using V4
    ·simp [Env.of,hi,av],ee.mem,rfl,rfl⟩
  have wY:=Na 0
  simp only [Env.of,if_true] at wY
  have I7:a'.defers=[]∧∃ v,(results fn a'.tmps).run P c1.w=.ok v c1.w∧∃ v' c',Ending.returned v=.returned v'∧c'.w=c1.w∧bZ c' (Mem.of ml)∧av c' (oneOf l) v'∧Grow (fun id=>m id ≠ .none) c c' :=
   ⟨ee.defers,_,KR,_,c2,rfl,qJ,jj,by simpa using wY,zB.trans pw⟩
  rcases hex with rfl | rfl
  ·exact I7
  ·exact I7
 cases ex with
 | ret=>exact main hq (.inl rfl)
 | normal=>exact main hq (.inr rfl)
 | _=>exact hq.elim
def sg (P:Program) (f:Nat) (args:List LV) (lv:LV):Prop:=aM P f args Mem.none lv Mem.none
theorem Mem.u1 (m:Mem):m.over Mem.none=m:=by funext i; rfl
theorem yX {c:Cx} {i j:Nat} {le:LE} (hp:(match le with | .box cs=>LV.bk cs | .arr _ _ _=>true | .map _ _ _=>true | .nest _ _ _ _=>true | .cW _ _ _ _ _ _ _ _=>false | .dead=>true)=true) (hm:bZ c (Mem.of [(i,le)])) :
  ∃ c':Cx,c'.w=c.w∧c'.OQ c∧bZ c' (Mem.of [(j,le)])∧c'.B j=c.B i∧(∀ b,c'.own b→c.own b):=by
 let c':Cx:=⟨c.w,fun k=>if k=j then c.B i else .none,c.O,c.Q⟩
 have bf:∀ b,c'.own b→c.own b:=by
  rintro b ⟨k,be,h1,h2⟩
  simp only [c'] at h1
  split at h1
  ·exact ⟨i,be,h1,h2⟩
  ·cases h1
 have hle:c.Le c':=Cx.sub_le rfl ⟨rfl,rfl⟩ bf
 refine ⟨c',rfl,⟨rfl,rfl⟩,⟨fun k=>?_,?_,fun b ho=>hm.jQ b (bf b ho),hm.pb,hm.nq rfl ⟨rfl,rfl⟩ bf⟩,by simp [c'],bf⟩
 ·by_cases hk:k=j
  ·subst hk
   have he:=hm.gD i
   have hb:c'.B k=c.B i:=by simp [c']
   rw [hb]
   simp only [Mem.of,if_true] at he ⊢
   cases le with
   | box cs =>
    simp only [bt] at he ⊢
    obtain ⟨b,us,e,h1,h2,h3,h4⟩:=he
    exact ⟨b,us,e,h1,h2,aC.mono hle cs us (fun q hq=>by rw [az cs hp] at hq; cases hq) h3,h4⟩
   | arr e k' xs =>
    simp only [bt] at he ⊢
    obtain ⟨u,us,h1,h0,h2,h3,h4,h5⟩:=he
    exact ⟨u,us,h1,h0,h2,aC.mono hle xs us (fun q hq=>by rw [az xs h5] at hq; cases hq) h3,h4,h5⟩
   | nest e k' os xs =>
    simp only [bt] at he ⊢
    obtain ⟨u,us,bs,h1,h0,h2,h3,h4⟩:=he
    exact ⟨u,us,bs,h1,h0,h2,h3.mono hle (fun b _=>rfl),h4⟩
   | cW _ _ _ _ _ _ _ _=>cases hp
   | dead=>simpa only [bt] using he
   | map kt vt es =>
    simp only [bt] at he ⊢
    obtain ⟨b,jw,ck,h1,h2,h3,h4,h5,h6,h7⟩:=he
    exact ⟨b,jw,ck,h1,h2,aC.mono hle _ _ (fun j hj=>by rw [az _ h5] at hj; cases hj) h3,aC.mono hle _ _ (fun j hj=>by rw [az _ h6] at hj; cases hj) h4,h5,h6,h7⟩
  ·simp [Mem.of,hk,bt,c']
 ·intro k k' be eD b h1 h2 h3 h4
  simp only [c'] at h1 h2
  split at h1
  ·rename_i hk
   split at h2
   ·rename_i D1; rw [hk,D1]
   ·cases h2
  ·cases h1
theorem aM.DG {P:Program} {f:Nat} {args:List LV} {i o:Nat} {le:LE} (j:Nat) (hp:(match le with | .box cs=>LV.bk cs | .arr _ _ _=>true | .map _ _ _=>true | .nest _ _ _ _=>true | .cW _ _ _ _ _ _ _ _=>false | .dead=>true)=true) (h:aM P f args Mem.none (.ptr i o) (Mem.of [(i,le)])):aM P f args Mem.none (.ptr j o) (Mem.of [(j,le)]):=by
 intro c vs hm ha
 refine (h c vs hm ha).mono ?_
 rintro en w' ⟨v,c1,rfl,rfl,iD,kr,hg⟩
 obtain ⟨c2,hw,hO,jj,hB,bf⟩:=yX (j:=j) hp iD
 refine ⟨v,c2,rfl,hw,jj,?_,hg.sub hw hO bf (fun id be hp=>absurd rfl hp)⟩
 simp only [av] at kr ⊢
 rw [hB]; exact kr
theorem sg.MN {P:Program} {f:Nat} {args:List LV} {lv:LV} (h:sg P f args lv) (hp:LV.bk args=true) (m:Mem) {K:LV→Mem→Prop} (hK:K lv m):Bs P f args m K:=by
 refine ⟨lv,Mem.none,Mem.none,h,fun id bE=>absurd rfl bE,fun id _ bE=>absurd rfl bE,fun id bE=>?_,rfl,(fun id cs bE=>by cases bE),by rw [Mem.u1]; exact hK⟩
 rw [az args hp] at bE; cases bE
theorem sg.calls {P:Program} {f:Nat} {args:List LV} {lv:LV} (h:sg P f args lv) (w:World) (vs:List Value) (ha:aC ⟨w,fun _=>.none,fun _=>False,fun _=>.none⟩ args vs) :
  Calls P f vs.toArray w fun en w'=>(∃ v c',en=.returned v∧c'.w=w'∧av c' lv v)∧RowKit.Below w.heap.size w w':=by
 have hm:bZ ⟨w,fun _=>.none,fun _=>False,fun _=>.none⟩ Mem.none :=
  ⟨fun id=>rfl,fun i i' be eD b h1=>by simp at h1,fun b ho=>fun h=>h,fun b h=>h.elim,fun b h=>absurd rfl h⟩
 refine (h _ vs hm ha).mono ?_
 rintro en w' ⟨v,c',he,rfl,_,hv,hg⟩
 refine ⟨⟨v,c',he,rfl,hv⟩,hg.os,hg.tape,hg.output,hg.size,fun b hb=>hg.jA b hb ?_ (.inl rfl)⟩
 rintro ⟨id,be,h1,_⟩
 simp at h1
end Go.L
namespace Go.L
section
variable {P:Program} {N:Nat} {pr:Nat→Prop} {ro:List Nat} {ops:Array Oper} {e:Env} {m:Mem} {ev:Operand→LV} {d:Option Nat} {ty:TypeId} {pos:String} {af:Array Edge} {g:Option (Nat × Bool)}
theorem od (op:Op) (j:Nat) (want:Bool) (K:Env→Mem→Prop):Bt P pr ro ops ⟨d,op,ty,pos,af,some (j,want)⟩ K e m=match (ops[j]?).bind (·.dst) with
  | some q=>match e q with
   | .bool t=>if t=want then LOp P pr ro ⟨d,op,ty,pos,af,some (j,want)⟩ (c9 e) m fun lv m'=>K (e.fI d lv) m' else K (e.fI d (.cX [])) m
   | .cX []=>K (e.fI d (.cX [])) m
   | _=>False
  | .none=>False:=rfl
section ops
variable {K:LV→Mem→Prop}
@[go_sem] theorem LOp_move (x:Operand):LOp P pr ro ⟨d,.move x,ty,pos,af,g⟩ ev m K=K (ev x) m:=rfl
@[go_sem] theorem LOp_assign (x:Operand):LOp P pr ro ⟨d,.assign x,ty,pos,af,g⟩ ev m K=K (ev x) m:=rfl
@[go_sem] theorem LOp_pick (c a b:Operand):LOp P pr ro ⟨d,.pick c a b,ty,pos,af,g⟩ ev m K=match ev c with | .bool t=>K (if t then ev a else ev b) m | _=>False:=rfl
@[go_sem] theorem LOp_alloc (t:TypeId) (i:Nat):LOp P pr ro ⟨some i,.alloc t,ty,pos,af,g⟩ ev m K=match tzero P t with
  | some z=>m (100+i)=.none∧K (.ptr (100+i) 0) (m.put (100+i) (.box z.cells))
  | .none=>False:=by
 simp only [LOp]; cases tzero P t <;> rfl
@[go_sem] theorem LOp_box (t:TypeId) (x:Operand) (i:Nat):LOp P pr ro ⟨some i,.box t x,ty,pos,af,g⟩ ev m K=((ev x).cells.all LV.scalar=true ∧
      if ro.contains i=true then K (.ag (ev x).cells) m
      else m (100+i)=.none∧K (.ptr (100+i) 0) (m.put (100+i) (.box (ev x).cells))):=rfl
@[go_sem] theorem LOp_build (t:TypeId) (l:List (Nat × Operand)):LOp P pr ro ⟨d,.build t l.toArray,ty,pos,af,g⟩ ev m K=(tbuild P t=true∧match tzero P t with
  | some (.agg z)=>match lX P t z (l.map fun p=>(p.1,ev p.2)) with
   | some cs=>K (.agg cs) m
   | .none=>False
  | _=>False):=rfl
@[go_sem] theorem LOp_buildSlice (t:TypeId) (len:Nat) (l:List (Nat × Operand)):LOp P pr ro ⟨d,.buildSlice t len l.toArray,ty,pos,af,g⟩ ev m K=match telem P t with
  | some e=>gI P e=true∧len * tsize P e≤16777216∧l.map (·.1)=List.range len∧qK (tsize P e) (l.map fun p=>ev p.2)∧K (.ak (tsize P e) (l.map fun p=>ev p.2)) m
  | .none=>False:=rfl
@[go_sem] theorem LOp_load (t:TypeId) (a:Operand):LOp P pr ro ⟨d,.load t a,ty,pos,af,g⟩ ev m K=match ev a with
  | .ag cs=>loadC P t cs fun lv=>K lv m
  | .ptr id o=>match m id with
   | some (.box cs)=>o≤cs.length∧loadC P t (cs.drop o) fun lv=>K lv m
   | _=>False
  | .bJ id n i o=>match m id with
   | some (.arr _ _ xs)=>n=xs.length∧∃ x,xs[i]?=some x∧x.cells.all LV.scalar=true∧o≤x.cells.length∧loadC P t (x.cells.drop o) fun lv=>K lv m
   | _=>False
  | _=>False:=rfl
@[go_sem] theorem LOp_store (t:TypeId) (a x:Operand):LOp P pr ro ⟨d,.store t a x,ty,pos,af,g⟩ ev m K=((ev x).cells.all LV.scalar=true∧tok P t=true∧tsize P t=(ev x).cells.length∧match ev a with
  | .ptr id o=>match m id with
   | some (.box cs)=>o+(ev x).cells.length≤cs.length∧K .eF (m.put id (.box (rep cs o (ev x).cells)))
   | _=>False
  | .bJ id n i o=>match m id with
   | some (.arr e k xs)=>n=xs.length∧LV.bk (ev x).cells=true∧∃ y z,xs[i]?=some y∧yZ y o (ev x)=some z∧K .eF (m.put id (.arr e k (xs.set i z)))
   | _=>False
  | _=>False):=rfl
@[go_sem] theorem LOp_nilCheck (x:Operand):LOp P pr ro ⟨d,.nilCheck x,ty,pos,af,g⟩ ev m K=match ev x with
  | .ptr _ _=>K (ev x) m
  | .ag _=>K (ev x) m
  | .bJ id n _ _=>(match m id with | some (.arr _ _ xs)=>n=xs.length | _=>False)∧K (ev x) m
  | .fn _ _=>K (ev x) m
  | _=>False:=rfl
@[go_sem] theorem LOp_binOp (op:BinOp) (t t':TypeId) (x y:Operand):LOp P pr ro ⟨d,.binOp op t x y t',ty,pos,af,g⟩ ev m K=match ev x,ev y with
  | .int k a,.int k' b=>k=k'∧oF op k a b fun lv=>K lv m
  | .bool a,.bool b=>vw P t=true∧(match op with | .eql=>K (.bool (a == b)) m | .neq=>K (.bool (!(a == b))) m | _=>False)
  | .agg xs,.agg ys=>∃ b,nQ P t xs ys b∧(match op with | .eql=>K (.bool b) m | .neq=>K (.bool (!b)) m | _=>False)
  | _,_=>False:=rfl
@[go_sem] theorem LOp_not (t:TypeId) (x:Operand):LOp P pr ro ⟨d,.unOp .not t x,ty,pos,af,g⟩ ev m K=match ev x with
  | .bool b=>K (.bool (!b)) m
  | _=>False:=by
 simp only [LOp]; cases ev x <;> rfl
@[go_sem] theorem LOp_convert (s t:TypeId) (x:Operand):LOp P pr ro ⟨d,.convert s t x,ty,pos,af,g⟩ ev m K=(tok P s=true∧match tint P t,ev x with
  | some k,.int _ n=>K (.int k (k.wrap n)) m
  | _,_=>False):=rfl
@[go_sem] theorem LOp_slice (t:TypeId) (x:Operand) (lo hi mx:Option Operand):LOp P pr ro ⟨d,.slice t x lo hi mx,ty,pos,af,g⟩ ev m K=((telem P t).isSome=true∧tok P ((telem P t).getD 0)=true∧mx=.none∧match ev x with
  | .ak k xs=>some k=(telem P t).map (tsize P)∧∃ l h:Nat,(match lo with | .none=>l=0 | some y=>ev y=.int .i64 l)∧(match hi with | .none=>h=xs.length | some y=>ev y=.int .i64 h) ∧
    l≤h∧h≤xs.length∧K (.ak k ((xs.take h).drop l)) m
  | .nil=>(match lo with | .none=>True | some y=>ev y=.int .i64 0)∧(match hi with | .none=>True | some y=>ev y=.int .i64 0)∧K .nil m
  | _=>False):=rfl
@[go_sem] theorem LOp_fieldAddr (t:TypeId) (x:Operand) (f:Nat):LOp P pr ro ⟨d,.fieldAddr t x f,ty,pos,af,g⟩ ev m K=match tfield P t f with
  | some (off,ft)=>tok P ft=true∧tsize P ft ≠ 0∧match ev x with
   | .ag cs=>off≤cs.length∧K (.ag (cs.drop off)) m
   | .ptr id o=>K (.ptr id (o+off)) m
   | .bJ id n i o=>(match m id with | some (.arr _ _ xs)=>n=xs.length | _=>False)∧K (.bJ id n i (o+off)) m
   | _=>False
  | .none=>False:=rfl
@[go_sem] theorem LOp_indexAddr (t:TypeId) (x i:Operand):LOp P pr ro ⟨d,.indexAddr t x i,ty,pos,af,g⟩ ev m K=match telem P t,ev x,ev i with
  | some e,.ak k xs,.int _ n=>tok P e=true∧k=tsize P e∧0≤n∧∃ y,xs[n.toNat]?=some y∧y.cells.all LV.scalar=true∧K (.ag y.cells) m
  | some e,.arr id l,.int _ n=>match m id with
   | some (.arr _ k xs)=>tok P e=true∧l=xs.length∧k=tsize P e∧0≤n∧n<l∧K (.bJ id l n.toNat 0) m
   | _=>False
  | _,_,_=>False:=rfl
@[go_sem] theorem LOp_extract (t:Operand) (i:Nat):LOp P pr ro ⟨d,.extract t i,ty,pos,af,g⟩ ev m K=match ev t with
  | .cX vs=>∃ v,vs[i]?=some v∧K v m
  | _=>False:=rfl
@[go_sem] theorem LOp_makeFunc (f:Nat) (cap:List Operand):LOp P pr ro ⟨d,.makeFunc (.func f) #[] cap.toArray,ty,pos,af,g⟩ ev m K=K (.fn f (cap.map ev)) m:=by
 simp [LOp]
@[go_sem] theorem LOp_makeSlice (t:TypeId) (l c:Operand) (i:Nat):LOp P pr ro ⟨some i,.makeSlice t l c,ty,pos,af,g⟩ ev m K=match telem P t,tzero P ((telem P t).getD 0),ev l,ev c,some i with
  | some e,some z,.int .i64 n,.int .i64 n',some d=>n=n'∧0≤n∧n≤549755813888∧gI P e=true∧z.pure=true∧m (100+d)=.none ∧
    K (.arr (100+d) n.toNat) (m.put (100+d) (.arr e (tsize P e) (List.replicate n.toNat z)))
  | _,_,_,_,_=>False:=rfl
@[go_sem] theorem LOp_len (x:Operand) (t:TypeId):LOp P pr ro ⟨d,.call ⟨.builtin .len,#[x],#[t]⟩,ty,pos,af,g⟩ ev m K=((telem P t).isSome=true∧match ev x with
        | .ak _ xs=>K (.int .i64 xs.length) m
        | .nil=>K (.int .i64 0) m
        | .arr id n=>(match m id with | some (.arr _ _ xs)=>n=xs.length | _=>False)∧K (.int .i64 n) m
        | _=>False):=rfl
def qx (P:Program) (pr:Nat→Prop) (m:Mem) (i e:Nat) (x:LV) (K:LV→Mem→Prop) (ys:List LV):Prop :=
 match x with
 | .arr id n=>¬ pr id∧match m id with
  | some (.arr e' k xs)=>e'=e∧k=tsize P e∧n=xs.length∧xs.length+ys.length≤549755813888∧K (.arr id (n+ys.length)) (m.put id (.arr e k (xs++ys)))
  | _=>False
 | .nil=>m (100+i)=.none∧ys.length≤549755813888∧K (.arr (100+i) ys.length) (m.put (100+i) (.arr e (tsize P e) ys))
 | _=>False
attribute [go_sem] qx
@[go_sem] theorem LOp_append (x y:Operand) (t t':TypeId) (i:Nat):LOp P pr ro ⟨some i,.call ⟨.builtin .append,#[x,y],#[t,t']⟩,ty,pos,af,g⟩ ev m K=(t=t'∧match telem P t with
        | some e=>gI P e=true∧match ev y with
          | .ak k ys=>k=tsize P e∧qx P pr m i e (ev x) K ys
          | .nil=>qx P pr m i e (ev x) K []
          | .aI _ _ k ys=>k=tsize P e∧qx P pr m i e (ev x) K ys
          | _=>False
        | .none=>False):=by
  have h0:LOp P pr ro ⟨some i,.call ⟨.builtin .append,#[x,y],#[t,t']⟩,ty,pos,af,g⟩ ev m K=(t=t'∧match telem P t with
        | some e=>gI P e=true∧∃ ys,Src (tsize P e) (ev y) ys∧qx P pr m i e (ev x) K ys
        | .none=>False):=rfl
  rw [h0]
  cases telem P t with
  | none=>rfl
  | some e =>
    simp only
    congr 2
    cases hy:ev y <;> simp [Src]
    case ak k ys =>
      constructor
      · rintro ⟨zs,⟨rfl,rfl⟩,h⟩; exact ⟨rfl,h⟩
      · rintro ⟨rfl,h⟩; exact ⟨ys,⟨rfl,rfl⟩,h⟩
    case aI k ys =>
      constructor
      · rintro ⟨zs,⟨rfl,rfl⟩,h⟩; exact ⟨rfl,h⟩
      · rintro ⟨rfl,h⟩; exact ⟨ys,⟨rfl,rfl⟩,h⟩
@[go_sem] theorem LOp_call (x:Operand) (l:List Operand) (ts:Array TypeId):LOp P pr ro ⟨d,.call ⟨.value x,l.toArray,ts⟩,ty,pos,af,g⟩ ev m K=match ev x with
      | .fn f cap => (∃ fn, P.funcs[f]? = some fn ∧ (fn.name == "runtime.NumGoroutine") = false ∧ fn.body.isNone = false) ∧ Bs P f (l.map ev ++ cap) m K
      | _=>False:=rfl
end ops
attribute [go_sem] LV.refs LV.bK LV.cells oF rep lX LV.scalar LV.pure LV.bk D9 uu yZ jl oneOf List.all_cons List.all_nil List.map_cons List.map_nil List.drop_zero List.drop_succ_cons List.drop_nil List.take_succ_cons List.take_zero List.take_nil List.length_cons List.length_nil List.nil_append List.cons_append List.getElem?_cons_zero List.getElem?_cons_succ Bool.and_true Bool.true_and Bool.and_self List.getD_cons_zero List.getD_cons_succ List.getD_nil
@[go_sem] theorem loadC_def (t:TypeId) (cs:List LV) (K:LV→Prop):loadC P t cs K=(tok P t=true∧if tagg P t=true then tsize P t≤cs.length∧K (.agg (cs.take (tsize P t))) else match cs with | x :: _=>K x | []=>False):=rfl
def lO (m:Mem):List (Nat × LE)→Prop
 | []=>True
 | (i,v) :: r=>m i=some v∧lO m r
theorem lO.all:∀ {l:List (Nat × LE)},lO m l→∀ p ∈ l,m p.1=some p.2
 | [],_,p,hp=>by cases hp
 | (i,v) :: r,h,p,hp=>by
  rcases List.mem_cons.1 hp with rfl | hp
  ·exact h.1
  ·exact lO.all h.2 p hp
theorem LH.mid {x y:Code} {Q:Exit→Env→Mem→Prop} (M:Env→Mem→Prop) (h1:LH P N pr x (zd M Q) e m) (h2:∀ e m,M e m→LH P N pr y Q e m):LH P N pr (.seq x y) Q e m :=
 LH.seq (h1.mono fun ex e m h=>by cases ex <;> first | exact h2 e m h | exact h)
theorem aM.MM {f:Nat} {args:List LV} {lv:LV} {ml de:List (Nat × LE)} {K:LV→Mem→Prop} (h:aM P f args (Mem.of ml) lv (Mem.of de)) (hm:lO m ml) (rn:∀ p ∈ de,(ml.any fun q=>q.1 == p.1)=true ∨ m p.1=.none) (hargs:aV (args.map fun x=>(0,x)) ml=true) (hK:K lv (m.over (Mem.of de))) (vZ:Mem.of ml dp=.none:=by exact rfl):Bs P f args m K:=by
 simp only [aV,Bool.and_eq_true,List.all_eq_true] at hargs
 refine ⟨lv,_,_,h,fun i hi=>?_,fun i hi gn=>?_,fun i hi=>?_,vZ,fun i cs hi j hj=>?_,hK⟩
 ·cases hq:Mem.of ml i with
  | none=>exact absurd hq hi
  | some le=>exact hm.all _ (fl hq)
 ·cases hq:Mem.of de i with
  | none=>exact absurd hq gn
  | some le =>
   rcases rn _ (fl hq) with h1 | h1
   ·exact absurd hi (jm h1)
   ·exact h1
 ·have key:∀ (l:List LV),LV.cu i l=false→∃ x ∈ l,i ∈ x.refs:=by
   intro l
   induction l with
   | nil=>intro h; simp [LV.cu] at h
   | cons x l ih =>
    intro h
    simp only [LV.cu,Bool.and_eq_false_iff] at h
    rcases h with h | h
    ·exact ⟨x,by simp,iX x h⟩
    ·obtain ⟨y,hy,hr⟩:=ih h
     exact ⟨y,by simp [hy],hr⟩
  obtain ⟨x,hx,hr⟩:=key args hi
  exact jm (hargs.1 (0,x) (List.mem_map.2 ⟨x,hx,rfl⟩) i hr)
 ·have h2:=hargs.2 _ (fl hi)
  cases cs with
  | box cs =>
   simp only [List.all_eq_true] at h2
   exact jm (h2 j (db cs hj))
  | cW _ _ _ _ _ _ id2 _ =>
   simp only [LE.kU,bne_eq_false_iff_eq] at hj
   subst hj
   exact jm h2
  | _=>simp [LE.kU] at hj
end
end Go.L
namespace Go.L
section
variable {P:Program} {N:Nat} {pr:Nat→Prop} {ro:List Nat} {o:Oper} {ev HF:Operand→LV} {m:Mem} {K:LV→Mem→Prop}
theorem nt {t:TypeId} {cs:List LV} {K:LV→Prop} (h:loadC P t cs K):∃ lv,K lv∧∀ K':LV→Prop,K' lv→loadC P t cs K':=by
 obtain ⟨ht,h⟩:=h
 by_cases hg:tagg P t=true
 ·rw [if_pos hg] at h
  exact ⟨_,h.2,fun K' hK=>⟨ht,by rw [if_pos hg]; exact ⟨h.1,hK⟩⟩⟩
 ·rw [if_neg hg] at h
  match cs,h with
  | x :: cs,h=>exact ⟨x,h,fun K' hK=>⟨ht,by rw [if_neg hg]; exact hK⟩⟩
theorem AG {op:BinOp} {k:IntKind} {a b:Int} {K:LV→Prop} (h:oF op k a b K):∃ lv,K lv∧∀ K':LV→Prop,K' lv→oF op k a b K':=by
 cases op <;> simp only [oF] at h ⊢ <;> first | exact h.elim | exact ⟨_,h,fun K' hK=>hK⟩ | exact ⟨_,h.2,fun K' hK=>⟨h.1,hK⟩⟩
theorem xW {m:Mem} {id:Nat} {x:LE}:m.put id x ≠ Mem.none:=fun h=>by
 have:=congrFun h id
 simp [Mem.put,Mem.none] at this
theorem vC (h:LOp P pr ro o ev m K):∃ lv m',K lv m'∧(∀ K':LV→Mem→Prop,K' lv m'→LOp P pr ro o ev m K')∧(m=Mem.none→m'=Mem.none→∀ m0,∀ K':LV→Mem→Prop,K' lv m0→LOp P pr ro o ev m0 K'):=by
 have plain:∀ lv,K lv m→(∀ m0,∀ K':LV→Mem→Prop,K' lv m0→LOp P pr ro o ev m0 K')→∃ lv m',K lv m'∧(∀ K':LV→Mem→Prop,K' lv m'→LOp P pr ro o ev m K')∧(m=Mem.none→m'=Mem.none→∀ m0,∀ K':LV→Mem→Prop,K' lv m0→LOp P pr ro o ev m0 K') :=
  fun lv hK me=>⟨lv,m,hK,fun K' vR=>me m K' vR,fun _ _=>me⟩
 have reader:∀ lv,K lv m→(∀ K':LV→Mem→Prop,K' lv m→LOp P pr ro o ev m K')→(m=Mem.none→False)→∃ lv m',K lv m'∧(∀ K':LV→Mem→Prop,K' lv m'→LOp P pr ro o ev m K')∧(m=Mem.none→m'=Mem.none→∀ m0,∀ K':LV→Mem→Prop,K' lv m0→LOp P pr ro o ev m0 K') :=
  fun lv hK me hn=>⟨lv,m,hK,me,fun h0=>(hn h0).elim⟩
 have writer:∀ lv id x,K lv (m.put id x)→(∀ K':LV→Mem→Prop,K' lv (m.put id x)→LOp P pr ro o ev m K')→∃ lv m',K lv m'∧(∀ K':LV→Mem→Prop,K' lv m'→LOp P pr ro o ev m K')∧(m=Mem.none→m'=Mem.none→∀ m0,∀ K':LV→Mem→Prop,K' lv m0→LOp P pr ro o ev m0 K') :=
  fun lv id x hK me=>⟨lv,_,hK,me,fun _ h0=>absurd h0 xW⟩
 obtain ⟨d,op,ty,pos,af,g⟩:=o
 cases op
 case move x=>exact plain _ h fun m0 K' hK=>hK
 case assign x=>exact plain _ h fun m0 K' hK=>hK
 case pick c a b =>
  simp only [LOp] at h
  cases hc:ev c <;> simp only [hc] at h
  case bool t=>exact plain _ h fun m0 K' hK=>by simp only [LOp,hc]; exact hK
 case alloc t =>
  simp only [LOp] at h
  split at h
  ·rename_i z i hz
   exact writer _ _ _ h.2 fun K' hK=>by simp only [LOp,hz]; exact ⟨h.1,hK⟩
  ·cases h
 case box t x =>
  simp only [LOp] at h
  split at h
  ·rename_i i
   obtain ⟨hs,h⟩:=h
   split at h
   ·rename_i ud
    exact plain _ h fun m0 K' hK=>by simp only [LOp]; exact ⟨hs,by rw [if_pos ud]; exact hK⟩
   ·rename_i ud
    exact writer _ _ _ h.2 fun K' hK=>by simp only [LOp]; exact ⟨hs,by rw [if_neg ud]; exact ⟨h.1,hK⟩⟩
  ·cases h
 case build t parts =>
  simp only [LOp] at h
  obtain ⟨Mw,h⟩:=h
  split at h
  ·rename_i z hz
   split at h
   ·rename_i cs hf
    exact plain _ h fun m0 K' hK=>by simp only [LOp,hz,hf]; exact ⟨Mw,hK⟩
   ·cases h
  ·cases h
 case buildSlice t len parts =>
  simp only [LOp] at h
  cases lU:telem P t <;> simp only [lU] at h
  case some e =>
   obtain ⟨h1,h2,h3,h4,hK⟩:=h
   exact plain _ hK fun m0 K' hK=>by simp only [LOp,lU]; exact ⟨h1,h2,h3,h4,hK⟩
 case load t a =>
  simp only [LOp] at h
  cases hx:ev a <;> simp only [hx] at h
  case ag cs =>
   obtain ⟨lv,hK,hl⟩:=nt h
   exact plain lv hK fun m0 K' vR=>by simp only [LOp,hx]; exact hl _ vR
  case ptr id o =>
   cases hm:m id with
   | none=>simp [hm] at h
   | some le =>
    cases le with
    | map _ _ _=>simp [hm] at h
    | nest _ _ _ _=>simp [hm] at h
    | cW _ _ _ _ _ _ _ _=>simp [hm] at h
    | dead=>simp [hm] at h
    | arr e k xs=>simp [hm] at h
    | box cs =>
     simp only [hm] at h
     obtain ⟨ho,h⟩:=h
     obtain ⟨lv,hK,hl⟩:=nt h
     exact reader lv hK (fun K' vR=>by simp only [LOp,hx,hm]; exact ⟨ho,hl _ vR⟩) (fun h0=>by rw [h0] at hm; cases hm)
  case bJ id n i o =>
   cases hm:m id with
   | none=>simp [hm] at h
   | some le =>
    cases le with
    | map _ _ _=>simp [hm] at h
    | nest _ _ _ _=>simp [hm] at h
    | cW _ _ _ _ _ _ _ _=>simp [hm] at h
    | dead=>simp [hm] at h
    | box cs=>simp [hm] at h
    | arr e k xs =>
     simp only [hm] at h
     obtain ⟨h1,x,h2,h3,h4,h⟩:=h
     obtain ⟨lv,hK,hl⟩:=nt h
     exact reader lv hK (fun K' vR=>by simp only [LOp,hx,hm]; exact ⟨h1,x,h2,h3,h4,hl _ vR⟩) (fun h0=>by rw [h0] at hm; cases hm)
 case store t a x =>
  simp only [LOp] at h
  obtain ⟨h1,h2,h3,h⟩:=h
  cases hx:ev a <;> simp only [hx] at h
  case ptr id o =>
   cases hm:m id with
   | none=>simp [hm] at h
   | some le =>
    cases le with
    | map _ _ _=>simp [hm] at h
    | nest _ _ _ _=>simp [hm] at h
    | cW _ _ _ _ _ _ _ _=>simp [hm] at h
    | dead=>simp [hm] at h
    | arr e k xs=>simp [hm] at h
    | box cs =>
     simp only [hm] at h
     exact writer _ _ _ h.2 fun K' hK=>by simp only [LOp,hx,hm]; exact ⟨h1,h2,h3,h.1,hK⟩
  case bJ id n i o =>
   cases hm:m id with
   | none=>simp [hm] at h
   | some le =>
    cases le with
    | map _ _ _=>simp [hm] at h
    | nest _ _ _ _=>simp [hm] at h
    | cW _ _ _ _ _ _ _ _=>simp [hm] at h
    | dead=>simp [hm] at h
    | box cs=>simp [hm] at h
    | arr e k xs =>
     simp only [hm] at h
     obtain ⟨h4,h5,y,z,h6,h7,hK⟩:=h
     exact writer _ _ _ hK fun K' hK=>by simp only [LOp,hx,hm]; exact ⟨h1,h2,h3,h4,h5,y,z,h6,h7,hK⟩
 case nilCheck x =>
  simp only [LOp] at h
  cases hx:ev x <;> simp only [hx] at h
  case ptr=>exact plain _ h fun m0 K' hK=>by simp only [LOp,hx]; exact hK
  case ag=>exact plain _ h fun m0 K' hK=>by simp only [LOp,hx]; exact hK
  case fn=>exact plain _ h fun m0 K' hK=>by simp only [LOp,hx]; exact hK
  case bJ id n i o =>
   obtain ⟨h1,hK⟩:=h
   refine reader _ hK (fun K' hK=>by simp only [LOp,hx]; exact ⟨h1,hK⟩) (fun h0=>?_)
   rw [h0] at h1; simp [Mem.none] at h1
 case binOp op t x y t' =>
  simp only [LOp] at h
  cases hx:ev x <;> simp only [hx] at h
  case int k a =>
   cases hy:ev y <;> simp only [hy] at h
   case int k' b =>
    obtain ⟨h1,h⟩:=h
    obtain ⟨lv,hK,hl⟩:=AG h
    exact plain lv hK fun m0 K' vR=>by simp only [LOp,hx,hy]; exact ⟨h1,hl _ vR⟩
  case bool a =>
   cases hy:ev y <;> simp only [hy] at h
   case bool b =>
    obtain ⟨h1,h⟩:=h
    cases op <;> simp only [] at h
    case eql=>exact plain _ h fun m0 K' hK=>by simp only [LOp,hx,hy]; exact ⟨h1,hK⟩
    case neq=>exact plain _ h fun m0 K' hK=>by simp only [LOp,hx,hy]; exact ⟨h1,hK⟩
  case agg xs =>
   cases hy:ev y <;> simp only [hy] at h
   case agg ys =>
    obtain ⟨b,h1,h⟩:=h
    cases op <;> simp only [] at h
    case eql=>exact plain _ h fun m0 K' hK=>by simp only [LOp,hx,hy]; exact ⟨b,h1,hK⟩
    case neq=>exact plain _ h fun m0 K' hK=>by simp only [LOp,hx,hy]; exact ⟨b,h1,hK⟩
 case unOp op t x =>
  simp only [LOp] at h
  cases op <;> cases hx:ev x <;> simp only [hx] at h
  case neg.int=>exact plain _ h fun m0 K' hK=>by simp only [LOp,hx]; exact hK
  case not.bool=>exact plain _ h fun m0 K' hK=>by simp only [LOp,hx]; exact hK
 case convert s t x =>
  simp only [LOp] at h
  obtain ⟨h1,h⟩:=h
  cases ht:tint P t <;> simp only [ht] at h
  case some k =>
   cases hx:ev x <;> simp only [hx] at h
   case int=>exact plain _ h fun m0 K' hK=>by simp only [LOp,ht,hx]; exact ⟨h1,hK⟩
 case slice t x lo hi mx =>
  simp only [LOp] at h
  obtain ⟨h1,h2,h3,h⟩:=h
  cases hx:ev x <;> simp only [hx] at h
  case ak k xs =>
   obtain ⟨h4,l,q,h5,h6,h7,h8,hK⟩:=h
   exact plain _ hK fun m0 K' hK=>by simp only [LOp,hx]; exact ⟨h1,h2,h3,h4,l,q,h5,h6,h7,h8,hK⟩
  case nil =>
   obtain ⟨h5,h6,hK⟩:=h
   exact plain _ hK fun m0 K' hK=>by simp only [LOp,hx]; exact ⟨h1,h2,h3,h5,h6,hK⟩
 case fieldAddr t x f =>
  simp only [LOp] at h
  cases nj:tfield P t f <;> simp only [nj] at h
  case some q =>
   obtain ⟨off,ft⟩:=q
   obtain ⟨h1,h2,h⟩:=h
   cases hx:ev x <;> simp only [hx] at h
   case ag cs=>exact plain _ h.2 fun m0 K' hK=>by simp only [LOp,nj,hx]; exact ⟨h1,h2,h.1,hK⟩
   case ptr=>exact plain _ h fun m0 K' hK=>by simp only [LOp,nj,hx]; exact ⟨h1,h2,hK⟩
   case bJ id n i o =>
    obtain ⟨h3,hK⟩:=h
    refine reader _ hK (fun K' hK=>by simp only [LOp,nj,hx]; exact ⟨h1,h2,h3,hK⟩) (fun h0=>?_)
    rw [h0] at h3; simp [Mem.none] at h3
 case field t x f =>
  simp only [LOp] at h
  cases nj:tfield P t f <;> simp only [nj] at h
  case some q =>
   obtain ⟨off,ft⟩:=q
   cases hx:ev x <;> simp only [hx] at h
   case agg cs =>
    obtain ⟨h1,h⟩:=h
    obtain ⟨lv,hK,hl⟩:=nt h
    exact plain lv hK fun m0 K' vR=>by simp only [LOp,nj,hx]; exact ⟨h1,hl _ vR⟩
 case indexAddr t x i =>
  simp only [LOp] at h
  cases lU:telem P t <;> simp only [lU] at h
  case some e =>
   cases hx:ev x <;> simp only [hx] at h
   case ak k xs =>
    cases hi:ev i <;> simp only [hi] at h
    case int ki n =>
     obtain ⟨h1,h2,h3,y,h4,h5,hK⟩:=h
     exact plain _ hK fun m0 K' hK=>by simp only [LOp,lU,hx,hi]; exact ⟨h1,h2,h3,y,h4,h5,hK⟩
   case arr id l =>
    cases hi:ev i <;> simp only [hi] at h
    case int ki n =>
     cases hm:m id with
     | none=>simp [hm] at h
     | some le =>
      cases le with
      | map _ _ _=>simp [hm] at h
      | nest _ _ _ _=>simp [hm] at h
      | cW _ _ _ _ _ _ _ _=>simp [hm] at h
      | dead=>simp [hm] at h
      | box cs=>simp [hm] at h
      | arr e' k xs =>
       simp only [hm] at h
       obtain ⟨h1,h2,h3,h4,h5,hK⟩:=h
       exact reader _ hK (fun K' hK=>by simp only [LOp,lU,hx,hi,hm]; exact ⟨h1,h2,h3,h4,h5,hK⟩) (fun h0=>by rw [h0] at hm; cases hm)
 case extract t i =>
  simp only [LOp] at h
  cases hx:ev t <;> simp only [hx] at h
  case cX vs =>
   obtain ⟨v,h1,hK⟩:=h
   exact plain _ hK fun m0 K' hK=>by simp only [LOp,hx]; exact ⟨v,h1,hK⟩
 case makeFunc f first cap =>
  simp only [LOp] at h
  cases f <;> simp only [] at h
  case func f=>exact plain _ h.2 fun m0 K' hK=>by simp only [LOp]; exact ⟨h.1,hK⟩
 case makeSlice t l c =>
  simp only [LOp] at h
  split at h
  ·rename_i e z n n' i lU hz hx hy
   obtain ⟨h1,h2,h3,h4,h5,h6,hK⟩:=h
   refine writer _ _ _ hK fun K' hK=>?_
   rw [lU] at hz
   simp only [LOp,lU,hz,hx,hy]
   exact ⟨h1,h2,h3,h4,h5,h6,hK⟩
  ·cases h
 case call c =>
  obtain ⟨callee,args,Mc⟩:=c
  cases callee
  case value x =>
   simp only [LOp] at h
   cases hx:ev x <;> simp only [hx] at h
   case fn f cap =>
    obtain ⟨QY,lv,mc,mu,hc,h1,h2,h3,Mo,h4,hK⟩:=h
    refine ⟨lv,_,hK,fun K' vR=>by simp only [LOp,hx]; exact ⟨QY,lv,mc,mu,hc,h1,h2,h3,Mo,h4,vR⟩,fun px iM m0 K' vR=>?_⟩
    subst px
    have e1:mc=Mem.none:=by
     funext id
     cases hq:mc id with
     | none=>rfl
     | some le=>have:=h1 id (by simp [hq]); rw [hq] at this; cases this
    have e2:mu=Mem.none:=by
     funext id
     have:=congrFun iM id
     unfold Mem.over at this
     cases hq:mu id with
     | none=>rfl
     | some le=>simp [hq,Mem.none] at this
    subst e1; subst e2
    simp only [LOp,hx]
    exact ⟨QY,lv,Mem.none,Mem.none,hc,fun id bE=>absurd rfl bE,fun id _ bE=>absurd rfl bE,h3,Mo,h4,by rw [Mem.u1]; exact vR⟩
  case builtin b =>
   cases b
   case len =>
    simp only [LOp] at h
    split at h
    ·rename_i x t hargs uo
     obtain ⟨h1,h⟩:=h
     cases hx:ev x <;> simp only [hx] at h
     case ak=>exact plain _ h fun m0 K' hK=>by simp only [LOp,hargs,uo,hx]; exact ⟨h1,hK⟩
     case nil=>exact plain _ h fun m0 K' hK=>by simp only [LOp,hargs,uo,hx]; exact ⟨h1,hK⟩
     case arr id n =>
      obtain ⟨h2,hK⟩:=h
      refine reader _ hK (fun K' hK=>by simp only [LOp,hargs,uo,hx]; exact ⟨h1,h2,hK⟩) (fun h0=>?_)
      rw [h0] at h2; simp [Mem.none] at h2
    ·cases h
   case append =>
    simp only [LOp] at h
    split at h
    ·rename_i x y t t' hargs uo
     obtain ⟨h1,h⟩:=h
     cases lU:telem P t <;> simp only [lU] at h
     case some e =>
      obtain ⟨h2,ys,h3,h⟩:=h
      cases hx:ev x <;> simp only [hx] at h
      case arr id n =>
       obtain ⟨h4,h⟩:=h
       cases hm:m id with
       | none=>simp [hm] at h
       | some le =>
        cases le with
        | map _ _ _=>simp [hm] at h
        | nest _ _ _ _=>simp [hm] at h
        | cW _ _ _ _ _ _ _ _=>simp [hm] at h
        | dead=>simp [hm] at h
        | box cs=>simp [hm] at h
        | arr e' k xs =>
         simp only [hm] at h
         obtain ⟨h5,h6,h7,h8,hK⟩:=h
         exact writer _ _ _ hK fun K' hK=>by simp only [LOp,hargs,uo,lU,hx,hm]; exact ⟨h1,h2,ys,h3,h4,h5,h6,h7,h8,hK⟩
      case nil =>
       cases d <;> simp only [] at h
       case some i =>
        obtain ⟨h5,h6,hK⟩:=h
        exact writer _ _ _ hK fun K' hK=>by simp only [LOp,hargs,uo,lU,hx]; exact ⟨h1,h2,ys,h3,h5,h6,hK⟩
    ·cases h
   all_goals exact h.elim
  all_goals exact h.elim
 all_goals exact h.elim
theorem nb (bA:∀ x ∈ o.op.operands,ev x=HF x) (h:LOp P pr ro o ev m K):LOp P pr ro o HF m K:=by
 obtain ⟨d,op,ty,pos,af,g⟩:=o
 have Tz:∀ l:List (Nat × Operand),(∀ x ∈ l.map (·.2),ev x=HF x)→(l.map fun p=>ev p.2)=l.map fun p=>HF p.2:=fun l hl =>
  List.map_congr_left fun p hp=>hl _ (List.mem_map.2 ⟨p,hp,rfl⟩)
 have Pm:∀ l:List (Nat × Operand),(∀ x ∈ l.map (·.2),ev x=HF x)→(l.map fun p=>(p.1,ev p.2))=l.map fun p=>(p.1,HF p.2):=fun l hl =>
  List.map_congr_left fun p hp=>by rw [hl _ (List.mem_map.2 ⟨p,hp,rfl⟩)]
 cases op <;> simp only [Op.operands] at bA
 case build t parts=>simp only [LOp] at h ⊢; rw [← Pm parts.toList (fun x hx=>bA x (by simpa using hx))]; exact h
 case buildSlice t n parts=>simp only [LOp] at h ⊢; rw [← Tz parts.toList (fun x hx=>bA x (by simpa using hx))]; exact h
 case makeFunc f first cap =>
  simp only [LOp] at h ⊢
  cases f <;> simp only [] at h ⊢
  case func f=>rw [← List.map_congr_left (f:=ev) (g:=HF) (l:=cap.toList) (fun x hx=>bA x (by simp at hx ⊢; exact .inr hx))]; exact h
 case slice t x lo hi mx =>
  have hx:=bA x (by simp)
  cases lo with
  | none =>
   cases hi with
   | none=>simp only [LOp] at h ⊢; rw [← hx]; exact h
   | some q=>have hq:=bA q (by simp); simp only [LOp] at h ⊢; rw [← hx,← hq]; exact h
  | some r =>
   have hr:=bA r (by simp)
   cases hi with
   | none=>simp only [LOp] at h ⊢; rw [← hx,← hr]; exact h
   | some q=>have hq:=bA q (by simp); simp only [LOp] at h ⊢; rw [← hx,← hr,← hq]; exact h
 case move x=>simp only [LOp] at h ⊢; rw [← bA x (by simp)]; exact h
 case assign x=>simp only [LOp] at h ⊢; rw [← bA x (by simp)]; exact h
 case pick x y z=>simp only [LOp] at h ⊢; rw [← bA x (by simp),← bA y (by simp),← bA z (by simp)]; exact h
 case alloc t=>simp only [LOp] at h ⊢; exact h
 case box t x=>simp only [LOp] at h ⊢; rw [← bA x (by simp)]; exact h
 case load t x=>simp only [LOp] at h ⊢; rw [← bA x (by simp)]; exact h
 case store t x y=>simp only [LOp] at h ⊢; rw [← bA x (by simp),← bA y (by simp)]; exact h
 case nilCheck x=>simp only [LOp] at h ⊢; rw [← bA x (by simp)]; exact h
 case binOp op t x y t'=>simp only [LOp] at h ⊢; rw [← bA x (by simp),← bA y (by simp)]; exact h
 case unOp op t x=>simp only [LOp] at h ⊢; rw [← bA x (by simp)]; exact h
 case convert s t x=>simp only [LOp] at h ⊢; rw [← bA x (by simp)]; exact h
 case fieldAddr t x f=>simp only [LOp] at h ⊢; rw [← bA x (by simp)]; exact h
 case field t x f=>simp only [LOp] at h ⊢; rw [← bA x (by simp)]; exact h
 case indexAddr t x y=>simp only [LOp] at h ⊢; rw [← bA x (by simp),← bA y (by simp)]; exact h
 case extract x i=>simp only [LOp] at h ⊢; rw [← bA x (by simp)]; exact h
 case makeSlice t x y=>simp only [LOp] at h ⊢; rw [← bA x (by simp),← bA y (by simp)]; exact h
 case call c =>
  obtain ⟨callee,args,Mc⟩:=c
  have hargs:args.toList.map ev=args.toList.map HF:=List.map_congr_left fun x hx=>bA x (by simp [Call.operands]; exact .inr (by simpa using hx))
  cases callee
  case value x =>
   simp only [LOp] at h ⊢
   rw [← bA x (by simp [Call.operands]),← hargs]; exact h
  case builtin b =>
   cases b <;> simp only [LOp] at h ⊢
   case len =>
    split at h
    ·rename_i x t hx ht
     rw [← bA x (by simp [Call.operands]; rw [← Array.mem_toList_iff,hx]; simp)]; exact h
    ·cases h
   case append =>
    split at h
    ·rename_i x y t t' hx ht
     rw [← bA x (by simp [Call.operands]; rw [← Array.mem_toList_iff,hx]; simp),← bA y (by simp [Call.operands]; rw [← Array.mem_toList_iff,hx]; simp)]; exact h
    ·cases h
  all_goals exact h.elim
 all_goals exact h.elim
end
end Go.L
namespace Go.L
section
variable {P:Program} {N:Nat} {pr:Nat→Prop} {ro:List Nat} {ops:Array Oper}
def bl (P:Program) (pr:Nat→Prop) (o:Oper) (ev:Operand→LV) (m:Mem) (lv:LV) (m':Mem):Prop :=
 ∀ (c:Cx) (a:Act) (Q:Exit→Act→World→Prop),(∀ x ∈ o.op.operands,av c (ev x) (a.eval x))→bZ c m →
  o.wp P a c.w (fun a' w'=>∃ v c',a'=a.put o.dst v∧c'.w=w'∧av c' lv v∧bZ c' m'∧Step pr c c') Q
def gd (ops:Array Oper) (o:Oper) (e:Env):Option Bool :=
 match o.guard with
 | .none=>some true
 | some (j,want)=>match (ops[j]?).bind (·.dst) with
  | some g=>match e g with
   | .bool t=>some (t == want)
   | .cX []=>some false
   | _=>.none
  | .none=>.none
def gf (md:Nat):Nat:=if md<100000 then md - 1000 else md - 100000
def IV (md:Nat):List Nat:=[(md - 1000000000) % 1000,(md - 1000000000) / 1000 % 1000,(md - 1000000000) / 1000000 % 1000].filter fun i=>!(i == 0)
def ra (P:Program) (pr:Nat→Prop) (o:Oper) (ev:Operand→LV) (ids:List Nat) (m:Mem) (lv:LV) (m':Mem):Prop:=(∀ i,i ∉ ids→m' i=m i)∧∀ m0:Mem,(∀ i,i ∈ ids→m0 i=m i)→bl P pr o ev m0 lv (fun i=>if i ∈ ids then m' i else m0 i)
theorem ra.ok {o:Oper} {ev:Operand→LV} {ids:List Nat} {m m':Mem} {lv:LV} (h:ra P pr o ev ids m lv m'):bl P pr o ev m lv m':=by
 have:=h.2 m (fun _ _=>rfl)
 have he:(fun i=>if i ∈ ids then m' i else m i)=m':=by
  funext i
  by_cases hi:i ∈ ids
  ·simp [hi]
  ·simp [hi,h.1 i hi]
 rwa [he] at this
def J2 (P:Program) (pr:Nat→Prop) (ro:List Nat) (o:Oper) (ev:Operand→LV) (id:Nat) (le:LE) (lv:LV):Prop:=∀ m0:Mem,m0 id=some le→∀ K':LV→Mem→Prop,K' lv m0→LOp P pr ro o ev m0 K'
def J3 (P:Program) (pr:Nat→Prop) (ro:List Nat) (o:Oper) (ev:Operand→LV) (id:Nat) (le oG:LE) (lv:LV):Prop:=∀ m0:Mem,m0 id=some le→∀ K':LV→Mem→Prop,K' lv (m0.over (Mem.of [(id,oG)]))→LOp P pr ro o ev m0 K'
def fV (P:Program) (pr:Nat→Prop) (ro:List Nat) (ops:Array Oper) (md:Nat) (o:Oper) (K:Env→Mem→Prop) (e:Env) (m:Mem):Prop :=
 match gd ops o e with
 | some true=>match md with
  | 0=>LOp P pr ro o (c9 e) Mem.none fun lv m'=>m'=Mem.none∧K (e.fI o.dst lv) m
  | 1=>LOp P pr ro o (c9 e) m fun lv m'=>m'=m∧K (e.fI o.dst lv) m
  | 3=>∃ lv m',bl P pr o (c9 e) m lv m'∧K (e.fI o.dst lv) m'
  | 4=>∃ lv,(∀ m0,bl P pr o (c9 e) m0 lv m0)∧K (e.fI o.dst lv) m
  | _=>if md<1000 then LOp P pr ro o (c9 e) m fun lv m'=>K (e.fI o.dst lv) m'
    else if md<100000 then ∃ lv le,m (gf md)=some le∧J2 P pr ro o (c9 e) (gf md) le lv∧K (e.fI o.dst lv) m
    else if md<1000000000 then ∃ lv le oG,m (gf md)=some le∧J3 P pr ro o (c9 e) (gf md) le oG lv∧K (e.fI o.dst lv) (m.over (Mem.of [(gf md,oG)]))
    else ∃ lv m',ra P pr o (c9 e) (IV md) m lv m'∧K (e.fI o.dst lv) m'
 | some false=>K (e.fI o.dst (.cX [])) m
 | .none=>False
def cI (P:Program) (pr:Nat→Prop) (ro:List Nat) (ops:Array Oper):List (Oper × Nat)→(Env→Mem→Prop)→Env→Mem→Prop
 | [],K=>K
 | (o,md) :: r,K=>fV P pr ro ops md o (cI P pr ro ops r K)
def Out (P:Program) (pr:Nat→Prop) (ro:List Nat) (ops:Array Oper) (o:Oper) (e:Env) (md:Nat) (m:Mem) (lv:LV) (m':Mem):Prop :=
 match gd ops o e with
 | some true=>(md=4∧m'=m∧∀ m0,bl P pr o (c9 e) m0 lv m0) ∨ ((md=3 ∨ 1000000000≤md)∧(md=3→bl P pr o (c9 e) m lv m')∧(1000000000≤md→ra P pr o (c9 e) (IV md) m lv m')) ∨ (1000≤md∧md<100000∧m'=m∧∃ le,m (gf md)=some le∧J2 P pr ro o (c9 e) (gf md) le lv) ∨ ((100000≤md∧md<1000000000)∧∃ le oG,m (gf md)=some le∧m'=m.over (Mem.of [(gf md,oG)])∧J3 P pr ro o (c9 e) (gf md) le oG lv) ∨ (md<1000∧md ≠ 3∧md ≠ 4)∧(md=0→m'=m∧∀ m0,∀ K':LV→Mem→Prop,K' lv m0→LOp P pr ro o (c9 e) m0 K')∧(md=1→m'=m)∧∀ K':LV→Mem→Prop,K' lv m'→LOp P pr ro o (c9 e) m K'
 | some false=>lv=.cX []∧m'=m
 | .none=>False
theorem zP {md:Nat} {o:Oper} {K:Env→Mem→Prop} {e:Env} {m:Mem} (h:fV P pr ro ops md o K e m):∃ lv m',K (e.fI o.dst lv) m'∧Out P pr ro ops o e md m lv m':=by
 unfold fV at h
 unfold Out
 cases hg:gd ops o e with
 | none=>simp [hg] at h
 | some b =>
  cases b with
  | false=>simp only [hg] at h ⊢; exact ⟨_,_,h,rfl,rfl⟩
  | true =>
   simp only [hg] at h ⊢
   split at h
   ·obtain ⟨lv,m',⟨iM,hK⟩,h1,h2⟩:=vC h
    exact ⟨lv,m,hK,.inr (.inr (.inr (.inr ⟨by simp,fun _=>⟨rfl,h2 rfl iM⟩,by simp,fun K' vR=>h2 rfl iM m K' vR⟩)))⟩
   ·obtain ⟨lv,m',⟨rfl,hK⟩,h1,h2⟩:=vC h
    exact ⟨lv,_,hK,.inr (.inr (.inr (.inr ⟨by simp,by simp,fun _=>rfl,h1⟩)))⟩
   ·obtain ⟨lv,m',h1,hK⟩:=h
    exact ⟨lv,m',hK,.inr (.inl ⟨.inl rfl,fun _=>h1,fun h=>absurd h (by decide)⟩)⟩
   ·obtain ⟨lv,h1,hK⟩:=h
    exact ⟨lv,m,hK,.inl ⟨rfl,rfl,h1⟩⟩
   ·rename_i n0 n1 n3 n4
    split at h
    ·rename_i dY
     obtain ⟨lv,m',hK,h1,h2⟩:=vC h
     exact ⟨lv,m',hK,.inr (.inr (.inr (.inr ⟨⟨dY,by simpa using n3,by simpa using n4⟩,fun h0=>absurd h0 (by simpa using n0),fun h0=>absurd h0 (by simpa using n1),h1⟩)))⟩
    ·rename_i Nf
     split at h
     ·rename_i dY
      obtain ⟨lv,le,h1,h2,hK⟩:=h
      exact ⟨lv,m,hK,.inr (.inr (.inl ⟨by omega,dY,rfl,le,h1,h2⟩))⟩
     ·split at h
      ·obtain ⟨lv,le,oG,h1,h2,hK⟩:=h
       exact ⟨lv,_,hK,.inr (.inr (.inr (.inl ⟨by omega,le,oG,h1,rfl,h2⟩)))⟩
      ·obtain ⟨lv,m',h1,hK⟩:=h
       exact ⟨lv,m',hK,.inr (.inl ⟨.inr (by omega),fun h=>absurd h (by simpa using n3),fun _=>h1⟩)⟩
theorem FJ {o:Oper} {e e':Env} (h:∀ t ∈ o.looksAt ops,e t=e' t):∀ x ∈ o.op.operands,c9 e x=c9 e' x:=by
 intro x hx
 cases x with
 | tmp t =>
  refine h t ?_
  unfold Oper.looksAt
  exact List.mem_append.2 (.inl (List.mem_filterMap.2 ⟨.tmp t,by simpa using hx,rfl⟩))
 | const v=>rfl
 | global g=>rfl
 | func f=>rfl
theorem vN {o:Oper} {e e':Env} (h:∀ t ∈ o.looksAt ops,e t=e' t):gd ops o e=gd ops o e':=by
 unfold gd
 cases hg:o.guard with
 | none=>rfl
 | some q =>
  obtain ⟨j,want⟩:=q
  cases hj:(ops[j]?).bind (·.dst) with
  | none=>simp only [hj]
  | some g =>
   simp only [hj]
   rw [h g]
   unfold Oper.looksAt
   refine List.mem_append.2 (.inr ?_)
   simp [hg,hj]
theorem Out.congr {o:Oper} {e e':Env} {md:Nat} {m m':Mem} {lv:LV} (h:∀ t ∈ o.looksAt ops,e t=e' t) (ho:Out P pr ro ops o e md m lv m'):Out P pr ro ops o e' md m lv m':=by
 unfold Out at ho ⊢
 rw [← vN h]
 have hl:=FJ h
 split at ho
 ·rcases ho with ⟨h3,h4,ho⟩ | ⟨h3,ho,hf⟩ | ⟨g1,g2,g3,le,g4,g5⟩ | ⟨g1,le,oG,g2,g3,g4⟩ | ⟨h3,h1,h2,h4⟩
  ·exact .inl ⟨h3,h4,fun m0 c a Q bA hm=>ho m0 c a Q (fun x hx=>by rw [hl x hx]; exact bA x hx) hm⟩
  ·exact .inr (.inl ⟨h3,fun h c a Q bA hm=>ho h c a Q (fun x hx=>by rw [hl x hx]; exact bA x hx) hm,fun h=>⟨(hf h).1,fun m0 px c a Q bA hm=>(hf h).2 m0 px c a Q (fun x hx=>by rw [hl x hx]; exact bA x hx) hm⟩⟩)
  ·exact .inr (.inr (.inl ⟨g1,g2,g3,le,g4,fun m0 px K' hK=>nb hl (g5 m0 px K' hK)⟩))
  ·exact .inr (.inr (.inr (.inl ⟨g1,le,oG,g2,g3,fun m0 px K' hK=>nb hl (g4 m0 px K' hK)⟩)))
  ·exact .inr (.inr (.inr (.inr ⟨h3,fun h0=>⟨(h1 h0).1,fun m0 K' hK=>nb hl ((h1 h0).2 m0 K' hK)⟩,h2,fun K' hK=>nb hl (h4 K' hK)⟩)))
 ·exact ho
 ·exact ho
def rK (o:Oper):Bool:=(match o.op with | .alloc _=>true | _=>false) && o.guard.isNone
def vM (o:Oper):Bool:=(match o.op with | .alloc _=>true | .makeSlice _ _ _=>true | .call c=>(match c.callee with | .value _=>true | _=>false) | _=>false) && o.guard.isNone
def MA (md:Nat):Bool:=Nat.ble 1000 md && Nat.blt md 100000
def Mz (md:Nat):Bool:=Nat.ble 1000 md && Nat.blt md 1000000000
def pk (md:Nat):List Nat:=if Nat.ble 1000000000 md then IV md else [gf md]
def zb (ops:Array Oper) (x y:Oper × Nat):Bool:=x.1.apart ops y.1 && (x.2 == 0 || y.2 == 0 || (decide (x.2≤1) && decide (y.2≤1)) || (rK y.1 && vM x.1 && x.2 == 2 && y.2 == 2)
 || (Mz x.2 && Mz y.2 && !(gf x.2 == gf y.2)) || ((MA x.2 || Nat.ble x.2 1) && (MA y.2 || Nat.ble y.2 1)) || (rK y.1 && Mz x.2 && y.2 == 2) || (x.2 == 4 || y.2 == 4) || (Nat.ble 1000 x.2 && Nat.ble 1000 y.2 && (pk x.2).all fun i=>!(pk y.2).contains i))
theorem rO {m:Mem} {A B:Nat} {x y:LE} (h:A ≠ B):(m.put A x).put B y=(m.put B y).put A x:=by
 funext i
 simp only [Mem.put]
 by_cases h1:i=A
 ·subst h1; simp [h]
 ·simp [h1]
theorem p6 {o:Oper} {ev:Operand→LV} {m m':Mem} {lv:LV} {t:TypeId} (ho:o.op=.alloc t) (h:∀ K':LV→Mem→Prop,K' lv m'→LOp P pr ro o ev m K') :
  ∃ z d,tzero P t=some z∧o.dst=some d∧m (100+d)=.none∧lv=.ptr (100+d) 0∧m'=m.put (100+d) (.box z.cells):=by
 have:=h (fun l mm=>lv=l∧m'=mm) ⟨rfl,rfl⟩
 simp only [LOp,ho] at this
 split at this
 ·rename_i z d hz hd
  exact ⟨z,d,hz,hd,this.1,this.2.1,this.2.2⟩
 ·exact this.elim
theorem CI {o:Oper} {ev:Operand→LV} {m m':Mem} {lv:LV} (hf:vM o=true) (h:∀ K':LV→Mem→Prop,K' lv m'→LOp P pr ro o ev m K') {A:Nat} (hA:m' A=.none) (x:LE) :
  m A=.none∧∀ K':LV→Mem→Prop,K' lv (m'.put A x)→LOp P pr ro o ev (m.put A x) K':=by
 simp only [vM,Bool.and_eq_true] at hf
 cases ho:o.op <;> simp only [ho] at hf <;> try (simp at hf; done)
 case alloc t =>
  obtain ⟨z,d,hz,hd,hm,rfl,rfl⟩:=p6 ho h
  have ew:100+d ≠ A:=fun he=>by subst he; simp [Mem.put] at hA
  have I6:m A=.none:=by simp only [Mem.put] at hA; rw [if_neg (Ne.symm ew)] at hA; exact hA
  refine ⟨I6,fun K' hK=>?_⟩
  simp only [LOp,ho,hz,hd]
  refine ⟨by simp only [Mem.put]; rw [if_neg ew]; exact hm,?_⟩
  rw [rO (Ne.symm ew)]; exact hK
 case makeSlice t l c =>
  have:=h (fun l mm=>lv=l∧m'=mm) ⟨rfl,rfl⟩
  simp only [LOp,ho] at this
  split at this
  ·rename_i e z n n' d he hz hl hc hd
   obtain ⟨hn,h0,hb,hr,hp,hm,rfl,rfl⟩:=this
   have ew:100+d ≠ A:=fun he=>by subst he; simp [Mem.put] at hA
   have I6:m A=.none:=by simp only [Mem.put] at hA; rw [if_neg (Ne.symm ew)] at hA; exact hA
   refine ⟨I6,fun K' hK=>?_⟩
   simp only [LOp,ho]
   rw [hz,hl,hc,hd,he]
   refine ⟨hn,h0,hb,hr,hp,by simp only [Mem.put]; rw [if_neg ew]; exact hm,?_⟩
   rw [rO (Ne.symm ew)]; exact hK
  ·exact this.elim
 case call c =>
  obtain ⟨cl,args,Mc⟩:=c
  cases cl <;> simp only at hf <;> try (simp at hf; done)
  case value y =>
   have:=h (fun l mm=>lv=l∧m'=mm) ⟨rfl,rfl⟩
   simp only [LOp,ho] at this
   cases hy:ev y <;> simp only [hy] at this
   case fn f cap =>
    obtain ⟨QY,UK,mc,mu,hc,h1,h2,h3,Mo,h4,rfl,rfl⟩:=this
    have KO:mu A=.none:=by
     cases hq:mu A with
     | none=>rfl
     | some q=>simp [Mem.over,hq] at hA
    have I6:m A=.none:=by simpa [Mem.over,KO] using hA
    have VO:mc A=.none:=by
     cases hq:mc A with
     | none=>rfl
     | some q=>have:=h1 A (by simp [hq]); rw [I6,hq] at this; cases this
    refine ⟨I6,fun K' hK=>?_⟩
    simp only [LOp,ho,hy]
    refine ⟨QY,lv,mc,mu,hc,fun id bE=>?_,fun id bE Nk=>?_,h3,Mo,h4,?_⟩
    ·have:id ≠ A:=fun he=>by subst he; exact bE VO
     simp only [Mem.put]; rw [if_neg this]; exact h1 id bE
    ·have:id ≠ A:=fun he=>by subst he; exact Nk KO
     simp only [Mem.put]; rw [if_neg this]; exact h2 id bE Nk
    ·have:(m.put A x).over mu=(m.over mu).put A x:=by
      funext i
      simp only [Mem.over,Mem.put]
      by_cases hi:i=A
      ·subst hi; simp [KO]
      ·simp only [hi,if_false]
     rw [this]; exact hK
def nR (P:Program) (pr:Nat→Prop) (ro:List Nat) (ops:Array Oper):List (Oper × Nat)→Env→Mem→Env→Mem→Prop
 | [],e,m,e',m'=>e'=e∧m'=m
 | (o,md) :: r,e,m,e',m'=>∃ lv m1,Out P pr ro ops o e md m lv m1∧nR P pr ro ops r (e.fI o.dst lv) m1 e' m'
theorem kE:∀ (l:List (Oper × Nat)) {K:Env→Mem→Prop} {e:Env} {m:Mem},cI P pr ro ops l K e m→∃ e' m',K e' m'∧nR P pr ro ops l e m e' m'
 | [],K,e,m,h=>⟨e,m,h,rfl,rfl⟩
 | (o,md) :: r,K,e,m,h=>by
  simp only [cI] at h
  obtain ⟨lv,m1,h1,ho⟩:=zP h
  obtain ⟨e',m',hK,hc⟩:=kE r h1
  exact ⟨e',m',hK,lv,m1,ho,hc⟩
theorem Dg {e:Env} {x y:Option Nat} {u v:LV} (h:∀ d,x=some d→y ≠ some d):(e.fI x u).fI y v=(e.fI y v).fI x u:=by
 cases x with
 | none=>rfl
 | some a =>
  cases y with
  | none=>rfl
  | some b =>
   have o4:a ≠ b:=fun hh=>h a rfl (by rw [hh])
   funext i
   simp only [Env.fI,Env.put]
   by_cases h1:i=a
   ·subst h1; simp [o4]
   ·simp [h1]
theorem gU {e:Env} {o:Oper} {d:Option Nat} {v:LV} (h:∀ i,d=some i→i ∉ o.looksAt ops):∀ t ∈ o.looksAt ops,(e.fI d v) t=e t:=by
 intro t ht
 cases d with
 | none=>rfl
 | some i =>
  have:t ≠ i:=fun hh=>h i rfl (hh ▸ ht)
  simp [Env.fI,Env.put,this]
theorem ta {o:Oper} {e:Env} {md:Nat} {m m':Mem} {lv:LV} (h:Out P pr ro ops o e md m lv m') (An:md≤1):m'=m:=by
 unfold Out at h
 split at h
 ·rcases h with ⟨h3,_⟩ | ⟨h3,_⟩ | ⟨g1,_⟩ | ⟨g1,_⟩ | ⟨_,h1,h2,_⟩
  ·omega
  ·omega
  ·omega
  ·omega
  ·rcases (by omega:md=0 ∨ md=1) with h0 | h0
   ·exact (h1 h0).1
   ·exact h2 h0
 ·exact h.2
 ·exact h.elim
theorem pM {m:Mem} {i:Nat} {le:LE}:m.over (Mem.of [(i,le)])=m.put i le:=by
 funext j
 simp only [Mem.over,Mem.of,Mem.put]
 by_cases h:j=i <;> simp [h]
theorem GM {o:Oper} {e:Env} {md:Nat} {m m':Mem} {lv:LV} (h:Out P pr ro ops o e md m lv m') (An:(MA md || Nat.ble md 1)=true):m'=m:=by
 by_cases h1:md≤1
 ·exact ta h h1
 ·have hr:1000≤md∧md<100000:=by
   simp only [MA,Bool.or_eq_true,Bool.and_eq_true,Nat.ble_eq,Nat.blt_eq] at An
   omega
  unfold Out at h
  split at h
  ·rcases h with ⟨h3,_⟩ | ⟨h3,_⟩ | ⟨_,_,h3,_⟩ | ⟨g1,_⟩ | ⟨g1,_⟩
   ·omega
   ·omega
   ·exact h3
   ·omega
   ·omega
  ·exact h.2
  ·exact h.elim
theorem rG {o:Oper} {e:Env} {md:Nat} {m m':Mem} {lv:LV} (h:Out P pr ro ops o e md m lv m') (An:Mz md=true):(m'=m∧gd ops o e=some false∧lv=.cX []) ∨ ∃ le oG,m (gf md)=some le∧m'=m.put (gf md) oG∧∀ m0:Mem,m0 (gf md)=some le→Out P pr ro ops o e md m0 lv (m0.put (gf md) oG):=by
 have T6:1000≤md∧md<1000000000:=by simpa [Mz] using An
 have hh:=h
 unfold Out at h
 split at h
 ·rename_i hg
  rcases h with ⟨h3,_⟩ | ⟨h3,_⟩ | ⟨g1,g2,g3,le,g4,g5⟩ | ⟨g1,le,oG,g2,g3,g4⟩ | ⟨g1,_⟩
  ·omega
  ·omega
  ·right
   have self:∀ m0:Mem,m0 (gf md)=some le→m0.put (gf md) le=m0:=fun m0 h0=>by
    funext j; simp only [Mem.put]; split
    ·rename_i hj; subst hj; exact h0.symm
    ·rfl
   refine ⟨le,le,g4,by rw [g3,self m g4],fun m0 h0=>?_⟩
   rw [self m0 h0]
   unfold Out
   rw [hg]
   exact .inr (.inr (.inl ⟨g1,g2,rfl,le,h0,g5⟩))
  ·right
   refine ⟨le,oG,g2,by rw [g3,pM],fun m0 h0=>?_⟩
   unfold Out
   rw [hg]
   exact .inr (.inr (.inr (.inl ⟨g1,le,oG,h0,by rw [pM],g4⟩)))
  ·omega
 ·rename_i hg; exact .inl ⟨h.2,hg,h.1⟩
 ·exact h.elim
theorem Out.skip {o:Oper} {e:Env} {md:Nat} {m:Mem} (hg:gd ops o e=some false):Out P pr ro ops o e md m (.cX []) m:=by
 unfold Out; rw [hg]; exact ⟨rfl,rfl⟩
theorem xn {o:Oper} {e:Env} {md:Nat} {m m':Mem} {lv:LV} (h:Out P pr ro ops o e md m lv m') (An:1000≤md):(∀ i,i ∉ pk md→m' i=m i)∧∀ m0:Mem,(∀ i,i ∈ pk md→m0 i=m i)→Out P pr ro ops o e md m0 lv (fun i=>if i ∈ pk md then m' i else m0 i):=by
 by_cases hd:md<1000000000
 ·have hf:pk md=[gf md]:=by
   have:Nat.ble 1000000000 md=false:=by
    cases hb:Nat.ble 1000000000 md with
    | false=>rfl
    | true=>have:=Nat.le_of_ble_eq_true hb; omega
   simp [pk,this]
  rw [hf]
  rcases rG h (by simp [Mz]; omega) with ⟨rfl,hg,rfl⟩ | ⟨le,oG,g1,rfl,g3⟩
  ·refine ⟨fun _ _=>rfl,fun m0 px=>?_⟩
   have:(fun i=>if i ∈ [gf md] then m' i else m0 i)=m0:=by
    funext i
    by_cases hi:i ∈ [gf md]
    ·simp [hi,px i hi]
    ·simp [hi]
   rw [this]; exact Out.skip hg
  ·refine ⟨fun i hi=>by simp at hi; simp [Mem.put,hi],fun m0 px=>?_⟩
   have:=g3 m0 (by rw [px _ (by simp)]; exact g1)
   refine Eq.mp (congrArg _ ?_) this
   funext i
   by_cases hi:i=gf md
   ·subst hi; simp [Mem.put]
   ·simp [Mem.put,hi]
 ·have hf:pk md=IV md:=by
   have:Nat.ble 1000000000 md=true:=Nat.ble_eq_true_of_le (by omega)
   simp [pk,this]
  rw [hf]
  have hh:=h
  unfold Out at h
  split at h
  ·rename_i hg
   rcases h with ⟨h3,_⟩ | ⟨h3,_,h4⟩ | ⟨g1,g2,_⟩ | ⟨g1,_⟩ | ⟨g1,_⟩
   ·omega
   ·have h4:=h4 (by omega)
    refine ⟨h4.1,fun m0 px=>?_⟩
    unfold Out
    rw [hg]
    refine .inr (.inl ⟨.inr (by omega),fun h=>by omega,fun _=>⟨fun i hi=>by simp [hi],fun m1 iD=>?_⟩⟩)
    have:=h4.2 m1 (fun i hi=>(iD i hi).trans (px i hi))
    refine Eq.mp (congrArg _ ?_) this
    funext i
    by_cases hi:i ∈ IV md <;> simp [hi]
   ·omega
   ·omega
   ·omega
  ·rename_i hg
   obtain ⟨rfl,rfl⟩:=h
   refine ⟨fun _ _=>rfl,fun m0 px=>?_⟩
   have:(fun i=>if i ∈ IV md then m' i else m0 i)=m0:=by
    funext i
    by_cases hi:i ∈ IV md
    ·simp [hi,px i hi]
    ·simp [hi]
   rw [this]; unfold Out; rw [hg]; exact ⟨rfl,rfl⟩
  ·exact h.elim
theorem FN {o:Oper} {e:Env} {m m':Mem} {lv:LV} (h:Out P pr ro ops o e 4 m lv m'):m'=m∧∀ m0,Out P pr ro ops o e 4 m0 lv m0:=by
 have hh:=h
 unfold Out at h
 split at h
 ·rename_i hg
  rcases h with ⟨_,h1,h2⟩ | ⟨h3,_⟩ | ⟨g1,_⟩ | ⟨g1,_⟩ | ⟨g1,_⟩
  ·refine ⟨h1,fun m0=>?_⟩
   unfold Out
   rw [hg]
   exact .inl ⟨rfl,rfl,h2⟩
  ·omega
  ·omega
  ·omega
  ·omega
 ·rename_i hg
  refine ⟨h.2,fun m0=>?_⟩
  unfold Out
  rw [hg]
  exact ⟨h.1,rfl⟩
 ·exact h.elim
theorem Out.any {o:Oper} {e:Env} {m m' m0:Mem} {lv:LV} (h:Out P pr ro ops o e 0 m lv m'):Out P pr ro ops o e 0 m0 lv m0:=by
 unfold Out at h ⊢
 split at h
 ·rename_i hg
  rcases h with ⟨h3,_⟩ | ⟨h3,_⟩ | ⟨g1,_⟩ | ⟨g1,_⟩ | ⟨_,h1,h2,h3⟩
  ·omega
  ·omega
  ·omega
  ·omega
  ·exact .inr (.inr (.inr (.inr ⟨by simp,fun _=>⟨rfl,(h1 rfl).2⟩,by simp,fun K' hK=>(h1 rfl).2 m0 K' hK⟩)))
 ·exact ⟨h.1,rfl⟩
 ·exact h.elim
theorem G2 {x y:Oper × Nat} (hs:zb ops x y=true) {r:List (Oper × Nat)} {e e':Env} {m m':Mem} (h:nR P pr ro ops (x :: y :: r) e m e' m'):nR P pr ro ops (y :: x :: r) e m e' m':=by
 obtain ⟨o,a⟩:=x
 obtain ⟨q,b⟩:=y
 simp only [zb,Bool.and_eq_true,Bool.or_eq_true,beq_iff_eq,decide_eq_true_eq] at hs
 obtain ⟨Kg,An⟩:=hs
 obtain ⟨Vq,Vr,Mq⟩:=Oper.apart_spec Kg
 obtain ⟨lv,m1,ho,xb,m2,hq,hc⟩:=h
 have o5:Out P pr ro ops q e b m1 xb m2:=hq.congr (gU Vq)
 have rp:Out P pr ro ops o (e.fI q.dst xb) a m lv m1:=ho.congr fun t ht=>(gU Mq t ht).symm
 rw [Dg Vr] at hc
 rcases An with (((((((h0 | h0) | ⟨h1,h2⟩) | ⟨⟨⟨zx,Mr⟩,RO⟩,Kj⟩) | ⟨⟨hx,hy⟩,ew⟩) | ⟨hx,hy⟩) | ⟨⟨zx,hx⟩,Kj⟩) | h4) | ⟨⟨hx,hy⟩,CP⟩
 ·subst h0
  have:=ta ho (by omega)
  subst this
  exact ⟨xb,m2,o5,lv,m2,rp.any,hc⟩
 ·subst h0
  have:=ta hq (by omega)
  subst this
  exact ⟨xb,m,o5.any,lv,m2,rp,hc⟩
 ·have e1:=ta ho h1
  have e2:=ta hq h2
  subst e1; subst e2
  exact ⟨xb,m2,o5,lv,m2,rp,hc⟩
 ·subst RO; subst Kj
  have RQ:=zx
  have R0:=Mr
  simp only [rK,vM,Bool.and_eq_true,Option.isNone_iff_eq_none] at zx Mr
  have I0:∀ e,gd ops o e=some true:=fun e=>by simp [gd,Mr.2]
  have Nh:∀ e,gd ops q e=some true:=fun e=>by simp [gd,zx.2]
  unfold Out at o5 rp
  simp only [I0,Nh] at o5 rp
  replace o5:=((((o5.resolve_left (fun h3=>by omega)).resolve_left (fun h3=>by have:=h3.1; omega)).resolve_left (fun h3=>by omega)).resolve_left (fun h3=>by omega)).2
  replace rp:=((((rp.resolve_left (fun h3=>by omega)).resolve_left (fun h3=>by have:=h3.1; omega)).resolve_left (fun h3=>by omega)).resolve_left (fun h3=>by omega)).2
  cases D2:q.op <;> simp only [D2] at zx <;> try (simp at zx; done)
  case alloc t =>
   obtain ⟨z,d,hz,hd,iD,rfl,rfl⟩:=p6 D2 o5.2.2
   obtain ⟨I6,R1⟩:=CI R0 rp.2.2 iD (.box z.cells)
   refine ⟨.ptr (100+d) 0,m.put (100+d) (.box z.cells),?_,lv,m1.put (100+d) (.box z.cells),?_,hc⟩
   ·unfold Out
    simp only [Nh]
    refine .inr (.inr (.inr (.inr ⟨by simp,by simp,by simp,fun K' hK=>?_⟩)))
    simp only [LOp,D2,hz,hd]
    exact ⟨I6,hK⟩
   ·unfold Out
    simp only [I0]
    exact .inr (.inr (.inr (.inr ⟨by simp,by simp,by simp,R1⟩)))
 ·have Aq:gf a ≠ gf b:=by simpa using ew
  rcases rG ho hx with ⟨rfl,hg,rfl⟩ | ⟨le,oG,g1,rfl,g3⟩
  ·exact ⟨xb,m2,o5,_,m2,Out.skip (by rw [vN (ops:=ops) (o:=o) (e:=e.fI q.dst xb) (e':=e) (gU Mq)]; exact hg),hc⟩
  ·rcases rG o5 hy with ⟨rfl,hg,rfl⟩ | ⟨lf,Tv,k1,rfl,k3⟩
   ·exact ⟨_,m,Out.skip hg,lv,_,rp,hc⟩
   ·have Wn:m (gf b)=some lf:=by simpa [Mem.put,Ne.symm Aq] using k1
    refine ⟨xb,m.put (gf b) Tv,k3 m Wn,lv,(m.put (gf b) Tv).put (gf a) oG,?_,by rw [rO (Ne.symm Aq)]; exact hc⟩
    exact (g3 (m.put (gf b) Tv) (by simpa [Mem.put,Aq] using g1)).congr fun t ht=>(gU Mq t ht).symm
 ·have e1:=GM ho (by simpa using hx)
  have e2:=GM hq (by simpa using hy)
  subst e1; subst e2
  exact ⟨xb,m2,o5,lv,m2,rp,hc⟩
 ·subst Kj
  have RQ:=zx
  simp only [rK,Bool.and_eq_true,Option.isNone_iff_eq_none] at zx
  have Nh:∀ e,gd ops q e=some true:=fun e=>by simp [gd,zx.2]
  unfold Out at o5
  simp only [Nh] at o5
  replace o5:=((((o5.resolve_left (fun h3=>by omega)).resolve_left (fun h3=>by have:=h3.1; omega)).resolve_left (fun h3=>by omega)).resolve_left (fun h3=>by omega)).2
  cases D2:q.op <;> simp only [D2] at zx <;> try (simp at zx; done)
  case alloc t =>
   obtain ⟨z,d,hz,hd,iD,rfl,rfl⟩:=p6 D2 o5.2.2
   have M1:∀ m0:Mem,m0 (100+d)=.none→Out P pr ro ops q e 2 m0 (.ptr (100+d) 0) (m0.put (100+d) (.box z.cells)):=fun m0 h0=>by
    unfold Out
    simp only [Nh]
    refine .inr (.inr (.inr (.inr ⟨by simp,by simp,by simp,fun K' hK=>?_⟩)))
    simp only [LOp,D2,hz,hd]
    exact ⟨h0,hK⟩
   rcases rG ho hx with ⟨rfl,hg,rfl⟩ | ⟨le,oG,g1,rfl,g3⟩
   ·exact ⟨_,_,M1 _ iD,_,_,Out.skip (by rw [vN (ops:=ops) (o:=o) (e':=e) (gU Mq)]; exact hg),hc⟩
   ·have Aq:gf a ≠ 100+d:=fun h=>by rw [← h] at iD; simp [Mem.put] at iD
    have px:m (100+d)=.none:=by simpa [Mem.put,Ne.symm Aq] using iD
    refine ⟨_,_,M1 m px,lv,(m.put (100+d) (.box z.cells)).put (gf a) oG,?_,by rw [rO (Ne.symm Aq)]; exact hc⟩
    exact (g3 (m.put (100+d) (.box z.cells)) (by simpa [Mem.put,Aq] using g1)).congr fun t ht=>(gU Mq t ht).symm
 ·rcases h4 with h4 | h4
  ·subst h4
   obtain ⟨rfl,me⟩:=FN rp
   exact ⟨xb,m2,o5,lv,m2,me m2,hc⟩
  ·subst h4
   obtain ⟨rfl,me⟩:=FN o5
   exact ⟨xb,m,me m,lv,_,rp,hc⟩
 ·obtain ⟨f1,f2⟩:=xn ho (by simpa using hx)
  obtain ⟨k1,k2⟩:=xn o5 (by simpa using hy)
  have RX:∀ i,i ∈ pk a→i ∉ pk b:=fun i hi=>by simpa using List.all_eq_true.1 CP i hi
  refine ⟨xb,_,k2 m (fun i hi=>(f1 i (fun hj=>RX i hj hi)).symm),lv,m2,?_,hc⟩
  have:=f2 (fun i=>if i ∈ pk b then m2 i else m i) (fun i hi=>by simp [RX i hi])
  refine (Eq.mp (congrArg _ ?_) this).congr fun t ht=>(gU Mq t ht).symm
  funext i
  by_cases h1:i ∈ pk a
  ·simp [h1,k1 i (RX i h1)]
  ·by_cases h2:i ∈ pk b
   ·simp [h1,h2]
   ·simp [h1,h2,k1 i h2,f1 i h1]
theorem oK {y:Oper × Nat}:∀ (l r:List (Oper × Nat)) {e e':Env} {m m':Mem},(∀ x ∈ l,zb ops x y=true)→nR P pr ro ops (l++y :: r) e m e' m'→nR P pr ro ops (y :: (l++r)) e m e' m'
 | [],r,e,e',m,m',_,h=>h
 | x :: l,r,e,e',m,m',hs,h=>by
  obtain ⟨o,a⟩:=x
  obtain ⟨lv,m1,ho,hc⟩:=h
  have:=oK l r (fun z hz=>hs z (by simp [hz])) hc
  exact G2 (hs _ (by simp)) ⟨lv,m1,ho,this⟩
theorem xh {o:Oper} {md:Nat} {e:Env} {m m':Mem} {lv:LV} (hd:∀ q ∈ ops,∀ i,q.dst=some i→i<N) (HU:∀ i,o.dst=some i→i<N) (h:Out P pr ro ops o e md m lv m') (c:Cx) (a:Act) (R:Act→World→Prop) (Q:Exit→Act→World→Prop) (hr:l9 N c e m a)
  (hR:∀ a' (c':Cx),l9 N c' (e.fI o.dst lv) m' a'→Step pr c c'→R a' c'.w) :
  if Region.wanted o (yielded ops a.tmps) then o.wp P a c.w R Q ∨ (o.asks P a c.w∧LetsOut Q) else R (a.put o.dst undef) c.w:=by
 have Jd:∀ b,gd ops o e=some b→Region.wanted o (yielded ops a.tmps)=b:=by
  intro b hb
  unfold gd at hb
  split at hb
  ·rename_i hg; cases hb; simp [Region.wanted,hg]
  ·rename_i j want hg
   split at hb
   ·rename_i g hj
    cases ht:e g <;> simp only [ht] at hb
    case bool t=>cases hb; exact nD hr hd hg hj ht
    case cX vs =>
     cases vs with
     | cons x xs=>cases hb
     | nil=>cases hb; exact qX hr hd hg hj ht
    all_goals cases hb
   ·cases hb
 unfold Out at h
 split at h
 ·rename_i hg
  rw [Jd true hg,if_pos rfl]
  have hL:(∀ K':LV→Mem→Prop,K' lv m'→LOp P pr ro o (c9 e) m K')→(o.wp P a c.w R Q ∨ (o.asks P a c.w∧LetsOut Q)):=fun hh=>by
   obtain ⟨UK,m0,⟨rfl,rfl⟩,gM⟩:=kZ (hh (fun l mm=>l=lv∧mm=m') ⟨rfl,rfl⟩)
   left
   refine Oper.wp_mono ?_ (gM c a Q hr.ev hr.mem)
   rintro a' w' ⟨v,c',rfl,rfl,hv,iM,hs⟩
   exact hR _ c' (hr.put hs iM HU hv) hs
  rcases h with ⟨_,rfl,gM⟩ | ⟨h3,gM,hf⟩ | ⟨_,_,rfl,le,g4,g5⟩ | ⟨_,le,oG,g2,rfl,g4⟩ | ⟨_,h⟩
  ·left
   refine Oper.wp_mono ?_ (gM _ c a Q (fun x _=>hr.ev x) hr.mem)
   rintro a' w' ⟨v,c',rfl,rfl,hv,iM,hs⟩
   exact hR _ c' (hr.put hs iM HU hv) hs
  ·left
   refine Oper.wp_mono ?_ ((h3.elim gM (fun h=>(hf h).ok)) c a Q (fun x _=>hr.ev x) hr.mem)
   rintro a' w' ⟨v,c',rfl,rfl,hv,iM,hs⟩
   exact hR _ c' (hr.put hs iM HU hv) hs
  ·exact hL fun K' hK=>g5 _ g4 K' hK
  ·exact hL fun K' hK=>g4 m g2 K' hK
  obtain ⟨UK,m0,⟨rfl,rfl⟩,gM⟩:=kZ (h.2.2 (fun l mm=>l=lv∧mm=m') ⟨rfl,rfl⟩)
  left
  refine Oper.wp_mono ?_ (gM c a Q hr.ev hr.mem)
  rintro a' w' ⟨v,c',rfl,rfl,hv,iM,hs⟩
  exact hR _ c' (hr.put hs iM HU hv) hs
 ·rename_i hg
  obtain ⟨rfl,rfl⟩:=h
  rw [Jd false hg,if_neg (by simp)]
  exact hR _ c (hr.put (Step.refl pr c) hr.mem HU (oU c)) (Step.refl pr c)
 ·exact h.elim
def ahead (ops:Array Oper):Nat→Nat→Nat→Bool
 | 0,_,_=>false
 | f+1,k,i=>((ops[i]?).map fun o=>o.after.toList.any fun e=>Region.binds .any e && (e.on == k || ahead ops f k e.on)).getD false
def z1 (ops:Array Oper) (ey:List Nat):Bool :=
 (List.range ops.size).all fun i=>match ops[i]? with
  | some o=>(o.after.toList.all fun e=>!Region.binds .any e || decide (e.on<i)) && (List.range i).all fun k=>match ops[k]? with
   | some q=>zb ops (q,ey.getD k 2) (o,ey.getD i 2) || ahead ops 6 k i
   | .none=>true
  | .none=>true
theorem jK {aR:Array Bool} (lA:∀ i o,ops[i]?=some o→aR.getD i true=true→∀ e ∈ o.after,Region.binds .any e=true→aR.getD e.on false=true) (e5:aR.size=ops.size):∀ (f k i:Nat) (o:Oper),ops[i]?=some o→(∀ e ∈ o.after,Region.binds .any e=true→aR.getD e.on false=true)→ahead ops f k i=true→aR.getD k false=true
 | 0,k,i,o,_,_,h=>by simp [ahead] at h
 | f+1,k,i,o,ho,qa,h=>by
  simp only [ahead,ho,Option.map_some,Option.getD_some,List.any_eq_true,Bool.and_eq_true,Bool.or_eq_true,beq_iff_eq] at h
  obtain ⟨e,he,hb,hk⟩:=h
  have he:e ∈ o.after:=by simpa using he
  have hl:=qa e he hb
  rcases hk with hk | hk
  ·subst hk; exact hl
  ·have dY:e.on<aR.size:=by
    rcases Nat.lt_or_ge e.on aR.size with h' | h'
    ·exact h'
    ·simp [Array.getElem?_eq_none h'] at hl
   have VV:∃ q,ops[e.on]?=some q:=⟨ops[e.on]'(by omega),by simp [e5 ▸ dY]⟩
   obtain ⟨q,hq⟩:=VV
   exact jK lA e5 f k e.on q hq (lA e.on q hq (by simpa [dY] using hl)) hk
def left (ops:Array Oper) (aR:Array Bool):List Nat:=(List.range ops.size).filter fun i=>!aR.getD i true
theorem LH.Ci {id:Nat} {l:List Oper} {Q:Exit→Env→Mem→Prop} {e e':Env} {m m':Mem} (Ao:P.follows .mixedOrders=true) (ro:List Nat) (ey:List Nat) (hd:om N l=true) (gM:z1 l.toArray ey=true)
  (hc:nR P pr ro l.toArray ((List.range l.length).map fun i=>(l.getD i default,ey.getD i 2)) e m e' m') (hK:Q .normal e' m'):LH P N pr (.region id l.toArray true) Q e m:=by
 refine ⟨.normal,e',m',fun c a hr=>?_,hK⟩
 refine wp_region_any Ao ?_
 have M9:=rH hd
 have key : ∀ (fuel : Nat) (aR : Array Bool) (e0 : Env) (m0 : Mem) (c0 : Cx) (a0 : Act), aR.size = l.toArray.size → (left l.toArray aR).length ≤ fuel →
   (∀ i o,l.toArray[i]?=some o→aR.getD i true=true→∀ e ∈ o.after,Region.binds .any e=true→aR.getD e.on false=true) →
   nR P pr ro l.toArray ((left l.toArray aR).map fun i=>(l.getD i default,ey.getD i 2)) e0 m0 e' m'→l9 N c0 e0 m0 a0→Grow pr c c0 →
   wpAny P .any l.toArray (fun x a' w'=>x=.normal∧∃ c':Cx,c'.w=w'∧l9 N c' e' m' a'∧Grow pr c c') fuel aR a0 c0.w:=by
  have xw:=List.all_eq_true.1 gM
  have oE:∀ aR:Array Bool,∀ i ∈ Region.ready .any l.toArray aR,i ∈ left l.toArray aR∧∀ o,l.toArray[i]?=some o→∀ e ∈ o.after,Region.binds .any e=true→aR.getD e.on false=true:=by
   intro aR i hi
   unfold Region.ready at hi
   simp only [List.mem_filter,Bool.and_eq_true] at hi
   refine ⟨by unfold left; exact List.mem_filter.2 ⟨hi.1,hi.2.1⟩,fun o ho e he hb=>?_⟩
   have h2:=hi.2.2
   rw [ho] at h2
   simp only [Option.map_some,Option.getD_some] at h2
   have:=(Array.all_eq_true_iff_forall_mem.1 h2) e he
   simpa [hb] using this
  have ox:∀ (aR:Array Bool) (e0:Env) (m0:Mem) (c0:Cx) (a0:Act),left l.toArray aR=[]→nR P pr ro l.toArray ((left l.toArray aR).map fun i=>(l.getD i default,ey.getD i 2)) e0 m0 e' m'→l9 N c0 e0 m0 a0→Grow pr c c0→(∃ c':Cx,c'.w=c0.w∧l9 N c' e' m' a0∧Grow pr c c'):=by
   intro aR e0 m0 c0 a0 hl zy Fe vU
   rw [hl] at zy
   obtain ⟨rfl,rfl⟩:=zy
   exact ⟨c0,rfl,Fe,vU⟩
  intro fuel
  induction fuel with
  | zero =>
   intro aR e0 m0 c0 a0 e5 hlen lA zy Fe vU
   have hl:left l.toArray aR=[]:=List.eq_nil_of_length_eq_zero (by omega)
   refine ⟨?_,rfl,ox aR e0 m0 c0 a0 hl zy Fe vU⟩
   rw [List.eq_nil_iff_forall_not_mem]
   intro i hi
   have:=(oE aR i hi).1
   rw [hl] at this; cases this
  | succ fuel ih =>
   intro aR e0 m0 c0 a0 e5 hlen lA zy Fe vU
   have Fb:(left l.toArray aR).Pairwise (·<·):=by unfold left; exact List.Pairwise.filter _ List.pairwise_lt_range
   refine ⟨fun py=>?_,fun i hi=>?_⟩
   ·refine ⟨rfl,ox aR e0 m0 c0 a0 ?_ zy Fe vU⟩
    cases hl:left l.toArray aR with
    | nil=>rfl
    | cons i r =>
     exfalso
     have xB:i ∈ left l.toArray aR:=by rw [hl]; simp
     have gE:=xB
     unfold left at gE
     simp only [List.mem_filter,List.mem_range] at gE
     have dY:=gE.1
     have sS:l.toArray[i]?=some (l.toArray[i]'dY):=by simp [dY]
     have Nn:i ∈ Region.ready .any l.toArray aR:=by
      unfold Region.ready
      simp only [List.mem_filter,List.mem_range,Bool.and_eq_true]
      refine ⟨dY,gE.2,?_⟩
      rw [sS]
      simp only [Option.map_some,Option.getD_some]
      rw [Array.all_eq_true_iff_forall_mem]
      intro e he
      by_cases hb:Region.binds .any e=true
      ·have h1:=xw i (by simpa using dY)
       rw [sS] at h1
       simp only [Bool.and_eq_true,List.all_eq_true] at h1
       have h2:=h1.1 e (by simpa using he)
       simp only [hb,Bool.not_true,Bool.false_or,decide_eq_true_eq] at h2
       have h3:e.on ∉ left l.toArray aR:=by
        rw [hl]
        intro hm
        rw [hl] at Fb
        rcases List.mem_cons.1 hm with h4 | h4
        ·omega
        ·have:=(List.pairwise_cons.1 Fb).1 _ h4; omega
       unfold left at h3
       simp only [List.mem_filter,List.mem_range,not_and] at h3
       have h4:=h3 (by omega)
       have h5:e.on<aR.size:=by omega
       simp only [hb,Bool.not_true,Bool.false_or]
       simpa [h5] using h4
      ·simp [hb]
     rw [py] at Nn; cases Nn
   ·obtain ⟨xB,qa⟩:=oE aR i hi
    have gE:=xB
    unfold left at gE
    simp only [List.mem_filter,List.mem_range] at gE
    have dY:=gE.1
    have KH:i<l.length:=by simpa using dY
    have sS:l.toArray[i]?=some (l.getD i default):=by simp [KH]
    obtain ⟨pre,post,jx⟩:=List.append_of_mem xB
    rw [jx] at Fb
    have sW:∀ k ∈ pre,k<i:=fun k hk=>(List.pairwise_append.1 Fb).2.2 k hk i (by simp)
    have vW:∀ k ∈ post,i<k:=fun k hk=>(List.pairwise_cons.1 (List.pairwise_append.1 Fb).2.1).1 k hk
    have sQ:left l.toArray (aR.setIfInBounds i true)=pre++post:=by
     have e1:left l.toArray (aR.setIfInBounds i true)=(left l.toArray aR).filter fun k=>k != i:=by
      unfold left
      rw [List.filter_filter]
      apply List.filter_congr
      intro k hk
      by_cases xC:k=i
      ·subst xC
       have:k<aR.size:=by omega
       simp [this]
      ·simp [Array.getElem?_setIfInBounds_ne (Ne.symm xC),xC]
     rw [e1,jx,List.filter_append,List.filter_cons]
     simp only [bne_self_eq_false,Bool.false_eq_true,if_false]
     rw [List.filter_eq_self.2 (fun k hk=>by have:=sW k hk; simp; omega),List.filter_eq_self.2 (fun k hk=>by have:=vW k hk; simp; omega)]
    rw [jx,List.map_append,List.map_cons] at zy
    have Al:=oK _ _ (by
     intro x hx
     simp only [List.mem_map] at hx
     obtain ⟨k,hk,rfl⟩:=hx
     have h1:=xw i (by simpa using dY)
     rw [sS] at h1
     simp only [Bool.and_eq_true,List.all_eq_true] at h1
     have xC:=sW k hk
     have h2:=h1.2 k (by simpa using xC)
     have E6:l.toArray[k]?=some (l.getD k default):=by simp [show k<l.length by omega]
     rw [E6] at h2
     simp only [Bool.or_eq_true] at h2
     rcases h2 with h2 | h2
     ·exact h2
     ·exfalso
      have h3:=jK lA e5 6 k i _ sS (qa _ sS) h2
      have h4:k ∈ left l.toArray aR:=by rw [jx]; simp [hk]
      unfold left at h4
      simp only [List.mem_filter,List.mem_range] at h4
      have h5:k<aR.size:=by omega
      have h6:=h4.2
      simp [h5] at h3 h6
      rw [h3] at h6; cases h6) zy
    obtain ⟨lv,m1,oC,jJ⟩:=Al
    unfold wpOp
    rw [sS]
    simp only
    refine xh M9 (M9 _ (Array.mem_of_getElem? sS)) oC c0 a0 _ _ Fe ?_
    intro a' c' rr Fk
    refine ih (aR.setIfInBounds i true) _ m1 c' a' (by simpa using e5) ?_ ?_ ?_ rr (vU.trans Fk.grow)
    ·rw [sQ]
     rw [jx] at hlen
     simp at hlen ⊢; omega
    ·intro j o Nz hj e he hb
     have iN:∀ q,aR.getD q false=true→(aR.setIfInBounds i true).getD q false=true:=by
      intro q hq
      by_cases NG:q=i
      ·subst NG
       have:q<aR.size:=by omega
       simp [this]
      ·simpa [Array.getElem?_setIfInBounds_ne (Ne.symm NG)] using hq
     apply iN
     by_cases HQ:j=i
     ·subst HQ; exact qa o Nz e he hb
     ·refine lA j o Nz ?_ e he hb
      simpa [Array.getElem?_setIfInBounds_ne (Ne.symm HQ)] using hj
    ·rw [sQ,List.map_append]; exact jJ
 have iq:left l.toArray (Array.replicate l.toArray.size false)=List.range l.length:=by
  unfold left
  rw [List.filter_eq_self.2]
  ·simp
  ·intro i hi
   simp at hi
   simp [hi]
 have rr:l9 N ⟨{ c.w with drawn:=c.w.drawn+1 },c.B,c.O,c.Q⟩ e m a:=by
  obtain ⟨iD,SL⟩:=hr.mem.ext (pr:=pr) { c.w with drawn:=c.w.drawn+1 } rfl rfl rfl (Nat.le_succ _) (Nat.le_refl _) (fun _ _=>rfl)
  exact ⟨fun i=>SL.wE (hr.env i),iD,hr.size,hr.defers⟩
 have sM:Grow pr c ⟨{ c.w with drawn:=c.w.drawn+1 },c.B,c.O,c.Q⟩:=(hr.mem.ext (pr:=pr) { c.w with drawn:=c.w.drawn+1 } rfl rfl rfl (Nat.le_succ _) (Nat.le_refl _) (fun _ _=>rfl)).2.grow
 refine key l.toArray.size (Array.replicate l.toArray.size false) e m ⟨{ c.w with drawn:=c.w.drawn+1 },c.B,c.O,c.Q⟩ a (by simp) (by rw [iq]; simp) ?_ (by rw [iq]; exact hc) rr sM
 intro i o ho hl
 have:i<l.toArray.size:=by
  rcases Nat.lt_or_ge i l.toArray.size with h' | h'
  ·exact h'
  ·simp at h'; simp [List.getElem?_eq_none h'] at ho
 simp at this
 simp [this] at hl
theorem qt (l:List Oper) (ey:List Nat) (h:ey.length=l.length):((List.range l.length).map fun i=>(l.getD i default,ey.getD i 2))=l.zip ey:=by
 apply List.ext_getElem?
 intro i
 simp only [List.getElem?_map,List.zip,List.getElem?_zipWith]
 by_cases hi:i<l.length
 ·have gn:i<ey.length:=by omega
  simp [hi,gn]
 ·simp [hi]
theorem LH.di {id:Nat} {l:List Oper} {y:Code} {Q:Exit→Env→Mem→Prop} {e:Env} {m:Mem} (Ao:P.follows .mixedOrders=true) (ro:List Nat) (ey:List Nat) (el:List (Nat × LV)) (ml:List (Nat × LE)) (hlen:ey.length=l.length) (hd:om N l=true) (gM:z1 l.toArray ey=true)
  (h:cI P pr ro l.toArray (l.zip ey) (fun e m=>Wk pr e m (Env.of el) (Mem.of ml)) e m) (hr:LH P N pr y Q (Env.of el) (Mem.of ml)):LH P N pr (.seq (.region id l.toArray true) y) Q e m:=by
  obtain ⟨e',m',hK,hc⟩:=kE _ h
  rw [← qt l ey hlen] at hc
  exact LH.seq (LH.Ci Ao ro ey hd gM hc (LH.wk hK hr))
section
variable {e:Env} {m:Mem} {d:Option Nat} {ty:TypeId} {pos:String} {af:Array Edge} {K:Env→Mem→Prop}
theorem rZ (op:Op) (md j:Nat) (want:Bool):fV P pr ro ops md ⟨d,op,ty,pos,af,some (j,want)⟩ K e m=match (ops[j]?).bind (·.dst) with
  | some q=>match e q with
   | .bool t=>if t=want then fV P pr ro ops md ⟨d,op,ty,pos,af,.none⟩ K e m else K (e.fI d (.cX [])) m
   | .cX []=>K (e.fI d (.cX [])) m
   | _=>False
  | .none=>False:=by
 unfold fV
 simp only [gd]
 cases hq:(ops[j]?).bind (·.dst) with
 | none=>rfl
 | some q =>
  simp only
  cases he:e q
  case cX vs=>cases vs <;> rfl
  case bool t =>
   simp only
   by_cases ht:t=want
   ·subst ht
    simp only [beq_self_eq_true,if_true]
    split <;> first | exact Ct .. | rfl
   ·have:(t == want)=false:=by simpa using ht
    simp only [this,ht,if_false]
  all_goals rfl
where
 Ct {P:Program} {pr:Nat→Prop} {ro:List Nat} {d:Option Nat} {op:Op} {ty:TypeId} {pos:String} {af:Array Edge} {g g':Option (Nat × Bool)} {ev:Operand→LV} {m:Mem} {K:LV→Mem→Prop}:LOp P pr ro ⟨d,op,ty,pos,af,g⟩ ev m K=LOp P pr ro ⟨d,op,ty,pos,af,g'⟩ ev m K:=rfl
end
attribute [go_sem] List.zip_cons_cons List.zip_nil_left List.getElem?_toArray Option.bind_some
end
end Go.L
