import Derived.Below
import Derived.Orders
import Derived.Deep.MidRow
import Derived.Laws.AppendOwn
import Derived.Laws.AppendOwnNone
import Derived.Laws.StructEq
import Derived.KernelRfl
import Derived.Laws.MakeOwn
import Derived.Laws.OwnMore
import Derived.Great.BuildSlice
import Derived.Deep.LoopGhost
namespace Go.L

theorem hpOld (w:World) (o:Obj) (i:Nat) (h:i<w.heap.size):(w.alloc o).heap[i]?=w.heap[i]?:=by
 show (w.heap.push o)[i]?=_
 rw [Array.getElem?_push_lt h,Array.getElem?_eq_getElem h]


inductive LV where
 | und
 | int (k:IntKind) (n:Int)
 | bool (b:Bool)
 | nil
 | nilp
 | lst (k:Nat) (xs:List LV)
 | sptr (cs:List LV)
 | arr (id n:Nat)
 | ptr (id o:Nat)
 | eptr (id n i o:Nat)
 | agg (cs:List LV)
 | tup (vs:List LV)
 | fn (f:Nat) (cap:List LV)
 /-- a slice of which the length alone is known -/
 | slen (n:Nat)
 /-- a slice that reads as xs,with no room behind,never written -/
 | full (k:Nat) (xs:List LV)
 | str (s:ByteArray)
 /-- the address of an iterator -/
 | it (r:Nat)
 /-- no function -/
 | nilf
 /-- a function with its first arguments -/
 | bfn (f:Nat) (fs:List LV)
 | mp (id:Nat)
 deriving Inhabited

inductive LE where
 | box (cs:List LV)
 | arr (e k:Nat) (xs:List LV)
 | map (kt vt:Nat) (es:List (LV × LV))
 /-- a row whose elements own slices: os says at which cells (and the element type and its cells of the slices there) -/
 | nest (e k:Nat) (os:List (Nat × Nat × Nat)) (xs:List LV)
 /-- such a row,of which the slice at the cell o of the element i is the row id2 (of n2 elements) -/
 | nesth (e k:Nat) (os:List (Nat × Nat × Nat)) (xs:List LV) (i o id2 n2:Nat)
 /-- a row that was given away -/
 | dead

abbrev Mem:=Nat→Option LE
abbrev Env:=Nat→LV

def Mem.none:Mem:=fun _=>Option.none
def Mem.put (m:Mem) (id:Nat) (x:LE):Mem:=fun i=>if i=id then some x else m i
def Env.put (e:Env) (d:Nat) (v:LV):Env:=fun i=>if i=d then v else e i
def Env.put? (e:Env) (d:Option Nat) (v:LV):Env:=match d with | some d=>e.put d v | .none=>e
def Env.of:List (Nat × LV)→Env
 | []=>fun _=>.und
 | (d,v) :: r=>fun i=>if i=d then v else Env.of r i
def Mem.of:List (Nat × LE)→Mem
 | []=>fun _=>Option.none
 | (d,v) :: r=>fun i=>if i=d then some v else Mem.of r i

mutual
def LV.pure:LV→Bool
 | .sptr cs=>LV.pureL cs
 | .arr _ _=>false
 | .ptr _ _=>false
 | .eptr _ _ _ _=>false
 | .mp _=>false
 | .agg cs=>LV.pureL cs
 | .tup cs=>LV.pureL cs
 | .fn _ cs=>LV.pureL cs
 | .bfn _ cs=>LV.pureL cs
 | _=>true
def LV.pureL:List LV→Bool
 | []=>true
 | x :: xs=>x.pure && LV.pureL xs
end

mutual
/-- does the value not speak of id? -/
def LV.noref (id:Nat):LV→Bool
 | .sptr cs=>LV.norefL id cs
 | .arr i _=>i != id
 | .ptr i _=>i != id
 | .eptr i _ _ _=>i != id
 | .mp i=>i != id
 | .agg cs=>LV.norefL id cs
 | .tup cs=>LV.norefL id cs
 | .fn _ cs=>LV.norefL id cs
 | .bfn _ cs=>LV.norefL id cs
 | _=>true
def LV.norefL (id:Nat):List LV→Bool
 | []=>true
 | x :: xs=>x.noref id && LV.norefL id xs
end

def LE.nref (id:Nat):LE→Bool
 | .box cs=>LV.norefL id cs
 | .nesth _ _ _ _ _ _ id2 _=>id2 != id
 | _=>true

def LV.cells:LV→List LV
 | .agg cs=>cs
 | x=>[x]

def LV.scalar:LV→Bool
 | .und=>false
 | .agg _=>false
 | .tup _=>false
 | _=>true

inductive BE where
 | box (b n:Nat)
 | arr (v:Value) (k len:Nat) (ins:List Nat)
 | mp (b:Nat)

def BE.has:BE→Nat→Prop
 | .box b' _,b=>b'=b
 | .arr v _ _ ins,b=>v.ownBlock=some b ∨ b ∈ ins
 | .mp b',b=>b'=b

def BE.Same:BE→BE→Prop
 | .box b n,y=>y=.box b n
 | .arr u k len _,y=>∃ u' len' ins,y=.arr u' k len' ins∧len≤len'∧(len=len'→u'=u)
 | .mp b,y=>y=.mp b
theorem BE.Same.refl (x:BE):x.Same x:=by
 cases x with
 | box _ _=>rfl
 | arr u k len ins=>exact ⟨_,_,_,rfl,Nat.le_refl _,fun _=>rfl⟩
 | mp _=>rfl
theorem BE.Same.trans {x y z:BE} (h:x.Same y) (h':y.Same z):x.Same z:=by
 cases x with
 | box b n=>simp only [BE.Same] at h; subst h; exact h'
 | arr u k len ins=>simp only [BE.Same] at h; obtain ⟨u',len',ins',rfl,h1,h2⟩:=h; obtain ⟨u2,len2,ins2,rfl,h3,h4⟩:=h'; exact ⟨_,_,_,rfl,by omega,fun he=>by rw [h4 (by omega),h2 (by omega)]⟩
 | mp b=>simp only [BE.Same] at h; subst h; exact h'

structure Cx where
 w:World
 B:Nat→Option BE
 O:Nat→Prop

def Cx.own (c:Cx) (b:Nat):Prop:=∃ id be,c.B id=some be∧be.has b
def Cx.X (c:Cx) (b:Nat):Prop:=c.O b ∨ c.own b

def flat (vs:List Value):List Value:=vs.flatMap fun v=>v.cells.toList

mutual
def RepV (c:Cx):LV→Value→Prop
 | .und,_=>True
 | .int k n,v=>v=.int k n
 | .bool b,v=>v=.bool b
 | .nil,v=>v=.slice Option.none 0 0
 | .slen n,v=>∃ a cap,v=.slice a n cap
 | .nilf,v=>v=.nilFunc
 | .nilp,v=>v=.pointer Option.none
 | .lst k xs,v=>∃ a cap,v=.slice a xs.length cap∧xs.length≤cap∧(a=Option.none→cap=0)∧LV.pureL xs=true ∧
   (xs=[] ∨ ∃ b off vs,a=some ⟨b,off,Option.none⟩∧b<c.w.heap.size∧¬ c.X b∧RepL c xs vs∧(∀ u ∈ vs,u.cells.size=k∧∀ y ∈ u.cells,y.oneCell'=true)∧c.w.rangeAt b off (flat vs))
 | .full k xs,v=>∃ a,v=.slice a xs.length xs.length∧(a=Option.none→xs=[])∧LV.pureL xs=true ∧
   (xs=[] ∨ ∃ b off vs,a=some ⟨b,off,Option.none⟩∧b<c.w.heap.size∧¬ c.X b∧RepL c xs vs∧(∀ u ∈ vs,u.cells.size=k∧∀ y ∈ u.cells,y.oneCell'=true)∧c.w.rangeAt b off (flat vs))
 | .str s,v=>v=.string s
 | .it r,v=>v=.pointer (some ⟨r,0,Option.none⟩)
 | .sptr cs,v=>∃ b off vs,v=.pointer (some ⟨b,off,Option.none⟩)∧b<c.w.heap.size∧¬ c.X b∧RepL c cs vs∧(∀ y ∈ vs,y.oneCell'=true)∧c.w.rangeAt b off vs
 | .arr id n,v=>v.oneCell'=true∧∃ u k len ins,c.B id=some (.arr u k len ins)∧n≤len∧(n=len→v=u)
 | .ptr id o,v=>∃ b n,c.B id=some (.box b n)∧v=.pointer (some ⟨b,o,Option.none⟩)
 | .eptr id n i o,v=>v.oneCell'=true∧∃ u k len ins,c.B id=some (.arr u k len ins)∧n≤len∧(n=len→∃ b,u.ownBlock=some b∧v=.pointer (some ⟨b,i * k+o,Option.none⟩))
 | .mp id,v=>∃ b,c.B id=some (.mp b)∧v=.map (some b)
 | .agg cs,v=>∃ vs,v=.agg vs.toArray∧RepL c cs vs
 | .tup cs,v=>∃ vs,v=.tuple vs.toArray∧RepL c cs vs
 | .fn f cs,v=>∃ vs,v=.func (.func f) #[] vs.toArray∧RepL c cs vs
 | .bfn f cs,v=>∃ vs,v=.func (.func f) vs.toArray #[]∧RepL c cs vs
def RepL (c:Cx):List LV→List Value→Prop
 | [],vs=>vs=[]
 | x :: xs,vs=>∃ v vs',vs=v :: vs'∧RepV c x v∧RepL c xs vs'
end

theorem RepL.length {c:Cx}:∀ {xs:List LV} {vs:List Value},RepL c xs vs→xs.length=vs.length
 | [],vs,h=>by simp [RepL] at h; simp [h]
 | x :: xs,vs,h=>by
  simp only [RepL] at h
  obtain ⟨v,vs',rfl,_,h'⟩:=h
  simp [h'.length]

theorem RepL.get {c:Cx}:∀ {xs:List LV} {vs:List Value},RepL c xs vs→∀ {i:Nat} {x:LV},xs[i]?=some x→∃ v,vs[i]?=some v∧RepV c x v
 | [],vs,h,i,x,hx=>by simp at hx
 | y :: xs,vs,h,i,x,hx=>by
  simp only [RepL] at h
  obtain ⟨v,vs',rfl,hv,h'⟩:=h
  cases i with
  | zero=>simp at hx; subst hx; exact ⟨v,by simp,hv⟩
  | succ i=>simp at hx; obtain ⟨u,hu,hr⟩:=h'.get hx; exact ⟨u,by simpa using hu,hr⟩

theorem RepL.of {c:Cx}:∀ {xs:List LV} {vs:List Value},xs.length=vs.length→(∀ (i:Nat) x v,xs[i]?=some x→vs[i]?=some v→RepV c x v)→RepL c xs vs
 | [],vs,h,_=>by simp [RepL]; exact List.eq_nil_of_length_eq_zero (by simpa using h.symm)
 | x :: xs,[],h,_=>by simp at h
 | x :: xs,v :: vs,h,hr=>by
  simp only [RepL]
  exact ⟨v,vs,rfl,hr 0 x v (by simp) (by simp),RepL.of (by simpa using h) fun i y u hy hu=>hr (i+1) y u (by simpa using hy) (by simpa using hu)⟩

theorem RepL.append {c:Cx} {xs ys:List LV} {vs us:List Value} (h:RepL c xs vs) (h':RepL c ys us):RepL c (xs++ys) (vs++us):=by
 induction xs generalizing vs with
 | nil=>simp [RepL] at h; subst h; simpa using h'
 | cons x xs ih =>
  simp only [RepL] at h
  obtain ⟨v,vs',rfl,hv,h2⟩:=h
  simp only [List.cons_append,RepL]
  exact ⟨v,vs'++us,rfl,hv,ih h2⟩

theorem RepL.drop {c:Cx} {xs:List LV} {vs:List Value} (h:RepL c xs vs) (n:Nat):RepL c (xs.drop n) (vs.drop n):=by
 induction n generalizing xs vs with
 | zero=>simpa using h
 | succ n ih =>
  cases xs with
  | nil=>simp [RepL] at h; subst h; simp [RepL]
  | cons x xs =>
   simp only [RepL] at h
   obtain ⟨v,vs',rfl,hv,h2⟩:=h
   simpa using ih h2

theorem RepL.take {c:Cx} {xs:List LV} {vs:List Value} (h:RepL c xs vs) (n:Nat):RepL c (xs.take n) (vs.take n):=by
 induction n generalizing xs vs with
 | zero=>simp [RepL]
 | succ n ih =>
  cases xs with
  | nil=>simp [RepL] at h; subst h; simp [RepL]
  | cons x xs =>
   simp only [RepL] at h
   obtain ⟨v,vs',rfl,hv,h2⟩:=h
   simp only [List.take_succ_cons,RepL]
   exact ⟨v,_,rfl,hv,ih h2⟩

theorem pureL_iff:∀ {xs:List LV},LV.pureL xs=true ↔ ∀ x ∈ xs,x.pure=true
 | []=>by simp [LV.pureL]
 | x :: xs=>by simp [LV.pureL,pureL_iff (xs:=xs)]
theorem norefL_iff {id:Nat}:∀ {xs:List LV},LV.norefL id xs=true ↔ ∀ x ∈ xs,x.noref id=true
 | []=>by simp [LV.norefL]
 | x :: xs=>by simp [LV.norefL,norefL_iff (xs:=xs)]

mutual
theorem noref_of_pure {id:Nat}:∀ (x:LV),x.pure=true→x.noref id=true
 | .und,_ | .int _ _,_ | .bool _,_ | .nil,_ | .slen _,_ | .full _ _,_ | .str _,_ | .it _,_ | .nilf,_ | .nilp,_ | .lst _ _,_=>by simp [LV.noref]
 | .sptr cs,h=>by simp only [LV.pure] at h; simp only [LV.noref]; exact norefL_of_pureL cs h
 | .arr _ _,h | .ptr _ _,h | .eptr _ _ _ _,h | .mp _,h=>by simp [LV.pure] at h
 | .agg cs,h=>by simp only [LV.pure] at h; simp only [LV.noref]; exact norefL_of_pureL cs h
 | .tup cs,h=>by simp only [LV.pure] at h; simp only [LV.noref]; exact norefL_of_pureL cs h
 | .fn _ cs,h=>by simp only [LV.pure] at h; simp only [LV.noref]; exact norefL_of_pureL cs h
 | .bfn _ cs,h=>by simp only [LV.pure] at h; simp only [LV.noref]; exact norefL_of_pureL cs h
theorem norefL_of_pureL {id:Nat}:∀ (xs:List LV),LV.pureL xs=true→LV.norefL id xs=true
 | [],_=>by simp [LV.norefL]
 | x :: xs,h=>by
  simp only [LV.pureL,Bool.and_eq_true] at h
  simp only [LV.norefL,Bool.and_eq_true]
  exact ⟨noref_of_pure x h.1,norefL_of_pureL xs h.2⟩
end

def BLe (x y:Option BE):Prop :=
 match x with
 | .none=>True
 | some (.box b n)=>y=some (.box b n)
 | some (.arr u k len _)=>∃ u' len' ins',y=some (.arr u' k len' ins')∧len≤len'∧(len=len'→u'=u)
 | some (.mp b)=>y=some (.mp b)

theorem BLe.refl (x:Option BE):BLe x x:=by
 unfold BLe; split
 ·trivial
 ·rfl
 ·exact ⟨_,_,_,rfl,Nat.le_refl _,fun _=>rfl⟩
 ·rfl

theorem BLe.trans {x y z:Option BE} (h:BLe x y) (h':BLe y z):BLe x z:=by
 unfold BLe at *
 split
 ·trivial
 ·simp only at h; subst h; exact h'
 ·rename_i u k len ins
  obtain ⟨u',len',ins',rfl,hl,hu⟩:=h
  obtain ⟨u'',len'',ins'',rfl,hl',hu'⟩:=h'
  refine ⟨u'',len'',ins'',rfl,Nat.le_trans hl hl',fun e=>?_⟩
  rw [hu' (by omega),hu (by omega)]
 ·simp only at h; subst h; exact h'

structure Cx.Le (c c':Cx):Prop where
 size:c.w.heap.size≤c'.w.heap.size
 heap:∀ b,b<c.w.heap.size→¬ c.X b→c'.w.heap[b]?=c.w.heap[b]?∧¬ c'.X b

theorem rangeAt_same {w w':World} {b off:Nat} {cs:List Value} (h:w.rangeAt b off cs) (hb:w'.heap[b]?=w.heap[b]?):w'.rangeAt b off cs:=by
 intro j v hv
 rw [World.cell?_of_block (w:=w) (a:=⟨b,off+j,Option.none⟩) hb]
 exact h j v hv

mutual
theorem RepV.mono {c c':Cx} (h:c.Le c'):∀ (x:LV) (v:Value),(∀ id,x.noref id=false→BLe (c.B id) (c'.B id))→RepV c x v→RepV c' x v
 | .und,v,_,hr=>by simp only [RepV]
 | .int _ _,v,_,hr=>by simpa only [RepV] using hr
 | .bool _,v,_,hr=>by simpa only [RepV] using hr
 | .nil,v,_,hr=>by simpa only [RepV] using hr
 | .slen _,v,_,hr=>by simpa only [RepV] using hr
 | .str _,v,_,hr=>by simpa only [RepV] using hr
 | .it _,v,_,hr=>by simpa only [RepV] using hr
 | .full k xs,v,_,hr=>by
  simp only [RepV] at hr ⊢
  obtain ⟨a,rfl,hn,hp,hx⟩:=hr
  refine ⟨a,rfl,hn,hp,?_⟩
  rcases hx with hx | ⟨b,off,vs,rfl,hb,hX,hl,hk,hra⟩
  ·exact .inl hx
  ·obtain ⟨h1,h2⟩:=h.heap b hb hX
   exact .inr ⟨b,off,vs,rfl,Nat.lt_of_lt_of_le hb h.size,h2,RepL.mono h xs vs (fun id hid=>by rw [norefL_of_pureL xs hp] at hid; cases hid) hl,hk,rangeAt_same hra h1⟩
 | .nilf,v,_,hr=>by simpa only [RepV] using hr
 | .nilp,v,_,hr=>by simpa only [RepV] using hr
 | .lst k xs,v,_,hr=>by
  simp only [RepV] at hr ⊢
  obtain ⟨a,cap,rfl,hcap,hn,hp,hx⟩:=hr
  refine ⟨a,cap,rfl,hcap,hn,hp,?_⟩
  rcases hx with hx | ⟨b,off,vs,rfl,hb,hX,hl,hk,hra⟩
  ·exact .inl hx
  ·obtain ⟨h1,h2⟩:=h.heap b hb hX
   exact .inr ⟨b,off,vs,rfl,Nat.lt_of_lt_of_le hb h.size,h2,RepL.mono h xs vs (fun id hid=>by rw [norefL_of_pureL xs hp] at hid; cases hid) hl,hk,rangeAt_same hra h1⟩
 | .sptr cs,v,hB,hr=>by
  simp only [RepV] at hr ⊢
  obtain ⟨b,off,vs,rfl,hb,hX,hl,hk,hra⟩:=hr
  obtain ⟨h1,h2⟩:=h.heap b hb hX
  exact ⟨b,off,vs,rfl,Nat.lt_of_lt_of_le hb h.size,h2,RepL.mono h cs vs (fun id hid=>hB id (by simpa only [LV.noref] using hid)) hl,hk,rangeAt_same hra h1⟩
 | .arr id n,v,hB,hr=>by
  simp only [RepV] at hr ⊢
  obtain ⟨h1,u,k,len,ins,hu,hn,hv⟩:=hr
  have:=hB id (by simp [LV.noref])
  rw [hu] at this
  obtain ⟨u',len',ins',hu',hl,he⟩:=this
  refine ⟨h1,u',k,len',ins',hu',Nat.le_trans hn hl,fun e=>?_⟩
  rw [he (by omega)]; exact hv (by omega)
 | .ptr id o,v,hB,hr=>by
  simp only [RepV] at hr ⊢
  obtain ⟨b,n,hu,hv⟩:=hr
  have:=hB id (by simp [LV.noref])
  rw [hu] at this
  exact ⟨b,n,this,hv⟩
 | .eptr id n i o,v,hB,hr=>by
  simp only [RepV] at hr ⊢
  obtain ⟨h1,u,k,len,ins,hu,hn,hv⟩:=hr
  have:=hB id (by simp [LV.noref])
  rw [hu] at this
  obtain ⟨u',len',ins',hu',hl,he⟩:=this
  refine ⟨h1,u',k,len',ins',hu',Nat.le_trans hn hl,fun e=>?_⟩
  rw [he (by omega)]; exact hv (by omega)
 | .mp id,v,hB,hr=>by
  simp only [RepV] at hr ⊢
  obtain ⟨b,hu,hv⟩:=hr
  have:=hB id (by simp [LV.noref])
  rw [hu] at this
  exact ⟨b,this,hv⟩
 | .agg cs,v,hB,hr=>by
  simp only [RepV] at hr ⊢
  obtain ⟨vs,rfl,hl⟩:=hr
  exact ⟨vs,rfl,RepL.mono h cs vs (fun id hid=>hB id (by simpa only [LV.noref] using hid)) hl⟩
 | .tup cs,v,hB,hr=>by
  simp only [RepV] at hr ⊢
  obtain ⟨vs,rfl,hl⟩:=hr
  exact ⟨vs,rfl,RepL.mono h cs vs (fun id hid=>hB id (by simpa only [LV.noref] using hid)) hl⟩
 | .fn f cs,v,hB,hr=>by
  simp only [RepV] at hr ⊢
  obtain ⟨vs,rfl,hl⟩:=hr
  exact ⟨vs,rfl,RepL.mono h cs vs (fun id hid=>hB id (by simpa only [LV.noref] using hid)) hl⟩
 | .bfn f cs,v,hB,hr=>by
  simp only [RepV] at hr ⊢
  obtain ⟨vs,rfl,hl⟩:=hr
  exact ⟨vs,rfl,RepL.mono h cs vs (fun id hid=>hB id (by simpa only [LV.noref] using hid)) hl⟩
theorem RepL.mono {c c':Cx} (h:c.Le c'):∀ (xs:List LV) (vs:List Value),(∀ id,LV.norefL id xs=false→BLe (c.B id) (c'.B id))→RepL c xs vs→RepL c' xs vs
 | [],vs,_,hr=>by simpa only [RepL] using hr
 | x :: xs,vs,hB,hr=>by
  simp only [RepL] at hr ⊢
  obtain ⟨v,vs',rfl,hv,hl⟩:=hr
  refine ⟨v,vs',rfl,RepV.mono h x v (fun id hid=>hB id (by simp [LV.norefL,hid])) hv,RepL.mono h xs vs' (fun id hid=>hB id (by simp [LV.norefL,hid])) hl⟩
end

theorem oneCell_of_scalar {c:Cx} {x:LV} {v:Value} (hs:x.scalar=true) (h:RepV c x v):v.oneCell'=true:=by
 cases x <;> simp only [LV.scalar,RepV,Bool.false_eq_true] at hs h
 case int=>subst h; rfl
 case bool=>subst h; rfl
 case nil=>subst h; rfl
 case nilp=>subst h; rfl
 case lst=>obtain ⟨_,_,rfl,_⟩:=h; rfl
 case sptr=>obtain ⟨_,_,_,rfl,_⟩:=h; rfl
 case arr=>exact h.1
 case ptr=>obtain ⟨_,_,_,rfl⟩:=h; rfl
 case eptr=>exact h.1
 case fn=>obtain ⟨_,rfl,_⟩:=h; rfl
 case bfn=>obtain ⟨_,rfl,_⟩:=h; rfl
 case slen=>obtain ⟨_,_,rfl⟩:=h; rfl
 case full=>obtain ⟨_,rfl,_⟩:=h; rfl
 case str=>subst h; rfl
 case it=>subst h; rfl
 case nilf=>subst h; rfl
 case mp=>obtain ⟨_,_,rfl⟩:=h; rfl

theorem cells_of_scalar {x:LV} (hs:x.scalar=true):x.cells=[x]:=by
 cases x <;> simp_all [LV.scalar,LV.cells]
theorem vcells_of_oneCell {v:Value} (h:v.oneCell'=true):v.cells=#[v]:=by
 cases v <;> simp_all [Value.oneCell',Value.cells]

theorem RepV.cellsOf {c:Cx} {x:LV} {v:Value} (h:RepV c x v) (hs:x.cells.all LV.scalar=true):RepL c x.cells v.cells.toList∧∀ y ∈ v.cells,y.oneCell'=true:=by
 by_cases hx:x.scalar=true
 ·have h1:=oneCell_of_scalar hx h
  rw [cells_of_scalar hx,vcells_of_oneCell h1]
  simp [RepL,h,h1]
 ·cases x <;> simp [LV.scalar,LV.cells] at hx hs
  case agg cs =>
   simp only [RepV] at h
   obtain ⟨vs,rfl,hl⟩:=h
   simp only [LV.cells,Value.cells]
   refine ⟨by simpa using hl,fun y hy=>?_⟩
   obtain ⟨i,hi⟩:=List.mem_iff_getElem?.1 (by simpa using hy:y ∈ vs)
   have hlen:=hl.length
   have hlt:i<cs.length:=by rw [hlen]; exact (List.getElem?_eq_some_iff.1 hi).1
   obtain ⟨u,hu,hru⟩:=hl.get (List.getElem?_eq_getElem hlt)
   rw [hi] at hu; cases hu
   exact oneCell_of_scalar (hs _ (List.getElem_mem hlt)) hru

end Go.L
set_option linter.unusedVariables false
namespace Go.L

def OwnC (c:Cx) (e k:Nat) (x:LV) (v:Value) (bs:List Nat):Prop :=
 (x=.und∧bs=[]) ∨ ∃ ys us,x=.lst k ys∧0<k∧c.w.ownsRow 0 e k v ys.length (flat us)∧RepL c ys us∧(∀ u ∈ us,u.cells.size=k∧∀ y ∈ u.cells,y.oneCell'=true)∧LV.pureL ys=true∧bs=v.ownBlock.toList
def CellN (c:Cx) (os:List (Nat × Nat × Nat)) (o:Nat) (x:LV) (v:Value) (bs:List Nat):Prop :=
 match os.lookup o with
 | some (e,k)=>OwnC c e k x v bs
 | .none=>RepV c x v∧x.pure=true∧bs=[]
def RepC (c:Cx) (os:List (Nat × Nat × Nat)):Nat→List LV→List Value→List Nat→Prop
 | _,[],ws,bs=>ws=[]∧bs=[]
 | o,x :: xs,ws,bs=>∃ w ws' b1 b2,ws=w :: ws'∧bs=b1++b2∧CellN c os o x w b1∧RepC c os (o+1) xs ws' b2
def ElN (c:Cx) (os:List (Nat × Nat × Nat)) (x:LV) (v:Value) (bs:List Nat):Prop:=∃ cs ws,x=.agg cs∧v=.agg ws.toArray∧RepC c os 0 cs ws bs
def RepN (c:Cx) (os:List (Nat × Nat × Nat)):List LV→List Value→List Nat→Prop
 | [],vs,bs=>vs=[]∧bs=[]
 | x :: xs,vs,bs=>∃ v vs' b1 b2,vs=v :: vs'∧bs=b1++b2∧ElN c os x v b1∧RepN c os xs vs' b2
def BornOk (es:Array MapEntry) (ck:Nat):Prop:=(es.toList.map (·.born)).Nodup∧∀ x ∈ es.toList,x.born<ck
def RepE (c:Cx):Option LE→Option BE→Prop
 | .none,y=>y=.none
 | some (.box cs),y=>∃ b vs e,y=some (.box b cs.length)∧c.w.heap[b]?=some (.cells vs.toArray e (0,0))∧RepL c cs vs∧∀ v ∈ vs,v.oneCell'=true
 | some (.arr e k xs),y=>∃ u vs,y=some (.arr u k xs.length [])∧0<k∧c.w.ownsRow 0 e k u xs.length (flat vs)∧RepL c xs vs∧(∀ v ∈ vs,v.cells.size=k∧∀ y ∈ v.cells,y.oneCell'=true)∧LV.pureL xs=true
 | some (.map kt vt es),y=>∃ b es' clock,y=some (.mp b)∧c.w.heap[b]?=some (.map es' clock)∧RepL c (es.map (·.1)) (es'.toList.map (·.key))∧RepL c (es.map (·.2)) (es'.toList.map (·.val))∧LV.pureL (es.map (·.1))=true∧LV.pureL (es.map (·.2))=true∧(es.map (·.1)).Nodup∧BornOk es' clock
 | some (.nest e k os xs),y=>∃ u vs bs,y=some (.arr u k xs.length bs)∧0<k∧c.w.ownsRow 0 e k u xs.length (flat vs)∧RepN c os xs vs bs∧(∀ v ∈ vs,v.cells.size=k∧∀ y ∈ v.cells,y.oneCell'=true)∧bs.Nodup∧∀ b,u.ownBlock=some b→b ∉ bs
 | some (.nesth e k os xs i o id2 n2),y=>∃ u vs bs,y=some (.arr u k xs.length bs)∧0<k∧c.w.ownsRow 0 e k u xs.length (flat vs)∧RepN c os xs vs bs∧(∃ g v,u.ownBlock=some g∧c.w.cell? ⟨g,i * k+o,Option.none⟩=some v∧RepV c (.arr id2 n2) v)∧(∀ v ∈ vs,v.cells.size=k∧∀ y ∈ v.cells,y.oneCell'=true)∧bs.Nodup∧∀ b,u.ownBlock=some b→b ∉ bs
 | some .dead,y=>∃ u k len,y=some (.arr u k len [])∧u.ownBlock=Option.none

theorem ownsRow_same {w w':World} {base e k n:Nat} {u:Value} {vs:List Value} (h:w.ownsRow base e k u n vs) (hb:∀ b,u.ownBlock=some b→w'.heap[b]?=w.heap[b]?):w'.ownsRow base e k u n vs:=by
 refine ⟨h.1,?_⟩
 rcases h.2 with hn | ⟨g,cap,cur,rfl,h1,h2,rest⟩
 ·exact .inl hn
 ·exact .inr ⟨g,cap,cur,rfl,h1,(hb g rfl).trans h2,rest⟩
theorem cell_same {w w':World} {g:Nat} (h:w'.heap[g]?=w.heap[g]?) (o:Nat):w'.cell? ⟨g,o,Option.none⟩=w.cell? ⟨g,o,Option.none⟩:=by simp [World.cell?,h]
theorem OwnC.mono {c c':Cx} (hle:c.Le c') {e k:Nat} {x:LV} {v:Value} {bs:List Nat} (hh:∀ b ∈ bs,c'.w.heap[b]?=c.w.heap[b]?) (h:OwnC c e k x v bs):OwnC c' e k x v bs:=by
 rcases h with h | ⟨ys,us,h1,h0,h2,h3,h4,h5,h6⟩
 ·exact .inl h
 ·refine .inr ⟨ys,us,h1,h0,ownsRow_same h2 (fun b hb=>hh b (by rw [h6,hb]; simp)),RepL.mono hle ys us (fun id hid=>by rw [norefL_of_pureL ys h5] at hid; cases hid) h3,h4,h5,h6⟩
theorem OwnC.lt {c:Cx} {e k:Nat} {x:LV} {v:Value} {bs:List Nat} (h:OwnC c e k x v bs):∀ b ∈ bs,b<c.w.heap.size:=by
 rcases h with ⟨_,rfl⟩ | ⟨ys,us,h1,h0,h2,h3,h4,h5,rfl⟩
 ·simp
 ·intro b hb
  have:v.ownBlock=some b:=by simpa using hb
  exact (h2.lt b this).2
theorem CellN.mono {c c':Cx} (hle:c.Le c') {os:List (Nat × Nat × Nat)} {o:Nat} {x:LV} {v:Value} {bs:List Nat} (hh:∀ b ∈ bs,c'.w.heap[b]?=c.w.heap[b]?) (h:CellN c os o x v bs):CellN c' os o x v bs:=by
 unfold CellN at *
 split
 ·rename_i e k he
  rw [he] at h
  exact OwnC.mono hle hh h
 ·rename_i he
  rw [he] at h
  exact ⟨RepV.mono hle x v (fun id hid=>by rw [noref_of_pure x h.2.1] at hid; cases hid) h.1,h.2⟩
theorem CellN.lt {c:Cx} {os:List (Nat × Nat × Nat)} {o:Nat} {x:LV} {v:Value} {bs:List Nat} (h:CellN c os o x v bs):∀ b ∈ bs,b<c.w.heap.size:=by
 unfold CellN at h
 split at h
 ·exact OwnC.lt h
 ·rw [h.2.2]; simp
theorem RepC.mono {c c':Cx} (hle:c.Le c') {os:List (Nat × Nat × Nat)}:∀ {o:Nat} {xs:List LV} {ws:List Value} {bs:List Nat},(∀ b ∈ bs,c'.w.heap[b]?=c.w.heap[b]?)→RepC c os o xs ws bs→RepC c' os o xs ws bs
 | _,[],_,_,_,h=>by simpa only [RepC] using h
 | o,x :: xs,ws,bs,hh,h=>by
  simp only [RepC] at h ⊢
  obtain ⟨w,ws',b1,b2,rfl,rfl,h1,h2⟩:=h
  exact ⟨w,ws',b1,b2,rfl,rfl,h1.mono hle (fun b hb=>hh b (by simp [hb])),RepC.mono hle (fun b hb=>hh b (by simp [hb])) h2⟩
theorem RepC.lt {c:Cx} {os:List (Nat × Nat × Nat)}:∀ {o:Nat} {xs:List LV} {ws:List Value} {bs:List Nat},RepC c os o xs ws bs→∀ b ∈ bs,b<c.w.heap.size
 | _,[],_,_,h=>by simp only [RepC] at h; rw [h.2]; simp
 | o,x :: xs,ws,bs,h=>by
  simp only [RepC] at h
  obtain ⟨w,ws',b1,b2,rfl,rfl,h1,h2⟩:=h
  intro b hb
  rcases List.mem_append.1 hb with hb | hb
  ·exact h1.lt b hb
  ·exact RepC.lt h2 b hb
theorem RepN.mono {c c':Cx} (hle:c.Le c') {os:List (Nat × Nat × Nat)}:∀ {xs:List LV} {vs:List Value} {bs:List Nat},(∀ b ∈ bs,c'.w.heap[b]?=c.w.heap[b]?)→RepN c os xs vs bs→RepN c' os xs vs bs
 | [],_,_,_,h=>by simpa only [RepN] using h
 | x :: xs,vs,bs,hh,h=>by
  simp only [RepN] at h ⊢
  obtain ⟨v,vs',b1,b2,rfl,rfl,⟨cs,ws,rfl,hv,h1⟩,h2⟩:=h
  exact ⟨v,vs',b1,b2,rfl,rfl,⟨cs,ws,rfl,hv,h1.mono hle (fun b hb=>hh b (by simp [hb]))⟩,RepN.mono hle (fun b hb=>hh b (by simp [hb])) h2⟩
theorem RepN.lt {c:Cx} {os:List (Nat × Nat × Nat)}:∀ {xs:List LV} {vs:List Value} {bs:List Nat},RepN c os xs vs bs→∀ b ∈ bs,b<c.w.heap.size
 | [],_,_,h=>by simp only [RepN] at h; rw [h.2]; simp
 | x :: xs,vs,bs,h=>by
  simp only [RepN] at h
  obtain ⟨v,vs',b1,b2,rfl,rfl,⟨cs,ws,rfl,hv,h1⟩,h2⟩:=h
  intro b hb
  rcases List.mem_append.1 hb with hb | hb
  ·exact h1.lt b hb
  ·exact RepN.lt h2 b hb
theorem RepN.length {c:Cx} {os:List (Nat × Nat × Nat)}:∀ {xs:List LV} {vs:List Value} {bs:List Nat},RepN c os xs vs bs→xs.length=vs.length
 | [],_,_,h=>by simp only [RepN] at h; simp [h.1]
 | x :: xs,vs,bs,h=>by
  simp only [RepN] at h
  obtain ⟨v,vs',b1,b2,rfl,rfl,_,h2⟩:=h
  simp [RepN.length h2]

structure RepM (c:Cx) (m:Mem):Prop where
 ent:∀ id,RepE c (m id) (c.B id)
 inj:∀ id id' be be' b,c.B id=some be→c.B id'=some be'→be.has b→be'.has b→id=id'
 notO:∀ b,c.own b→¬ c.O b
 Olt:∀ b,c.O b→b<c.w.heap.size

theorem RepE.lt {c:Cx} {x:Option LE} {y:Option BE} (h:RepE c x y) {be:BE} {b:Nat} (hy:y=some be) (hb:be.has b):b<c.w.heap.size:=by
 match x with
 | .none=>simp [RepE] at h; rw [h] at hy; cases hy
 | some (.box cs) =>
  simp only [RepE] at h
  obtain ⟨b',vs,e,rfl,hh,_⟩:=h
  cases hy
  simp only [BE.has] at hb
  subst hb
  exact (Array.getElem?_eq_some_iff.1 hh).1
 | some (.arr e k xs) =>
  simp only [RepE] at h
  obtain ⟨u,vs,rfl,hk,hown,_⟩:=h
  cases hy
  have hb':u.ownBlock=some b:=by simpa [BE.has] using hb
  exact (hown.lt b hb').2
 | some (.nest e k os xs) =>
  simp only [RepE] at h
  obtain ⟨u,vs,bs,rfl,hk,hown,hn,_⟩:=h
  cases hy
  rcases hb with hb | hb
  ·exact (hown.lt b hb).2
  ·exact hn.lt b hb
 | some (.nesth e k os xs i o id2 n2) =>
  simp only [RepE] at h
  obtain ⟨u,vs,bs,rfl,hk,hown,hn,_⟩:=h
  cases hy
  rcases hb with hb | hb
  ·exact (hown.lt b hb).2
  ·exact hn.lt b hb
 | some .dead =>
  simp only [RepE] at h
  obtain ⟨u,k,len,rfl,hu⟩:=h
  cases hy
  rcases hb with hb | hb
  ·rw [hu] at hb; cases hb
  ·cases hb
 | some (.map kt vt es) =>
  simp only [RepE] at h
  obtain ⟨b',es',ck,rfl,hh,_⟩:=h
  cases hy
  simp only [BE.has] at hb
  subst hb
  exact (Array.getElem?_eq_some_iff.1 hh).1

theorem RepM.own_lt {c:Cx} {m:Mem} (h:RepM c m) {b:Nat} (ho:c.own b):b<c.w.heap.size:=by
 obtain ⟨id,be,h1,h2⟩:=ho
 exact (h.ent id).lt h1 h2

theorem RepM.fresh {c:Cx} {m:Mem} (h:RepM c m) {id:Nat} (hm:m id=.none):c.B id=.none:=by
 have:=h.ent id
 rw [hm] at this
 exact this

structure Grow (pr:Nat→Prop) (c c':Cx):Prop where
 O:c'.O=c.O
 os:c'.w.os=c.w.os
 tape:c'.w.tape=c.w.tape
 output:c'.w.output=c.w.output
 drawn:c.w.drawn≤c'.w.drawn
 size:c.w.heap.size≤c'.w.heap.size
 keep:∀ b,b<c.w.heap.size→¬ c.own b→c'.w.heap[b]?=c.w.heap[b]?
 own:∀ b,c'.own b→c.own b ∨ c.w.heap.size≤b
 prot:∀ id be,pr id→c.B id=some be→∃ be',c'.B id=some be'∧be.Same be'

theorem Grow.refl (pr:Nat→Prop) (c:Cx):Grow pr c c :=
 ⟨rfl,rfl,rfl,rfl,Nat.le_refl _,Nat.le_refl _,fun _ _ _=>rfl,fun _ h=>.inl h,fun _ be _ h=>⟨be,h,.refl be⟩⟩

theorem Grow.trans {pr:Nat→Prop} {a b c:Cx} (h:Grow pr a b) (k:Grow pr b c):Grow pr a c where
 O:=k.O.trans h.O
 os:=k.os.trans h.os
 tape:=k.tape.trans h.tape
 output:=k.output.trans h.output
 drawn:=Nat.le_trans h.drawn k.drawn
 size:=Nat.le_trans h.size k.size
 keep:=fun x hx ho=>(k.keep x (Nat.lt_of_lt_of_le hx h.size) (fun hb=>(h.own x hb).elim ho (fun hs=>absurd hx (by omega)))).trans (h.keep x hx ho)
 own:=fun x hx=>(k.own x hx).elim (h.own x) (fun hs=>.inr (Nat.le_trans h.size hs))
 prot:=fun id be hp hb=>by
  obtain ⟨be1,h1,h2⟩:=h.prot id be hp hb
  obtain ⟨be2,h3,h4⟩:=k.prot id be1 hp h1
  exact ⟨be2,h3,h2.trans h4⟩

theorem Grow.le {pr:Nat→Prop} {c c':Cx} (h:Grow pr c c'):c.Le c' where
 size:=h.size
 heap:=fun b hb hX=>⟨h.keep b hb (fun ho=>hX (.inr ho)),fun hX'=>by
  rcases hX' with hO | ho
  ·rw [h.O] at hO; exact hX (.inl hO)
  ·rcases h.own b ho with ho | hs
   ·exact hX (.inr ho)
   ·omega⟩

structure Step (pr:Nat→Prop) (c c':Cx):Prop where
 grow:Grow pr c c'
 ble:∀ id,BLe (c.B id) (c'.B id)

theorem Step.refl (pr:Nat→Prop) (c:Cx):Step pr c c:=⟨.refl pr c,fun _=>.refl _⟩
theorem Step.trans {pr:Nat→Prop} {a b c:Cx} (h:Step pr a b) (k:Step pr b c):Step pr a c:=⟨h.grow.trans k.grow,fun id=>(h.ble id).trans (k.ble id)⟩
theorem Step.repV {pr:Nat→Prop} {c c':Cx} (h:Step pr c c') {x:LV} {v:Value} (hr:RepV c x v):RepV c' x v:=RepV.mono h.grow.le x v (fun id _=>h.ble id) hr
theorem Step.repL {pr:Nat→Prop} {c c':Cx} (h:Step pr c c') {x:List LV} {v:List Value} (hr:RepL c x v):RepL c' x v:=RepL.mono h.grow.le x v (fun id _=>h.ble id) hr

theorem RepE.mono {c c':Cx} (hle:c.Le c') (hB:∀ id,BLe (c.B id) (c'.B id)) {x:Option LE} {y:Option BE} (hh:∀ be b,y=some be→be.has b→c'.w.heap[b]?=c.w.heap[b]?) (h:RepE c x y):RepE c' x y:=by
 match x with
 | .none=>simpa only [RepE] using h
 | some (.box cs) =>
  simp only [RepE] at h ⊢
  obtain ⟨b,vs,e,rfl,h1,h2,h3⟩:=h
  exact ⟨b,vs,e,rfl,(hh _ b rfl rfl).trans h1,RepL.mono hle cs vs (fun id _=>hB id) h2,h3⟩
 | some (.arr e k xs) =>
  simp only [RepE] at h ⊢
  obtain ⟨u,vs,rfl,h0,h1,h2,h3⟩:=h
  exact ⟨u,vs,rfl,h0,ownsRow_same h1 (fun b hb=>hh _ b rfl (.inl hb)),RepL.mono hle xs vs (fun id _=>hB id) h2,h3⟩
 | some (.nest e k os xs) =>
  simp only [RepE] at h ⊢
  obtain ⟨u,vs,bs,rfl,h0,h1,h2,h3⟩:=h
  exact ⟨u,vs,bs,rfl,h0,ownsRow_same h1 (fun b hb=>hh _ b rfl (.inl hb)),h2.mono hle (fun b hb=>hh _ b rfl (.inr hb)),h3⟩
 | some (.nesth e k os xs i o id2 n2) =>
  simp only [RepE] at h ⊢
  obtain ⟨u,vs,bs,rfl,h0,h1,h2,⟨g,v,q1,q2,q3⟩,h3⟩:=h
  exact ⟨u,vs,bs,rfl,h0,ownsRow_same h1 (fun b hb=>hh _ b rfl (.inl hb)),h2.mono hle (fun b hb=>hh _ b rfl (.inr hb)),⟨g,v,q1,(cell_same (hh _ g rfl (.inl q1)) _).trans q2,RepV.mono hle (.arr id2 n2) v (fun id _=>hB id) q3⟩,h3⟩
 | some .dead=>simpa only [RepE] using h
 | some (.map kt vt es) =>
  simp only [RepE] at h ⊢
  obtain ⟨b,es',ck,rfl,h1,h2,h3,h4⟩:=h
  exact ⟨b,es',ck,rfl,(hh _ b rfl rfl).trans h1,RepL.mono hle _ _ (fun id _=>hB id) h2,RepL.mono hle _ _ (fun id _=>hB id) h3,h4⟩

theorem RepM.upd {pr:Nat→Prop} {c:Cx} {m:Mem} (h:RepM c m) (id:Nat) (le:LE) (be:BE) (w':World)
  (hos:w'.os=c.w.os) (htape:w'.tape=c.w.tape) (hout:w'.output=c.w.output) (hdr:c.w.drawn≤w'.drawn) (hsize:c.w.heap.size≤w'.heap.size)
  (hkeep:∀ b,b<c.w.heap.size→(∀ be0,c.B id=some be0→¬ be0.has b)→w'.heap[b]?=c.w.heap[b]?)
  (hblk:∀ b,be.has b→(∃ be0,c.B id=some be0∧be0.has b) ∨ c.w.heap.size≤b)
  (hle:BLe (c.B id) (some be)) (hpr:pr id→∀ be0,c.B id=some be0→be0.Same be)
  (hent:∀ c':Cx,c'.w=w'→c.Le c'→(∀ i,BLe (c.B i) (c'.B i))→RepE c' (some le) (some be)) :
  ∃ c':Cx,c'.w=w'∧c'.B id=some be∧RepM c' (m.put id le)∧Step pr c c':=by
 let c':Cx:=⟨w',fun i=>if i=id then some be else c.B i,c.O⟩
 have hown:∀ b,c'.own b→c.own b ∨ c.w.heap.size≤b:=by
  rintro b ⟨i,be',h1,h2⟩
  by_cases hi:i=id
  ·simp only [c',hi,if_true] at h1
   cases h1
   rcases hblk b h2 with ⟨be0,h3,h4⟩ | hs
   ·exact .inl ⟨id,be0,h3,h4⟩
   ·exact .inr hs
  ·simp only [c',hi,if_false] at h1
   exact .inl ⟨i,be',h1,h2⟩
 have hgrow:Grow pr c c':=by
  refine ⟨rfl,hos,htape,hout,hdr,hsize,fun b hb ho=>hkeep b hb (fun be0 h0 h1=>ho ⟨id,be0,h0,h1⟩),hown,fun i be' hp hb=>?_⟩
  by_cases hi:i=id
  ·subst hi; exact ⟨be,by simp only [c',if_true],hpr hp be' hb⟩
  ·exact ⟨be',by simp only [c',hi,if_false]; exact hb,.refl be'⟩
 have hble:∀ i,BLe (c.B i) (c'.B i):=by
  intro i
  by_cases hi:i=id
  ·subst hi; simpa only [c',if_true] using hle
  ·simp only [c',hi,if_false]; exact BLe.refl _
 refine ⟨c',rfl,by simp [c'],⟨fun i=>?_,?_,?_,?_⟩,hgrow,hble⟩
 ·by_cases hi:i=id
  ·subst hi; simp only [c',Mem.put,if_true]; exact hent c' rfl hgrow.le hble
  ·simp only [Mem.put,hi,if_false]
   have:c'.B i=c.B i:=by simp [c',hi]
   rw [this]
   refine (h.ent i).mono hgrow.le hble fun be' b hb hbb=>?_
   refine hkeep b ((h.ent i).lt hb hbb) fun be0 h0 h1=>?_
   exact hi (h.inj i id be' be0 b hb h0 hbb h1)
 ·intro i i' b1 b2 b h1 h2 h3 h4
  by_cases hi:i=id <;> by_cases hi':i'=id
  ·rw [hi,hi']
  ·simp only [c',hi,if_true] at h1
   simp only [c',hi',if_false] at h2
   cases h1
   rcases hblk b h3 with ⟨be0,h5,h6⟩ | hs
   ·rw [hi]; exact h.inj id i' be0 b2 b h5 h2 h6 h4
   ·have:=(h.ent i').lt h2 h4; omega
  ·simp only [c',hi,if_false] at h1
   simp only [c',hi',if_true] at h2
   cases h2
   rcases hblk b h4 with ⟨be0,h5,h6⟩ | hs
   ·rw [hi']; exact h.inj i id b1 be0 b h1 h5 h3 h6
   ·have:=(h.ent i).lt h1 h3; omega
  ·simp only [c',hi,if_false] at h1
   simp only [c',hi',if_false] at h2
   exact h.inj i i' b1 b2 b h1 h2 h3 h4
 ·intro b ho hO
  rcases hown b ho with ho | hs
  ·exact h.notO b ho hO
  ·have:=h.Olt b hO; omega
 ·intro b hO; exact Nat.lt_of_lt_of_le (h.Olt b hO) hsize

theorem RepM.ext {pr:Nat→Prop} {c:Cx} {m:Mem} (h:RepM c m) (w':World)
  (hos:w'.os=c.w.os) (htape:w'.tape=c.w.tape) (hout:w'.output=c.w.output) (hdr:c.w.drawn≤w'.drawn) (hsize:c.w.heap.size≤w'.heap.size)
  (hkeep:∀ b,b<c.w.heap.size→w'.heap[b]?=c.w.heap[b]?) :
  RepM ⟨w',c.B,c.O⟩ m∧Step pr c ⟨w',c.B,c.O⟩:=by
 have hgrow:Grow pr c ⟨w',c.B,c.O⟩:=⟨rfl,hos,htape,hout,hdr,hsize,fun b hb _=>hkeep b hb,fun b ho=>.inl ho,fun _ be _ hb=>⟨be,hb,.refl be⟩⟩
 refine ⟨⟨fun i=>?_,h.inj,h.notO,fun b hO=>Nat.lt_of_lt_of_le (h.Olt b hO) hsize⟩,hgrow,fun i=>BLe.refl _⟩
 exact (h.ent i).mono hgrow.le (fun i=>BLe.refl _) fun be b hb hbb=>hkeep b ((h.ent i).lt hb hbb)

theorem RepM.newX {c:Cx} {m:Mem} (h:RepM c m) {b:Nat} (hb:c.w.heap.size≤b):¬ c.X b:=by
 rintro (hO | ho)
 ·have:=h.Olt b hO; omega
 ·have:=h.own_lt ho; omega

def LCall (P:Program) (f:Nat) (args:List LV) (m:Mem) (lv:LV) (m':Mem):Prop :=
 ∀ (c:Cx) (vs:List Value),RepM c m→RepL c args vs →
  Calls P f vs.toArray c.w fun en w'=>∃ v c',en=.returned v∧c'.w=w'∧RepM c' m'∧RepV c' lv v∧Grow (fun id=>m id ≠ .none) c c'

def Mem.over (m mc:Mem):Mem:=fun i=>match mc i with | some x=>some x | .none=>m i

theorem LCall.frame {P:Program} {f:Nat} {args:List LV} {mc mc' m:Mem} {lv:LV} (h:LCall P f args mc lv mc')
  (hsub:∀ id,mc id ≠ .none→m id=mc id) (hnew:∀ id,mc id=.none→mc' id ≠ .none→m id=.none)
  (hargs:∀ id,LV.norefL id args=false→mc id ≠ .none) (hbox:∀ id le,mc id=some le→∀ j,le.nref j=false→mc j ≠ .none)
  (pr:Nat→Prop) (c:Cx) (vs:List Value) (hm:RepM c m) (ha:RepL c args vs) :
  Calls P f vs.toArray c.w fun en w'=>∃ v c',en=.returned v∧c'.w=w'∧RepM c' (m.over mc')∧RepV c' lv v∧Step pr c c':=by
 classical
 let c0:Cx:=⟨c.w,fun id=>if mc id=.none then .none else c.B id,fun b=>c.O b ∨ ∃ id be,mc id=.none∧c.B id=some be∧be.has b⟩
 have hX:∀ b,c0.X b ↔ c.X b:=by
  intro b
  constructor
  ·rintro ((hO | ⟨id,be,_,h2,h3⟩) | ⟨id,be,h2,h3⟩)
   ·exact .inl hO
   ·exact .inr ⟨id,be,h2,h3⟩
   ·by_cases hi:mc id=.none
    ·simp [c0,hi] at h2
    ·simp only [c0,hi,if_false] at h2; exact .inr ⟨id,be,h2,h3⟩
  ·rintro (hO | ⟨id,be,h2,h3⟩)
   ·exact .inl (.inl hO)
   ·by_cases hi:mc id=.none
    ·exact .inl (.inr ⟨id,be,hi,h2,h3⟩)
    ·exact .inr ⟨id,be,by simp [c0,hi,h2],h3⟩
 have hle0:c.Le c0:=⟨Nat.le_refl _,fun b _ hx=>⟨rfl,fun hx'=>hx ((hX b).1 hx')⟩⟩
 have hB0:∀ id,mc id ≠ .none→BLe (c.B id) (c0.B id):=fun id hi=>by simp only [c0,hi,if_false]; exact BLe.refl _
 have hm0 : RepM c0 mc := by
  refine ⟨fun id=>?_,?_,?_,?_⟩
  ·by_cases hi:mc id=.none
   ·rw [hi]; simp [RepE,c0,hi]
   ·have he:=hm.ent id
    rw [hsub id hi] at he
    have hb:c0.B id=c.B id:=by simp [c0,hi]
    rw [hb]
    cases hx:mc id with
    | none=>exact absurd hx hi
    | some le =>
     rw [hx] at he
     cases le with
     | box cs =>
      simp only [RepE] at he ⊢
      obtain ⟨b,us,e,h1,h2,h3,h4⟩:=he
      exact ⟨b,us,e,h1,h2,RepL.mono hle0 cs us (fun j hj=>hB0 j (hbox id _ hx j hj)) h3,h4⟩
     | arr e k xs =>
      simp only [RepE] at he ⊢
      obtain ⟨u,us,h1,h0,h2,h3,h4,h5⟩:=he
      exact ⟨u,us,h1,h0,h2,RepL.mono hle0 xs us (fun j hj=>by rw [norefL_of_pureL xs h5] at hj; cases hj) h3,h4,h5⟩
     | nest e k os xs =>
      simp only [RepE] at he ⊢
      obtain ⟨u,us,bs,h1,h0,h2,h3,h4⟩:=he
      exact ⟨u,us,bs,h1,h0,h2,h3.mono hle0 (fun b _=>rfl),h4⟩
     | nesth e k os xs i o id2 n2 =>
      simp only [RepE] at he ⊢
      obtain ⟨u,us,bs,h1,h0,h2,h3,⟨ws,v,q1,q2,q3⟩,h4⟩:=he
      exact ⟨u,us,bs,h1,h0,h2,h3.mono hle0 (fun b _=>rfl),⟨ws,v,q1,q2,RepV.mono hle0 (.arr id2 n2) v (fun j hj=>hB0 j (hbox id _ hx j hj)) q3⟩,h4⟩
     | dead=>simpa only [RepE] using he
     | map kt vt es =>
      simp only [RepE] at he ⊢
      obtain ⟨b,es',ck,h1,h2,h3,h4,h5,h6,h7⟩:=he
      exact ⟨b,es',ck,h1,h2,RepL.mono hle0 _ _ (fun j hj=>by rw [norefL_of_pureL _ h5] at hj; cases hj) h3,RepL.mono hle0 _ _ (fun j hj=>by rw [norefL_of_pureL _ h6] at hj; cases hj) h4,h5,h6,h7⟩
  ·intro i i' be be' b h1 h2 h3 h4
   by_cases hi:mc i=.none
   ·simp [c0,hi] at h1
   ·by_cases hi':mc i'=.none
    ·simp [c0,hi'] at h2
    ·simp only [c0,hi,hi',if_false] at h1 h2; exact hm.inj i i' be be' b h1 h2 h3 h4
  ·rintro b ⟨id,be,h1,h2⟩ hO
   by_cases hi:mc id=.none
   ·simp [c0,hi] at h1
   ·simp only [c0,hi,if_false] at h1
    rcases hO with hO | ⟨j,be',h3,h4,h5⟩
    ·exact hm.notO b ⟨id,be,h1,h2⟩ hO
    ·have:=hm.inj id j be be' b h1 h4 h2 h5
     subst this; exact hi h3
  ·rintro b (hO | ⟨j,be',h3,h4,h5⟩)
   ·exact hm.Olt b hO
   ·exact hm.own_lt ⟨j,be',h4,h5⟩
 have ha0:RepL c0 args vs:=RepL.mono hle0 args vs (fun id hid=>hB0 id (hargs id hid)) ha
 refine (h c0 vs hm0 ha0).mono ?_
 rintro en w' ⟨v,c1,rfl,rfl,hm1,hv1,hg⟩
 have hkeepB:∀ id,mc id ≠ .none→∃ be be',c.B id=some be∧c1.B id=some be'∧be.Same be':=by
  intro id hi
  have he:=hm0.ent id
  cases hx:mc id with
  | none=>exact absurd hx hi
  | some le =>
   have hb:c0.B id=c.B id:=by simp [c0,hi]
   cases hbe:c0.B id with
   | none=>rw [hx,hbe] at he; cases le <;> simp [RepE] at he
   | some be =>
    obtain ⟨be',h1,h2⟩:=hg.prot id be hi hbe
    exact ⟨be,be',by rw [← hb]; exact hbe,h1,h2⟩
 have hkeepM:∀ id,mc id ≠ .none→mc' id ≠ .none:=by
  intro id hi hi'
  have he:=hm1.ent id
  rw [hi'] at he
  simp only [RepE] at he
  obtain ⟨be,be',_,h2,_⟩:=hkeepB id hi
  rw [he] at h2; cases h2
 have hfr:∀ id be,c.B id=some be→mc id=.none→mc' id=.none:=by
  intro id be hb hi
  by_cases hi':mc' id=.none
  ·exact hi'
  ·have:=hm.fresh (hnew id hi hi'); rw [this] at hb; cases hb
 let c':Cx:=⟨c1.w,fun id=>if mc' id=.none then c.B id else c1.B id,c.O⟩
 have hX' : ∀ b, c'.X b ↔ c1.X b := by
  intro b
  constructor
  ·rintro (hO | ⟨id,be,h2,h3⟩)
   ·exact .inl (by rw [hg.O]; exact .inl hO)
   ·by_cases hi:mc' id=.none
    ·simp only [c',hi,if_true] at h2
     have hn:mc id=.none:=by
      cases hx:mc id with
      | none=>rfl
      | some le=>exact absurd hi (hkeepM id (by simp [hx]))
     exact .inl (by rw [hg.O]; exact .inr ⟨id,be,hn,h2,h3⟩)
    ·simp only [c',hi,if_false] at h2; exact .inr ⟨id,be,h2,h3⟩
  ·rintro (hO | ⟨id,be,h2,h3⟩)
   ·rw [hg.O] at hO
    rcases hO with hO | ⟨id,be,h1,h2,h3⟩
    ·exact .inl hO
    ·exact .inr ⟨id,be,by simp [c',hfr id be h2 h1,h2],h3⟩
   ·refine .inr ⟨id,be,?_,h3⟩
    have:mc' id ≠ .none:=fun hn=>by have:=hm1.fresh hn; rw [this] at h2; cases h2
    simp [c',this,h2]
 have hle1:c1.Le c':=⟨Nat.le_refl _,fun b _ hx=>⟨rfl,fun hx'=>hx ((hX' b).1 hx')⟩⟩
 have hB1:∀ id,BLe (c1.B id) (c'.B id):=by
  intro id
  by_cases hi:mc' id=.none
  ·rw [hm1.fresh hi]; trivial
  ·simp only [c',hi,if_false]; exact BLe.refl _
 have hBc:∀ id be,c.B id=some be→∃ be',c'.B id=some be'∧be.Same be':=by
  intro id be hb
  by_cases hi:mc' id=.none
  ·exact ⟨be,by simp [c',hi,hb],.refl be⟩
  ·simp only [c',hi,if_false]
   by_cases hc:mc id=.none
   ·have:=hfr id be hb hc; exact absurd this hi
   ·obtain ⟨be1,be',h1,h2,h3⟩:=hkeepB id hc
    rw [hb] at h1; cases h1
    exact ⟨be',h2,h3⟩
 have hgrow:Grow pr c c':=by
  refine ⟨rfl,hg.os,hg.tape,hg.output,hg.drawn,hg.size,fun b hb ho=>hg.keep b hb ?_,?_,fun id be _ hb=>hBc id be hb⟩
  ·rintro ⟨id,be,h1,h2⟩
   by_cases hi:mc id=.none
   ·simp [c0,hi] at h1
   ·simp only [c0,hi,if_false] at h1; exact ho ⟨id,be,h1,h2⟩
  ·rintro b ⟨id,be,h1,h2⟩
   by_cases hi:mc' id=.none
   ·simp only [c',hi,if_true] at h1; exact .inl ⟨id,be,h1,h2⟩
   ·simp only [c',hi,if_false] at h1
    rcases hg.own b ⟨id,be,h1,h2⟩ with ⟨j,be',h3,h4⟩ | hs
    ·by_cases hj:mc j=.none
     ·simp [c0,hj] at h3
     ·simp only [c0,hj,if_false] at h3; exact .inl ⟨j,be',h3,h4⟩
    ·exact .inr hs
 have hble:∀ id,BLe (c.B id) (c'.B id):=by
  intro id
  cases hb:c.B id with
  | none=>trivial
  | some be =>
   obtain ⟨be',h1,h2⟩:=hBc id be hb
   rw [h1]
   cases be with
   | box b n=>simp only [BE.Same] at h2; subst h2; exact BLe.refl _
   | arr u k len ins=>simp only [BE.Same] at h2; obtain ⟨u',len',ins',rfl,h3,h4⟩:=h2; exact ⟨_,_,_,rfl,h3,h4⟩
   | mp b=>simp only [BE.Same] at h2; subst h2; exact BLe.refl _
 refine ⟨v,c',rfl,rfl,⟨fun id=>?_,?_,?_,?_⟩,RepV.mono hle1 lv v (fun id _=>hB1 id) hv1,hgrow,hble⟩
 ·by_cases hi:mc' id=.none
  ·have hb:c'.B id=c.B id:=by simp [c',hi]
   have hmo:m.over mc' id=m id:=by simp [Mem.over,hi]
   rw [hmo,hb]
   refine (hm.ent id).mono hgrow.le hble fun be b h1 h2=>?_
   refine hg.keep b ((hm.ent id).lt h1 h2) ?_
   rintro ⟨j,be',h3,h4⟩
   by_cases hj:mc j=.none
   ·simp [c0,hj] at h3
   ·simp only [c0,hj,if_false] at h3
    have:=hm.inj id j be be' b h1 h3 h2 h4
    subst this
    exact absurd hi (hkeepM id hj)
  ·have hb:c'.B id=c1.B id:=by simp [c',hi]
   cases hx:mc' id with
   | none=>exact absurd hx hi
   | some le =>
    have hmo:m.over mc' id=mc' id:=by simp [Mem.over,hx]
    rw [hmo,hb]
    exact (hm1.ent id).mono hle1 hB1 fun _ _ _ _=>rfl
 ·intro i i' be be' b h1 h2 h3 h4
  by_cases hi:mc' i=.none <;> by_cases hi':mc' i'=.none
  ·simp only [c',hi,hi',if_true] at h1 h2; exact hm.inj i i' be be' b h1 h2 h3 h4
  ·simp only [c',hi,if_true] at h1
   simp only [c',hi',if_false] at h2
   refine absurd ?_ (hm1.notO b ⟨i',be',h2,h4⟩)
   rw [hg.O]
   refine .inr ⟨i,be,?_,h1,h3⟩
   cases hx:mc i with
   | none=>rfl
   | some le=>exact absurd hi (hkeepM i (by simp [hx]))
  ·simp only [c',hi,if_false] at h1
   simp only [c',hi',if_true] at h2
   refine absurd ?_ (hm1.notO b ⟨i,be,h1,h3⟩)
   rw [hg.O]
   refine .inr ⟨i',be',?_,h2,h4⟩
   cases hx:mc i' with
   | none=>rfl
   | some le=>exact absurd hi' (hkeepM i' (by simp [hx]))
  ·simp only [c',hi,hi',if_false] at h1 h2; exact hm1.inj i i' be be' b h1 h2 h3 h4
 ·rintro b ⟨id,be,h1,h2⟩ hO
  by_cases hi:mc' id=.none
  ·simp only [c',hi,if_true] at h1; exact hm.notO b ⟨id,be,h1,h2⟩ hO
  ·simp only [c',hi,if_false] at h1; exact hm1.notO b ⟨id,be,h1,h2⟩ (by rw [hg.O]; exact .inl hO)
 ·intro b hO; exact Nat.lt_of_lt_of_le (hm.Olt b hO) hg.size

end Go.L
set_option linter.unusedVariables false
set_option linter.unusedSimpArgs false
namespace Go.L

def tsize (P:Program) (t:TypeId):Nat:=((P.info? t).map (·.size)).getD 0
def tagg (P:Program) (t:TypeId):Bool:=match P.underlying t with | some (.struct _)=>true | some (.array _ _)=>true | _=>false
def tok (P:Program) (t:TypeId):Bool:=(P.info? t).isSome && (P.underlying t).isSome
def telem (P:Program) (t:TypeId):Option Nat:=match P.underlying t with | some (.slice e)=>some e | _=>.none
def tfield (P:Program) (t:TypeId) (f:Nat):Option (Nat × Nat):=match P.underlying t with | some (.struct fs)=>(fs[f]?).map fun x=>(x.offset,x.type) | _=>.none
def tbool (P:Program) (t:TypeId):Bool:=match P.underlying t with | some .bool=>true | _=>false
def tint (P:Program) (t:TypeId):Option IntKind:=match P.underlying t with | some (.int k)=>some k | _=>.none
def trow (P:Program) (t:TypeId):Bool:=match P.info? t with
 | some i=>(match i.zero with | some z=>z.cells.size == i.size && z.cells.all (·.oneCell') | .none=>false) && decide (0<i.size) && decide (i.bytes≤256)
 | .none=>false
def ofV1:Value→LV
 | .int k n=>.int k n
 | .bool b=>.bool b
 | .slice .none 0 0=>.nil
 | .pointer .none=>.nilp
 | .nilFunc=>.nilf
 | .string s=>.str s
 | _=>.und
def ofV:Value→LV
 | .agg cs=>.agg (cs.toList.map ofV1)
 | v=>ofV1 v
def tzero (P:Program) (t:TypeId):Option LV:=match P.info? t with
 | some i=>(match i.zero with | some z=>if z.cells.all (·.oneCell') then some (ofV z) else .none | .none=>.none)
 | .none=>.none

def tbuild (P:Program) (t:TypeId):Bool:=match P.underlying t with
 | some (.struct fields)=>(fields.toList.mapM (fun f=>(P.info? f.type).map fun i=>(f.offset,i.size))).isSome
 | _=>false

def lev (e:Env):Operand→LV
 | .tmp t=>e t
 | .const v=>ofV v
 | .global _=>.und
 | .func f=>.fn f []

def rep (cs:List LV) (o:Nat) (ns:List LV):List LV:=cs.take o++ns++cs.drop (o+ns.length)

def exact1:LV→Option Value
 | .int k n=>some (.int k n)
 | .bool b=>some (.bool b)
 | _=>.none
def exactL:List LV→Option (List Value)
 | []=>some []
 | x :: xs=>match exact1 x,exactL xs with | some v,some vs=>some (v :: vs) | _,_=>.none

def AggEq (P:Program) (t:TypeId) (xs ys:List LV) (b:Bool):Prop :=
 P.eqGuardType P.depth t=false∧∃ vs us,exactL xs=some vs∧exactL ys=some us∧∀ w,(Op.equal t (.agg vs.toArray) (.agg us.toArray)).run P w=.ok b w

def loadC (P:Program) (t:TypeId) (cs:List LV) (K:LV→Prop):Prop :=
 tok P t=true∧if tagg P t=true then tsize P t≤cs.length∧K (.agg (cs.take (tsize P t))) else match cs with | x :: _=>K x | []=>False

def intBin (op:BinOp) (k:IntKind) (a b:Int) (K:LV→Prop):Prop :=
 match op with
 | .add=>K (.int k (k.wrap (a+b)))
 | .sub=>K (.int k (k.wrap (a - b)))
 | .mul=>K (.int k (k.wrap (a * b)))
 | .quo=>b ≠ 0∧K (.int k (k.wrap (a.tdiv b)))
 | .rem=>b ≠ 0∧K (.int k (a.tmod b))
 | .eql=>K (.bool (a == b))
 | .neq=>K (.bool (a != b))
 | .lss=>K (.bool (decide (a<b)))
 | .leq=>K (.bool (decide (a≤b)))
 | .gtr=>K (.bool (decide (a > b)))
 | .geq=>K (.bool (decide (a ≥ b)))
 | _=>False

def lfill (P:Program) (t:TypeId):List LV→List (Nat × LV)→Option (List LV)
 | cs,[]=>some cs
 | cs,(i,x) :: r=>match tfield P t i with
  | some (off,ft)=>if x.cells.length=tsize P ft∧off+x.cells.length≤cs.length∧tok P ft=true∧x.cells.all LV.scalar=true then lfill P t (rep cs off x.cells) r else .none
  | .none=>.none

def setEl (y:LV) (o:Nat) (x:LV):Option LV :=
 match y with
 | .agg cs=>if o+x.cells.length≤cs.length∧cs.all LV.scalar=true then some (.agg (rep cs o x.cells)) else .none
 | _=>if o=0∧x.scalar=true∧y.scalar=true then some x else .none

def CallS (P:Program) (f:Nat) (args:List LV) (m:Mem) (K:LV→Mem→Prop):Prop :=
 ∃ lv mc mc',LCall P f args mc lv mc'∧(∀ id,mc id ≠ .none→m id=mc id)∧(∀ id,mc id=.none→mc' id ≠ .none→m id=.none) ∧
  (∀ id,LV.norefL id args=false→mc id ≠ .none)∧(∀ id le,mc id=some le→∀ j,le.nref j=false→mc j ≠ .none)∧K lv (m.over mc')

def okEls (k:Nat) (xs:List LV):Prop:=∀ x ∈ xs,x.pure=true∧x.cells.length=k∧x.cells.all LV.scalar=true

def LOp (P:Program) (pr:Nat→Prop) (ro:List Nat) (o:Oper) (ev:Operand→LV) (m:Mem) (K:LV→Mem→Prop):Prop :=
 match o.op with
 | .move x=>K (ev x) m
 | .assign x=>K (ev x) m
 | .pick c a b=>match ev c with | .bool t=>K (if t then ev a else ev b) m | _=>False
 | .alloc t=>match tzero P t,o.dst with
  | some z,some d=>m (100+d)=.none∧K (.ptr (100+d) 0) (m.put (100+d) (.box z.cells))
  | _,_=>False
 | .box _ x=>match o.dst with
  | some d=>(ev x).cells.all LV.scalar=true ∧
   if ro.contains d=true then K (.sptr (ev x).cells) m
   else m (100+d)=.none∧K (.ptr (100+d) 0) (m.put (100+d) (.box (ev x).cells))
  | .none=>False
 | .build t parts=>tbuild P t=true∧match tzero P t with
  | some (.agg z)=>match lfill P t z (parts.toList.map fun p=>(p.1,ev p.2)) with
   | some cs=>K (.agg cs) m
   | .none=>False
  | _=>False
 | .buildSlice t len parts=>match telem P t with
  | some e=>trow P e=true∧len * tsize P e≤16777216∧parts.toList.map (·.1)=List.range len∧okEls (tsize P e) (parts.toList.map fun p=>ev p.2)∧K (.lst (tsize P e) (parts.toList.map fun p=>ev p.2)) m
  | .none=>False
 | .load t a=>match ev a with
  | .sptr cs=>loadC P t cs fun lv=>K lv m
  | .ptr id o=>match m id with
   | some (.box cs)=>o≤cs.length∧loadC P t (cs.drop o) fun lv=>K lv m
   | _=>False
  | .eptr id n i o=>match m id with
   | some (.arr _ _ xs)=>n=xs.length∧∃ x,xs[i]?=some x∧x.cells.all LV.scalar=true∧o≤x.cells.length∧loadC P t (x.cells.drop o) fun lv=>K lv m
   | _=>False
  | _=>False
 | .store t a x=>(ev x).cells.all LV.scalar=true∧tok P t=true∧tsize P t=(ev x).cells.length∧match ev a with
  | .ptr id o=>match m id with
   | some (.box cs)=>o+(ev x).cells.length≤cs.length∧K .und (m.put id (.box (rep cs o (ev x).cells)))
   | _=>False
  | .eptr id n i o=>match m id with
   | some (.arr e k xs)=>n=xs.length∧LV.pureL (ev x).cells=true∧∃ y z,xs[i]?=some y∧setEl y o (ev x)=some z∧K .und (m.put id (.arr e k (xs.set i z)))
   | _=>False
  | _=>False
 | .nilCheck x=>match ev x with
  | .ptr _ _=>K (ev x) m
  | .sptr _=>K (ev x) m
  | .eptr id n _ _=>(match m id with | some (.arr _ _ xs)=>n=xs.length | _=>False)∧K (ev x) m
  | .fn _ _=>K (ev x) m
  | _=>False
 | .binOp op t x y _=>match ev x,ev y with
  | .int k a,.int k' b=>k=k'∧intBin op k a b fun lv=>K lv m
  | .bool a,.bool b=>tbool P t=true∧(match op with | .eql=>K (.bool (a == b)) m | .neq=>K (.bool (!(a == b))) m | _=>False)
  | .agg xs,.agg ys=>∃ b,AggEq P t xs ys b∧(match op with | .eql=>K (.bool b) m | .neq=>K (.bool (!b)) m | _=>False)
  | _,_=>False
 | .unOp op _ x=>match op,ev x with
  | .not,.bool b=>K (.bool (!b)) m
  | .neg,.int k n=>K (.int k (k.wrap (0 - n))) m
  | _,_=>False
 | .convert s t x=>tok P s=true∧match tint P t,ev x with
  | some k,.int _ n=>K (.int k (k.wrap n)) m
  | _,_=>False
 | .slice t x lo hi mx=>(telem P t).isSome=true∧tok P ((telem P t).getD 0)=true∧mx=.none∧match ev x with
  | .lst k xs=>some k=(telem P t).map (tsize P)∧∃ l h:Nat,(match lo with | .none=>l=0 | some y=>ev y=.int .i64 l)∧(match hi with | .none=>h=xs.length | some y=>ev y=.int .i64 h) ∧
    l≤h∧h≤xs.length∧K (.lst k ((xs.take h).drop l)) m
  | .nil=>(match lo with | .none=>True | some y=>ev y=.int .i64 0)∧(match hi with | .none=>True | some y=>ev y=.int .i64 0)∧K .nil m
  | _=>False
 | .fieldAddr t x f=>match tfield P t f with
  | some (off,ft)=>tok P ft=true∧tsize P ft ≠ 0∧match ev x with
   | .sptr cs=>off≤cs.length∧K (.sptr (cs.drop off)) m
   | .ptr id o=>K (.ptr id (o+off)) m
   | .eptr id n i o=>(match m id with | some (.arr _ _ xs)=>n=xs.length | _=>False)∧K (.eptr id n i (o+off)) m
   | _=>False
  | .none=>False
 | .field t x f=>match tfield P t f,ev x with
  | some (off,ft),.agg cs=>off≤cs.length∧loadC P ft (cs.drop off) fun lv=>K lv m
  | _,_=>False
 | .indexAddr t x i=>match telem P t,ev x,ev i with
  | some e,.lst k xs,.int _ n=>tok P e=true∧k=tsize P e∧0≤n∧∃ y,xs[n.toNat]?=some y∧y.cells.all LV.scalar=true∧K (.sptr y.cells) m
  | some e,.arr id l,.int _ n=>match m id with
   | some (.arr _ k xs)=>tok P e=true∧l=xs.length∧k=tsize P e∧0≤n∧n<l∧K (.eptr id l n.toNat 0) m
   | _=>False
  | _,_,_=>False
 | .extract t i=>match ev t with
  | .tup vs=>∃ v,vs[i]?=some v∧K v m
  | _=>False
 | .makeFunc f first cap=>match f with
  | .func f=>first=#[]∧K (.fn f (cap.toList.map ev)) m
  | _=>False
 | .makeSlice t l c=>match telem P t,tzero P ((telem P t).getD 0),ev l,ev c,o.dst with
  | some e,some z,.int .i64 n,.int .i64 n',some d=>n=n'∧0≤n∧n≤549755813888∧trow P e=true∧z.pure=true∧m (100+d)=.none ∧
    K (.arr (100+d) n.toNat) (m.put (100+d) (.arr e (tsize P e) (List.replicate n.toNat z)))
  | _,_,_,_,_=>False
 | .call c=>match c.callee with
  | .builtin .len=>match c.args.toList,c.argTypes.toList with
   | [x],[t]=>(telem P t).isSome=true∧match ev x with
    | .lst _ xs=>K (.int .i64 xs.length) m
    | .nil=>K (.int .i64 0) m
    | .arr id n=>(match m id with | some (.arr _ _ xs)=>n=xs.length | _=>False)∧K (.int .i64 n) m
    | _=>False
   | _,_=>False
  | .builtin .append=>match c.args.toList,c.argTypes.toList with
   | [x, y], [t, t'] => t = t' ∧ match telem P t with
    | some e=>trow P e=true∧∃ ys,(ev y=.lst (tsize P e) ys ∨ (ev y=.nil∧ys=[]))∧match ev x with
     | .arr id n=>¬ pr id∧match m id with
      | some (.arr e' k xs)=>e'=e∧k=tsize P e∧n=xs.length∧xs.length+ys.length≤549755813888∧K (.arr id (n+ys.length)) (m.put id (.arr e k (xs++ys)))
      | _=>False
     | .nil=>match o.dst with
      | some d=>m (100+d)=.none∧ys.length≤549755813888∧K (.arr (100+d) ys.length) (m.put (100+d) (.arr e (tsize P e) ys))
      | .none=>False
     | _=>False
    | .none=>False
   | _,_=>False
  | .value x=>match ev x with
   | .fn f cap => (∃ fn, P.funcs[f]? = some fn ∧ (fn.name == "runtime.NumGoroutine") = false ∧ fn.body.isNone = false) ∧ CallS P f (c.args.toList.map ev ++ cap) m K
   | _=>False
  | _=>False
 | _=>False

def LStep (P:Program) (pr:Nat→Prop) (ro:List Nat) (ops:Array Oper) (o:Oper) (K:Env→Mem→Prop) (e:Env) (m:Mem):Prop :=
 match o.guard with
 | .none=>LOp P pr ro o (lev e) m fun lv m'=>K (e.put? o.dst lv) m'
 | some (j,want)=>match (ops[j]?).bind (·.dst) with
  | some g=>match e g with
   | .bool t=>if t=want then LOp P pr ro o (lev e) m fun lv m'=>K (e.put? o.dst lv) m' else K (e.put? o.dst (.tup [])) m
   | .tup []=>K (e.put? o.dst (.tup [])) m
   | _=>False
  | .none=>False

def LOps (P:Program) (pr:Nat→Prop) (ro:List Nat) (ops:Array Oper):List Oper→(Env→Mem→Prop)→Env→Mem→Prop
 | [],K=>K
 | o :: os,K=>LStep P pr ro ops o (LOps P pr ro ops os K)

def OpOk (P:Program) (pr:Nat→Prop) (o:Oper) (ev:Operand→LV) (m:Mem) (lv:LV) (m':Mem):Prop :=
 ∀ (c:Cx) (a:Act) (Q:Exit→Act→World→Prop),(∀ x,RepV c (ev x) (a.eval x))→RepM c m →
  o.wp P a c.w (fun a' w'=>∃ v c',a'=a.put o.dst v∧c'.w=w'∧RepV c' lv v∧RepM c' m'∧Step pr c c') Q

end Go.L
namespace Go.L

section lists
theorem flat_cons (v:Value) (vs:List Value):flat (v :: vs)=v.cells.toList++flat vs:=rfl
theorem flat_append (vs us:List Value):flat (vs++us)=flat vs++flat us:=by simp [flat]
theorem flat_length {k:Nat}:∀ {vs:List Value},(∀ v ∈ vs,v.cells.size=k)→(flat vs).length=vs.length * k
 | [],_=>by simp [flat]
 | v :: vs,h=>by
  rw [flat_cons,List.length_append,flat_length (k:=k) (fun u hu=>h u (by simp [hu])),List.length_cons,Array.length_toList,h v (by simp),Nat.add_mul,Nat.one_mul,Nat.add_comm]
theorem flat_split {k:Nat} {vs:List Value} (h:∀ v ∈ vs,v.cells.size=k) {i:Nat} {u:Value} (hu:vs[i]?=some u) :
  flat vs=flat (vs.take i)++(u.cells.toList++flat (vs.drop (i+1)))∧(flat (vs.take i)).length=i * k:=by
 have hi:i<vs.length:=(List.getElem?_eq_some_iff.1 hu).1
 have he:vs[i]=u:=(List.getElem?_eq_some_iff.1 hu).2
 constructor
 ·rw [← flat_cons,← he,← List.drop_eq_getElem_cons hi,← flat_append,List.take_append_drop]
 ·rw [flat_length (k:=k) (fun v hv=>h v (List.mem_of_mem_take hv)),List.length_take,Nat.min_eq_left (by omega)]
theorem rangeAt_part {w:World} {b off:Nat} {l1 l2 l3:List Value} (h:w.rangeAt b off (l1++(l2++l3))):w.rangeAt b (off+l1.length) l2:=by
 intro j v hv
 have hj:j<l2.length:=(List.getElem?_eq_some_iff.1 hv).1
 have:=h (l1.length+j) v (by rw [List.getElem?_append_right (by omega)]; simp [List.getElem?_append_left hj,hv])
 rw [Nat.add_assoc]; exact this
theorem rangeAt_drop {w:World} {b off:Nat} {l:List Value} (h:w.rangeAt b off l) (n:Nat):w.rangeAt b (off+n) (l.drop n):=by
 intro j v hv
 rw [List.getElem?_drop] at hv
 rw [Nat.add_assoc]; exact h (n+j) v hv
theorem rangeAt_take {w:World} {b off:Nat} {l:List Value} (h:w.rangeAt b off l) (n:Nat):w.rangeAt b off (l.take n):=by
 intro j v hv
 refine h j v ?_
 rw [List.getElem?_take] at hv
 split at hv
 ·exact hv
 ·cases hv
theorem rangeAt_new (w:World) (vs:List Value) (t:TypeId):(w.alloc (.cells vs.toArray t)).rangeAt w.heap.size 0 vs:=by
 intro j v hv
 rw [World.cell?_alloc_new]
 simpa using hv
theorem rangeAt_row {w:World} {b:Nat} {vs:List Value} {e:TypeId} {fr:Nat × Nat} (h:w.heap[b]?=some (.cells vs.toArray e fr)):w.rangeAt b 0 vs:=by
 intro j v hv
 simp [World.cell?,h,hv]
theorem rangeAt_own {w:World} {e k n:Nat} {u:Value} {vs:List Value} (h:w.ownsRow 0 e k u n vs) {b:Nat} (hb:u.ownBlock=some b):w.rangeAt b 0 vs:=by
 intro j v hv
 have:=h.cells hb j v hv
 rw [Addr.add_mid] at this
 exact this
end lists

theorem pureL_drop {xs:List LV} (h:LV.pureL xs=true) (n:Nat):LV.pureL (xs.drop n)=true :=
 pureL_iff.2 fun x hx=>pureL_iff.1 h x (List.mem_of_mem_drop hx)
theorem pureL_take {xs:List LV} (h:LV.pureL xs=true) (n:Nat):LV.pureL (xs.take n)=true :=
 pureL_iff.2 fun x hx=>pureL_iff.1 h x (List.mem_of_mem_take hx)
theorem pureL_append {xs ys:List LV} (h:LV.pureL xs=true) (h':LV.pureL ys=true):LV.pureL (xs++ys)=true :=
 pureL_iff.2 fun x hx=>(List.mem_append.1 hx).elim (pureL_iff.1 h x) (pureL_iff.1 h' x)

theorem repV_ofV1 (c:Cx) (v:Value):RepV c (ofV1 v) v:=by
 unfold ofV1
 split <;> simp [RepV]
theorem repL_ofV1 (c:Cx):∀ (vs:List Value),RepL c (vs.map ofV1) vs
 | []=>by simp [RepL]
 | v :: vs=>by simp only [List.map_cons,RepL]; exact ⟨v,vs,rfl,repV_ofV1 c v,repL_ofV1 c vs⟩
theorem repV_ofV (c:Cx) (v:Value):RepV c (ofV v) v:=by
 unfold ofV
 split
 ·rename_i cs; simp only [RepV]; exact ⟨cs.toList,by simp,repL_ofV1 c _⟩
 ·exact repV_ofV1 c v
theorem ofV1_cells (v:Value):(ofV1 v).cells=[ofV1 v]:=by
 unfold ofV1
 split <;> rfl
theorem repL_ofV_cells (c:Cx) (z:Value):RepL c (ofV z).cells z.cells.toList:=by
 unfold ofV
 split
 ·rename_i cs; simp only [LV.cells,Value.cells]; exact repL_ofV1 c _
 ·rename_i h
  rw [ofV1_cells]
  have:z.cells=#[z]:=by cases z <;> simp_all [Value.cells]
  rw [this]
  simp only [RepL]
  exact ⟨z,[],rfl,repV_ofV1 c z,rfl⟩

section ops
variable {P:Program} {pr:Nat→Prop} {o:Oper} {ev:Operand→LV} {m m':Mem} {lv:LV}

theorem OpOk.value (h:∀ (c:Cx) (a:Act),(∀ x,RepV c (ev x) (a.eval x))→RepM c m→∃ v c',(execOp a.eval o).run P c.w=.ok (.value v) c'.w∧RepV c' lv v∧RepM c' m'∧Step pr c c'):OpOk P pr o ev m lv m':=by
 intro c a Q hev hm
 obtain ⟨v,c',hr,h1,h2,h3⟩:=h c a hev hm
 unfold Oper.wp
 rw [hr]
 exact ⟨v,c',rfl,rfl,h1,h2,h3⟩

theorem OpOk.same (h:∀ (c:Cx) (a:Act),(∀ x,RepV c (ev x) (a.eval x))→RepM c m→∃ v,(execOp a.eval o).run P c.w=.ok (.value v) c.w∧RepV c lv v):OpOk P pr o ev m lv m :=
 OpOk.value fun c a hev hm=>let ⟨v,hr,h1⟩:=h c a hev hm; ⟨v,c,hr,h1,hm,Step.refl pr c⟩

theorem ok_move (x:Operand) (ho:o.op=.move x ∨ o.op=.assign x):OpOk P pr o ev m (ev x) m :=
 OpOk.same fun c a hev _=>⟨a.eval x,by rcases ho with ho | ho <;> simp [execOp,ho],hev x⟩

theorem ok_pick (x y z:Operand) (t:Bool) (ho:o.op=.pick x y z) (hx:ev x=.bool t):OpOk P pr o ev m (if t then ev y else ev z) m :=
 OpOk.same fun c a hev _=>by
  have h:=hev x
  rw [hx] at h
  simp only [RepV] at h
  refine ⟨if t then a.eval y else a.eval z,?_,?_⟩
  ·simp [execOp,ho,h,asBool]
  ·cases t
   ·exact hev z
   ·exact hev y

theorem new_box {c:Cx} {m:Mem} (hm:RepM c m) (id:Nat) (hid:m id=.none) (cs:List LV) (vs:List Value) (t:TypeId) (hl:RepL c cs vs) (h1:∀ v ∈ vs,v.oneCell'=true) :
  ∃ c':Cx,c'.w=c.w.alloc (.cells vs.toArray t)∧RepV c' (.ptr id 0) (.pointer (some ⟨c.w.heap.size,0,.none⟩))∧RepM c' (m.put id (.box cs))∧Step pr c c':=by
 have hB:=hm.fresh hid
 obtain ⟨c',hw,hb,h2,h3⟩:=hm.upd (pr:=pr) id (.box cs) (.box c.w.heap.size cs.length) (c.w.alloc (.cells vs.toArray t)) rfl rfl rfl (Nat.le_refl _) (by simp)
  (fun b hb _=>hpOld c.w _ b hb) (fun b hb=>by simp [BE.has] at hb; exact .inr (by omega)) (by rw [hB]; trivial) (fun _ be0 h0=>by rw [hB] at h0; cases h0)
  (fun c' hw hle hble=>by
   simp only [RepE]
   exact ⟨c.w.heap.size,vs,t,rfl,by rw [hw]; exact heap_alloc_new c.w _,RepL.mono hle cs vs (fun id _=>hble id) hl,h1⟩)
 exact ⟨c',hw,by simp only [RepV]; exact ⟨_,_,hb,rfl⟩,h2,h3⟩

theorem ok_alloc (t:TypeId) (d:Nat) (z:LV) (ho:o.op=.alloc t) (hz:tzero P t=some z) (hid:m (100+d)=.none):OpOk P pr o ev m (.ptr (100+d) 0) (m.put (100+d) (.box z.cells)) :=
 OpOk.value fun c a hev hm=>by
  unfold tzero at hz
  split at hz
  ·rename_i i hi
   split at hz
   ·rename_i zv hzv
    split at hz
    ·rename_i hall
     cases hz
     have hone:∀ v ∈ zv.cells.toList,v.oneCell'=true:=fun v hv=>(Array.all_eq_true_iff_forall_mem.1 hall) v (by simpa using hv)
     obtain ⟨c',hw,hr,h2,h3⟩:=new_box (pr:=pr) hm (100+d) hid (ofV zv).cells zv.cells.toList t (repL_ofV_cells c zv) hone
     refine ⟨_,c',?_,hr,h2,h3⟩
     rw [hw]
     simp [execOp,ho,Instr.alloc,zeroValue,typeInfo,hi,hzv,newVar,newRow]
    ·cases hz
   ·cases hz
  ·cases hz

theorem ok_box (t:TypeId) (x:Operand) (d:Nat) (ho:o.op=.box t x) (hs:(ev x).cells.all LV.scalar=true) (hid:m (100+d)=.none):OpOk P pr o ev m (.ptr (100+d) 0) (m.put (100+d) (.box (ev x).cells)) :=
 OpOk.value fun c a hev hm=>by
  obtain ⟨hl,h1⟩:=(hev x).cellsOf hs
  obtain ⟨c',hw,hr,h2,h3⟩:=new_box (pr:=pr) hm (100+d) hid (ev x).cells (a.eval x).cells.toList t hl (fun v hv=>h1 v (by simpa using hv))
  refine ⟨_,c',?_,hr,h2,h3⟩
  rw [hw]
  simp [execOp,ho,Instr.box,newVar,newRow]

theorem ok_box_ro (t:TypeId) (x:Operand) (ho:o.op=.box t x) (hs:(ev x).cells.all LV.scalar=true):OpOk P pr o ev m (.sptr (ev x).cells) m :=
 OpOk.value fun c a hev hm=>by
  obtain ⟨hl,h1⟩:=(hev x).cellsOf hs
  obtain ⟨h2,h3⟩:=hm.ext (pr:=pr) (c.w.alloc (.cells (a.eval x).cells.toList.toArray t)) rfl rfl rfl (Nat.le_refl _) (by simp) (fun b hb=>hpOld c.w _ b hb)
  refine ⟨.pointer (some ⟨c.w.heap.size,0,.none⟩),_,by simp [execOp,ho,Instr.box,newVar,newRow],?_,h2,h3⟩
  simp only [RepV]
  refine ⟨c.w.heap.size,0,(a.eval x).cells.toList,rfl,by simp,?_,h3.repL hl,fun v hv=>h1 v (by simpa using hv),rangeAt_new c.w _ t⟩
  exact hm.newX (Nat.le_refl _)

theorem run_load_cells {w:World} {t:TypeId} {b off:Nat} {cs:List LV} {vs:List Value} {c:Cx} (ht:tok P t=true) (hl:RepL c cs vs) (hr:w.rangeAt b off vs) :
  (tagg P t=true→tsize P t≤cs.length→(Instr.loadAt t (.pointer (some ⟨b,off,.none⟩))).run P w=.ok (.agg (vs.take (tsize P t)).toArray) w) ∧
  (tagg P t=false→∀ v vs',vs=v :: vs'→(Instr.loadAt t (.pointer (some ⟨b,off,.none⟩))).run P w=.ok v w):=by
 unfold tok at ht
 cases hi:P.info? t with
 | none=>simp [hi] at ht
 | some i =>
  cases hu:P.underlying t with
  | none=>simp [hu] at ht
  | some d =>
   constructor
   ·intro hg hs
    have hsz:tsize P t=i.size:=by simp [tsize,hi]
    refine run_loadAt_mid w b off t _ d (rangeAt_take hr _) hu ?_ ?_
    ·simp only [tagg,hu] at hg
     cases d <;> simp_all
    ·simp only [hi,Option.map_some,List.length_take,hsz]
     rw [hsz,hl.length] at hs
     rw [Nat.min_eq_left hs]
   ·intro hg v vs' he
    subst he
    have hc:w.cell? ⟨b,off,.none⟩=some v:=by simpa using hr 0 v (by simp)
    have hagg:(isAgg t).run P w=.ok false w:=by
     unfold isAgg
     rw [Sem.run_bind,run_underlying hu w]
     simp only [tagg,hu] at hg
     cases d <;> simp_all
    simp [Instr.loadAt,Instr.sureAddr,loadVar,Sem.run_bind,hagg,hc]

theorem loadC_sound {t:TypeId} {cs:List LV} {K:LV→Prop} (h:loadC P t cs K) :
  ∃ lv,K lv∧∀ (c:Cx) (b off:Nat) (vs:List Value),RepL c cs vs→c.w.rangeAt b off vs→∃ v,(Instr.loadAt t (.pointer (some ⟨b,off,.none⟩))).run P c.w=.ok v c.w∧RepV c lv v:=by
 obtain ⟨ht,h⟩:=h
 by_cases hg:tagg P t=true
 ·rw [if_pos hg] at h
  refine ⟨_,h.2,fun c b off vs hl hr=>?_⟩
  refine ⟨_,(run_load_cells ht hl hr).1 hg h.1,?_⟩
  simp only [RepV]
  exact ⟨_,rfl,hl.take _⟩
 ·rw [if_neg hg] at h
  match cs,h with
  | x :: cs,h =>
   refine ⟨x,h,fun c b off vs hl hr=>?_⟩
   have hl':=hl
   simp only [RepL] at hl'
   obtain ⟨v,vs',rfl,hv,_⟩:=hl'
   exact ⟨v,(run_load_cells ht hl hr).2 (by simpa using hg) v vs' rfl,hv⟩

theorem ok_load_of {t:TypeId} {x:Operand} (ho:o.op=.load t x)
  (h:∀ (c:Cx) (a:Act),(∀ x,RepV c (ev x) (a.eval x))→RepM c m→∃ b off,a.eval x=.pointer (some ⟨b,off,.none⟩)∧∃ v,(Instr.loadAt t (.pointer (some ⟨b,off,.none⟩))).run P c.w=.ok v c.w∧RepV c lv v):OpOk P pr o ev m lv m :=
 OpOk.same fun c a hev hm=>by
  obtain ⟨b,off,hx,v,hr,hv⟩:=h c a hev hm
  exact ⟨v,by simp [execOp,ho,hx,hr],hv⟩

end ops
end Go.L
set_option linter.unusedVariables false
set_option linter.unusedSimpArgs false
namespace Go.L
section ops
variable {P:Program} {pr:Nat→Prop} {o:Oper} {ev:Operand→LV} {m m':Mem} {lv:LV}

theorem cell_box {c:Cx} {m:Mem} (hm:RepM c m) {id:Nat} {cs:List LV} (h:m id=some (.box cs)):∃ b vs e,c.B id=some (.box b cs.length)∧c.w.heap[b]?=some (.cells vs.toArray e (0,0))∧RepL c cs vs∧∀ v ∈ vs,v.oneCell'=true:=by
 have:=hm.ent id
 rw [h] at this
 simp only [RepE] at this
 exact this
theorem cell_arr {c:Cx} {m:Mem} (hm:RepM c m) {id:Nat} {e k:Nat} {xs:List LV} (h:m id=some (.arr e k xs)):∃ u vs,c.B id=some (.arr u k xs.length [])∧0<k∧c.w.ownsRow 0 e k u xs.length (flat vs)∧RepL c xs vs∧(∀ v ∈ vs,v.cells.size=k∧∀ y ∈ v.cells,y.oneCell'=true)∧LV.pureL xs=true:=by
 have:=hm.ent id
 rw [h] at this
 simp only [RepE] at this
 exact this

theorem eptr_at {c:Cx} {m:Mem} (hm:RepM c m) {id n i off e k:Nat} {xs:List LV} {v:Value} (hv:RepV c (.eptr id n i off) v) (hid:m id=some (.arr e k xs)) (hn:n=xs.length) {x:LV} (hx:xs[i]?=some x) (hs:x.cells.all LV.scalar=true) (ho:off≤x.cells.length) :
  ∃ b vs,v=.pointer (some ⟨b,i * k+off,.none⟩)∧RepL c (x.cells.drop off) vs∧c.w.rangeAt b (i * k+off) vs:=by
 obtain ⟨u,vs,hB,hk,hown,hl,hc,hp⟩:=cell_arr hm hid
 simp only [RepV] at hv
 obtain ⟨_,u',k',len,ins',hB',hle,hv⟩:=hv
 rw [hB] at hB'
 cases hB'
 obtain ⟨b,hb,rfl⟩:=hv hn
 obtain ⟨y,hy,hry⟩:=hl.get hx
 obtain ⟨h1,h2⟩:=flat_split (k:=k) (fun v hv=>(hc v hv).1) hy
 have hra:=rangeAt_own hown hb
 rw [h1] at hra
 have:=rangeAt_part hra
 rw [h2] at this
 simp only [Nat.zero_add] at this
 exact ⟨b,_,rfl,(hry.cellsOf hs).1.drop off,rangeAt_drop this off⟩

theorem sound_load {t:TypeId} {x:Operand} {K:LV→Mem→Prop} (ho:o.op=.load t x) (h:LOp P pr [] o ev m K):∃ lv m',K lv m'∧OpOk P pr o ev m lv m':=by
 simp only [LOp,ho] at h
 cases hx:ev x <;> simp only [hx] at h
 case sptr cs =>
  obtain ⟨lv,hK,hr⟩:=loadC_sound h
  refine ⟨lv,m,hK,ok_load_of ho fun c a hev hm=>?_⟩
  have hv:=hev x
  rw [hx] at hv
  simp only [RepV] at hv
  obtain ⟨b,off,vs,he,_,_,hl,_,hra⟩:=hv
  exact ⟨b,off,he,hr c b off vs hl hra⟩
 case ptr id off =>
  cases hm:m id with
  | none=>simp [hm] at h
  | some le =>
   cases le with
   | map _ _ _=>simp [hm] at h
   | nest _ _ _ _=>simp [hm] at h
   | nesth _ _ _ _ _ _ _ _=>simp [hm] at h
   | dead=>simp [hm] at h
   | arr e k xs=>simp [hm] at h
   | box cs =>
    simp only [hm] at h
    obtain ⟨lv,hK,hr⟩:=loadC_sound h.2
    refine ⟨lv,m,hK,ok_load_of ho fun c a hev hM=>?_⟩
    obtain ⟨b,vs,e,hB,hh,hl,h1⟩:=cell_box hM hm
    have hv:=hev x
    rw [hx] at hv
    simp only [RepV] at hv
    obtain ⟨b',n,hB',he⟩:=hv
    rw [hB] at hB'
    cases hB'
    have hra:=rangeAt_drop (rangeAt_row hh) off
    simp only [Nat.zero_add] at hra
    exact ⟨b,off,he,hr c b off _ (hl.drop off) hra⟩
 case eptr id n i off =>
  cases hm:m id with
  | none=>simp [hm] at h
  | some le =>
   cases le with
   | map _ _ _=>simp [hm] at h
   | nest _ _ _ _=>simp [hm] at h
   | nesth _ _ _ _ _ _ _ _=>simp [hm] at h
   | dead=>simp [hm] at h
   | box cs=>simp [hm] at h
   | arr e k xs =>
    simp only [hm] at h
    obtain ⟨hn,y,hy,hs,hoff,h⟩:=h
    obtain ⟨lv,hK,hr⟩:=loadC_sound h
    refine ⟨lv,m,hK,ok_load_of ho fun c a hev hM=>?_⟩
    have hv:=hev x
    rw [hx] at hv
    obtain ⟨b,vs,he,hl,hra⟩:=eptr_at hM hv hm hn hy hs hoff
    exact ⟨b,_,he,hr c b _ vs hl hra⟩

theorem run_store_row {w:World} {t:TypeId} {b off:Nat} {cur:Array Value} {e:TypeId} {v:Value} (ht:tok P t=true) (hs:tsize P t=v.cells.size) (hh:w.heap[b]?=some (.cells cur e (0,0))) (hl:off+v.cells.size≤cur.size) (h1:∀ y ∈ v.cells,y.oneCell'=true) :
  (Instr.storeAt t (.pointer (some ⟨b,off,.none⟩)) v).run P w=.ok () (w.setRow b (cur.toList.take off++v.cells.toList++cur.toList.drop (off+v.cells.toList.length)).toArray):=by
 unfold tok at ht
 cases hi:P.info? t with
 | none=>simp [hi] at ht
 | some i =>
  have hsz:v.cells.size=i.size:=by rw [← hs]; simp [tsize,hi]
  have hst:=run_storeCells_at (P:=P) b off e v.cells.toList 0 cur w hh (by simpa using hl) (fun y hy=>h1 y (by simpa using hy))
  simp only [Nat.add_zero] at hst
  simp [Instr.storeAt,Instr.sureAddr,storeVar,sizeOf,typeInfo,hi,hsz,hst]

theorem OpOk.skip (h:∀ (c:Cx) (a:Act),(∀ x,RepV c (ev x) (a.eval x))→RepM c m→∃ c',(execOp a.eval o).run P c.w=.ok .skip c'.w∧RepM c' m'∧Step pr c c'):OpOk P pr o ev m .und m':=by
 intro c a Q hev hm
 obtain ⟨c',hr,h2,h3⟩:=h c a hev hm
 unfold Oper.wp
 rw [hr]
 exact ⟨undef,c',rfl,rfl,by simp [RepV],h2,h3⟩

theorem rep_length {cs ns:List LV} {off:Nat} (h:off+ns.length≤cs.length):(rep cs off ns).length=cs.length:=by
 simp [rep]; omega

theorem sound_store {t:TypeId} {x y:Operand} {K:LV→Mem→Prop} (ho:o.op=.store t x y) (h:LOp P pr [] o ev m K):∃ lv m',K lv m'∧OpOk P pr o ev m lv m':=by
 simp only [LOp,ho] at h
 obtain ⟨hsc,htok,htsz,h⟩:=h
 cases hx:ev x <;> simp only [hx] at h
 case ptr id off =>
  cases hm:m id with
  | none=>simp [hm] at h
  | some le =>
   cases le with
   | map _ _ _=>simp [hm] at h
   | nest _ _ _ _=>simp [hm] at h
   | nesth _ _ _ _ _ _ _ _=>simp [hm] at h
   | dead=>simp [hm] at h
   | arr e k xs=>simp [hm] at h
   | box cs =>
    simp only [hm] at h
    obtain ⟨hoff,hK⟩:=h
    refine ⟨_,_,hK,OpOk.skip fun c a hev hM=>?_⟩
    obtain ⟨b,vs,e,hB,hh,hl,h1⟩:=cell_box hM hm
    have hv:=hev x
    rw [hx] at hv
    simp only [RepV] at hv
    obtain ⟨b',n,hB',he⟩:=hv
    rw [hB] at hB'
    cases hB'
    obtain ⟨hyl,hy1⟩:=(hev y).cellsOf hsc
    have hlen:(ev y).cells.length=(a.eval y).cells.size:=by rw [hyl.length]; simp
    have hcl:=hl.length
    have hrun:=run_store_row (P:=P) (t:=t) (v:=a.eval y) (off:=off) htok (by rw [htsz,hlen]) hh (by simp; omega) hy1
    obtain ⟨c',hw,hb,h2,h3⟩:=hM.upd (pr:=pr) id (.box (rep cs off (ev y).cells)) (.box b cs.length)
     (c.w.setRow b (vs.toArray.toList.take off++(a.eval y).cells.toList++vs.toArray.toList.drop (off+(a.eval y).cells.toList.length)).toArray) rfl rfl rfl (Nat.le_refl _) (by simp)
     (fun b' hb' hne=>setRow_other _ _ _ _ (fun e=>hne _ hB (by rw [e]; exact rfl)))
     (fun b' hb'=>.inl ⟨_,hB,hb'⟩) (by rw [hB]; exact BLe.refl _) (fun _ be0 h0=>by rw [hB] at h0; cases h0; exact .refl _)
     (fun c' hw hle hble=>by
      simp only [RepE]
      refine ⟨b,_,e,by rw [rep_length hoff],by rw [hw]; exact setRow_heap c.w b _ _ e _ hh,?_,?_⟩
      ·refine RepL.mono hle _ _ (fun id _=>hble id) ?_
       unfold rep
       rw [hyl.length]
       simp only [List.toList_toArray]
       exact ((hl.take off).append hyl).append (hl.drop _)
      ·intro v hv
       simp only [List.toList_toArray,List.mem_append] at hv
       rcases hv with (hv | hv) | hv
       ·exact h1 v (List.mem_of_mem_take hv)
       ·exact hy1 v (by simpa using hv)
       ·exact h1 v (List.mem_of_mem_drop hv))
    refine ⟨c',?_,h2,h3⟩
    rw [hw]
    simp [execOp,ho,he,hrun]
 case eptr id n i off =>
  cases hm:m id with
  | none=>simp [hm] at h
  | some le =>
   cases le with
   | map _ _ _=>simp [hm] at h
   | nest _ _ _ _=>simp [hm] at h
   | nesth _ _ _ _ _ _ _ _=>simp [hm] at h
   | dead=>simp [hm] at h
   | box cs=>simp [hm] at h
   | arr e k xs =>
    simp only [hm] at h
    obtain ⟨hn,hp,z,z',hz,hset,hK⟩:=h
    refine ⟨_,_,hK,OpOk.skip fun c a hev hM=>?_⟩
    obtain ⟨u,vs,hB,hk,hown,hl,hc,hpx⟩:=cell_arr hM hm
    have hv:=hev x
    rw [hx] at hv
    simp only [RepV] at hv
    obtain ⟨_,u',k',len,ins',hB',hle',hv⟩:=hv
    rw [hB] at hB'
    cases hB'
    obtain ⟨b,hb,he⟩:=hv hn
    obtain ⟨y',hy',hry⟩:=hl.get hz
    have hi:i<xs.length:=(List.getElem?_eq_some_iff.1 hz).1
    have hyk:y'.cells.size=k:=(hc y' (List.mem_of_getElem? hy')).1
    obtain ⟨hyl,hy1⟩:=(hev y).cellsOf hsc
    have hlen:(ev y).cells.length=(a.eval y).cells.size:=by rw [hyl.length]; simp
    obtain ⟨v',hv'r,hv'c,hfit0,hz'p⟩:∃ v',RepV c z' v'∧v'.cells.toList=y'.cells.toList.take off++(a.eval y).cells.toList++y'.cells.toList.drop (off+(a.eval y).cells.toList.length)∧off+(a.eval y).cells.size≤y'.cells.size∧z'.pure=true:=by
     unfold setEl at hset
     split at hset
     ·rename_i cs
      split at hset
      ·rename_i hcond
       cases hset
       simp only [RepV] at hry ⊢
       obtain ⟨zs,rfl,hzr⟩:=hry
       refine ⟨.agg (zs.take off++(a.eval y).cells.toList++zs.drop (off+(a.eval y).cells.toList.length)).toArray,⟨_,rfl,?_⟩,by simp [Value.cells],?_,?_⟩
       ·unfold rep
        rw [hyl.length]
        exact ((hzr.take off).append hyl).append (hzr.drop _)
       ·have h5:=hzr.length
        have h6:=hcond.1
        show off+(a.eval y).cells.size≤zs.toArray.size
        simp only [List.size_toArray]; omega
       ·have hpz:LV.pureL cs=true:=by have:=pureL_iff.1 hpx _ (List.mem_of_getElem? hz); simpa [LV.pure] using this
        simp only [LV.pure,rep]
        exact pureL_append (pureL_append (pureL_take hpz _) hp) (pureL_drop hpz _)
      ·cases hset
     ·split at hset
      ·rename_i hcond
       obtain ⟨rfl,hxs,hys⟩:=hcond
       cases hset
       have h1:=oneCell_of_scalar hxs (hev y)
       have h2:=oneCell_of_scalar hys hry
       refine ⟨a.eval y,hev y,?_,?_,?_⟩
       ·rw [vcells_of_oneCell h1,vcells_of_oneCell h2]; simp
       ·rw [vcells_of_oneCell h1,vcells_of_oneCell h2]; simp
       ·rw [cells_of_scalar hxs] at hp; simpa [LV.pureL] using hp
      ·cases hset
    obtain ⟨hlenx,hrow⟩:=hown
    rcases hrow with ⟨rfl,h0⟩ | ⟨g,cap,cur,rfl,hg0,hg,hnc,hcm,hcs,htk⟩
    ·omega
    ·simp only [Value.ownBlock,Option.some.injEq] at hb
     subst hb
     have hik:i * k+k≤xs.length * k:=by
      have:=Nat.mul_le_mul_right k (show i+1≤xs.length by omega)
      rw [Nat.add_mul,Nat.one_mul] at this; exact this
     have hck:xs.length * k≤cap * k:=Nat.mul_le_mul_right k hnc
     have hfit:i * k+off+(a.eval y).cells.size≤cur.size:=by omega
     have hrun:=run_store_row (P:=P) (t:=t) (v:=a.eval y) (off:=i * k+off) htok (by rw [htsz,hlen]) hg hfit hy1
     obtain ⟨f1,f2⟩:=flat_split (k:=k) (fun v hv=>(hc v hv).1) hy'
     have hvl:=hl.length
     have hivs:i<vs.length:=by omega
     have hnew:flat (vs.set i v')=(flat vs).take (i * k+off)++(a.eval y).cells.toList++(flat vs).drop (i * k+off+(a.eval y).cells.toList.length):=by
      have e1:vs.set i v'=vs.take i++v' :: vs.drop (i+1):=by rw [List.set_eq_take_append_cons_drop,if_pos hivs]
      rw [e1,flat_append,flat_cons,hv'c,f1,← f2]
      have e2:(a.eval y).cells.toList.length=(a.eval y).cells.size:=by simp
      have e3:y'.cells.toList.length=y'.cells.size:=by simp
      rw [List.take_length_add_append,Nat.add_assoc (flat (vs.take i)).length,List.drop_length_add_append,List.take_append_of_le_length (by omega),List.drop_append_of_le_length (by omega)]
      simp
     have hcur:(cur.toList.take (i * k+off)++(a.eval y).cells.toList++cur.toList.drop (i * k+off+(a.eval y).cells.toList.length)).take (xs.length * k)=flat (vs.set i v'):=by
      rw [hnew,← htk]
      have e2:(a.eval y).cells.toList.length=(a.eval y).cells.size:=by simp
      have e4:cur.toList.length=cur.size:=by simp
      apply List.ext_getElem?
      intro j
      simp only [List.getElem?_take,List.getElem?_append,List.length_append,List.length_take,List.getElem?_drop,e2,e4]
      repeat' split
      all_goals first | rfl | omega | (congr 1; omega) | skip
     obtain ⟨c',hw,hb',h2,h3⟩:=hM.upd (pr:=pr) id (.arr e k (xs.set i z')) (.arr (.slice (some ⟨g,0,.none⟩) xs.length cap) k xs.length [])
      (c.w.setRow g (cur.toList.take (i * k+off)++(a.eval y).cells.toList++cur.toList.drop (i * k+off+(a.eval y).cells.toList.length)).toArray) rfl rfl rfl (Nat.le_refl _) (by simp)
      (fun b' hb' hne=>setRow_other _ _ _ _ (fun e=>hne _ hB (.inl (by rw [e]; rfl))))
      (fun b' hb'=>.inl ⟨_,hB,hb'⟩) (by rw [hB]; exact BLe.refl _) (fun _ be0 h0=>by rw [hB] at h0; cases h0; exact .refl _)
      (fun c' hw hle hble=>by
       simp only [RepE,List.length_set]
       refine ⟨.slice (some ⟨g,0,.none⟩) xs.length cap,vs.set i v',rfl,hk,⟨?_,.inr ⟨g,cap,_,rfl,hg0,by rw [hw]; exact setRow_heap c.w g _ _ e _ hg,hnc,hcm,?_,?_⟩⟩,?_,?_,?_⟩
       ·rw [hnew]
        have e2:(a.eval y).cells.toList.length=(a.eval y).cells.size:=by simp
        simp only [List.length_append,List.length_take,List.length_drop,List.length_set,hlenx,e2]
        omega
       ·have e2:(a.eval y).cells.toList.length=(a.eval y).cells.size:=by simp
        simp only [List.size_toArray,List.length_append,List.length_take,List.length_drop,Array.length_toList]
        omega
       ·exact hcur
       ·refine RepL.mono hle _ _ (fun id _=>hble id) (RepL.of (by simpa using hvl) fun j x' w' hx' hw'=>?_)
        by_cases hj:j=i
        ·subst hj
         simp only [List.getElem?_set_self hi,Option.some.injEq] at hx'
         simp only [List.getElem?_set_self hivs,Option.some.injEq] at hw'
         subst hx'; subst hw'; exact hv'r
        ·rw [List.getElem?_set_ne (Ne.symm hj)] at hx' hw'
         obtain ⟨w'',hw'',hr''⟩:=hl.get hx'
         rw [hw'] at hw''; cases hw''; exact hr''
       ·intro v hv
        rcases List.mem_or_eq_of_mem_set hv with hv | hv
        ·exact hc v hv
        ·subst hv
         have hsz:v.cells.size=k:=by
          have:=congrArg List.length hv'c
          have e2:(a.eval y).cells.toList.length=(a.eval y).cells.size:=by simp
          simp only [List.length_append,List.length_take,List.length_drop,Array.length_toList] at this
          omega
         refine ⟨hsz,fun y0 hy0=>?_⟩
         have hy0':y0 ∈ v.cells.toList:=by simpa using hy0
         rw [hv'c] at hy0'
         simp only [List.mem_append] at hy0'
         rcases hy0' with (hq | hq) | hq
         ·exact (hc y' (List.mem_of_getElem? hy')).2 y0 (by simpa using List.mem_of_mem_take hq)
         ·exact hy1 y0 (by simpa using hq)
         ·exact (hc y' (List.mem_of_getElem? hy')).2 y0 (by simpa using List.mem_of_mem_drop hq)
       ·refine pureL_iff.2 fun x' hx'=>?_
        rcases List.mem_or_eq_of_mem_set hx' with hx' | hx'
        ·exact pureL_iff.1 hpx x' hx'
        ·subst hx'; exact hz'p)
     refine ⟨c',?_,h2,h3⟩
     rw [hw]
     simp [execOp,ho,he,hrun]

end ops
end Go.L
set_option linter.unusedVariables false
set_option linter.unusedSimpArgs false
namespace Go.L
section ops
variable {P:Program} {pr:Nat→Prop} {o:Oper} {ev:Operand→LV} {m m':Mem} {lv:LV} {K:LV→Mem→Prop}

theorem arr_now {c:Cx} {m:Mem} (hm:RepM c m) {id n e k:Nat} {xs:List LV} {v:Value} (hv:RepV c (.arr id n) v) (hid:m id=some (.arr e k xs)) (hn:n=xs.length) :
  ∃ vs,c.B id=some (.arr v k xs.length [])∧0<k∧c.w.ownsRow 0 e k v xs.length (flat vs)∧RepL c xs vs∧(∀ v ∈ vs,v.cells.size=k∧∀ y ∈ v.cells,y.oneCell'=true)∧LV.pureL xs=true:=by
 obtain ⟨u,vs,hB,hk,hown,hl,hc,hpx⟩:=cell_arr hm hid
 simp only [RepV] at hv
 obtain ⟨_,u',k',len,ins',hB',hle',hv⟩:=hv
 rw [hB] at hB'
 cases hB'
 have:=hv hn
 subst this
 exact ⟨vs,hB,hk,hown,hl,hc,hpx⟩

theorem ownsRow_len {w:World} {e k n:Nat} {v:Value} {vs:List Value} (h:w.ownsRow 0 e k v n vs):∃ a cap,v=.slice a n cap:=by
 rcases h.2 with ⟨rfl,rfl⟩ | ⟨g,cap,cur,rfl,_⟩
 ·exact ⟨_,_,rfl⟩
 ·exact ⟨_,_,rfl⟩

theorem sound_nilCheck {x:Operand} (ho:o.op=.nilCheck x) (h:LOp P pr [] o ev m K):∃ lv m',K lv m'∧OpOk P pr o ev m lv m':=by
 simp only [LOp,ho] at h
 cases hx:ev x <;> simp only [hx] at h
 case ptr id off =>
  refine ⟨_,_,h,OpOk.same fun c a hev hm=>?_⟩
  have hv:=hev x
  rw [hx] at hv
  have hv':=hv
  simp only [RepV] at hv'
  obtain ⟨b,n,_,he⟩:=hv'
  exact ⟨a.eval x,by simp [execOp,ho,he],hv⟩
 case sptr cs =>
  refine ⟨_,_,h,OpOk.same fun c a hev hm=>?_⟩
  have hv:=hev x
  rw [hx] at hv
  have hv':=hv
  simp only [RepV] at hv'
  obtain ⟨b,off,vs,he,_⟩:=hv'
  exact ⟨a.eval x,by simp [execOp,ho,he],hv⟩
 case eptr id n i off =>
  obtain ⟨hn,hK⟩:=h
  refine ⟨_,_,hK,OpOk.same fun c a hev hm=>?_⟩
  have hv:=hev x
  rw [hx] at hv
  cases hid:m id with
  | none=>simp [hid] at hn
  | some le =>
   cases le with
   | map _ _ _=>simp [hid] at hn
   | nest _ _ _ _=>simp [hid] at hn
   | nesth _ _ _ _ _ _ _ _=>simp [hid] at hn
   | dead=>simp [hid] at hn
   | box cs=>simp [hid] at hn
   | arr e k xs =>
    simp only [hid] at hn
    obtain ⟨u,vs,hB,_⟩:=cell_arr hm hid
    have hv':=hv
    simp only [RepV] at hv'
    obtain ⟨_,u',k',len,ins',hB',hle',hv'⟩:=hv'
    rw [hB] at hB'
    cases hB'
    obtain ⟨b,_,he⟩:=hv' hn
    exact ⟨a.eval x,by simp [execOp,ho,he],hv⟩
 case fn f cap =>
  refine ⟨_,_,h,OpOk.same fun c a hev hm=>?_⟩
  have hv:=hev x
  rw [hx] at hv
  have hv':=hv
  simp only [RepV] at hv'
  obtain ⟨vs,he,_⟩:=hv'
  exact ⟨a.eval x,by simp [execOp,ho,he],hv⟩

theorem exactL_rep {c:Cx}:∀ {xs:List LV} {vs us:List Value},exactL xs=some us→RepL c xs vs→vs=us
 | [],vs,us,h,hr=>by simp [exactL] at h; simp [RepL] at hr; rw [hr,h]
 | x :: xs,vs,us,h,hr=>by
  simp only [RepL] at hr
  obtain ⟨v,vs',rfl,hv,hr'⟩:=hr
  simp only [exactL] at h
  split at h
  ·rename_i v0 us' h1 h2
   cases h
   rw [exactL_rep h2 hr']
   cases x <;> simp [exact1] at h1 <;> simp only [RepV] at hv <;> subst h1 <;> subst hv <;> rfl
  ·cases h

theorem sound_binOp {op:BinOp} {t t':TypeId} {x y:Operand} (ho:o.op=.binOp op t x y t') (h:LOp P pr [] o ev m K):∃ lv m',K lv m'∧OpOk P pr o ev m lv m':=by
 simp only [LOp,ho] at h
 cases hx:ev x <;> simp only [hx] at h
 case int k a =>
  cases hy:ev y <;> simp only [hy] at h
  case int k' b =>
   obtain ⟨rfl,h⟩:=h
   have guard:∀ w,(eqGuard op t x y (.int k a) (.int k b)).run P w=.ok () w:=by
    intro w; unfold eqGuard; cases op <;> simp
   have key:∀ lv,(∀ w,(binOp op t (.int k a) (.int k b)).run P w=.ok lv w)→∀ l:LV,(∀ c,RepV c l lv)→OpOk P pr o ev m l m:=by
    intro lv hr l hl
    refine OpOk.same fun c ac hev hm=>?_
    have hvx:=hev x
    have hvy:=hev y
    rw [hx] at hvx
    rw [hy] at hvy
    simp only [RepV] at hvx hvy
    refine ⟨lv,?_,hl c⟩
    simp [execOp,ho,hvx,hvy,guard,hr]
   cases op <;> simp only [intBin] at h
   case add=>exact ⟨_,_,h,key (.int k (k.wrap (a+b))) (fun w=>by simp [binOp,Op.intArith]) _ (fun c=>by simp [RepV])⟩
   case sub=>exact ⟨_,_,h,key (.int k (k.wrap (a - b))) (fun w=>by simp [binOp,Op.intArith]) _ (fun c=>by simp [RepV])⟩
   case mul=>exact ⟨_,_,h,key (.int k (k.wrap (a * b))) (fun w=>by simp [binOp,Op.intArith]) _ (fun c=>by simp [RepV])⟩
   case quo=>exact ⟨_,_,h.2,key (.int k (k.wrap (a.tdiv b))) (fun w=>by simp [binOp,Op.intDiv,h.1]) _ (fun c=>by simp [RepV])⟩
   case rem=>exact ⟨_,_,h.2,key (.int k (a.tmod b)) (fun w=>by simp [binOp,Op.intDiv,h.1]) _ (fun c=>by simp [RepV])⟩
   case eql=>exact ⟨_,_,h,key (.bool (a == b)) (fun w=>by simp [binOp,Op.intCmp]) _ (fun c=>by simp [RepV])⟩
   case neq=>exact ⟨_,_,h,key (.bool (a != b)) (fun w=>by simp [binOp,Op.intCmp]) _ (fun c=>by simp [RepV])⟩
   case lss=>exact ⟨_,_,h,key (.bool (decide (a<b))) (fun w=>by simp [binOp,Op.intCmp]) _ (fun c=>by simp [RepV])⟩
   case leq=>exact ⟨_,_,h,key (.bool (decide (a≤b))) (fun w=>by simp [binOp,Op.intCmp]) _ (fun c=>by simp [RepV])⟩
   case gtr=>exact ⟨_,_,h,key (.bool (decide (a > b))) (fun w=>by simp [binOp,Op.intCmp]) _ (fun c=>by simp [RepV])⟩
   case geq=>exact ⟨_,_,h,key (.bool (decide (a ≥ b))) (fun w=>by simp [binOp,Op.intCmp]) _ (fun c=>by simp [RepV])⟩
 case bool a =>
  cases hy:ev y <;> simp only [hy] at h
  case bool b =>
   obtain ⟨ht,h⟩:=h
   have hu:P.underlying t=some .bool:=by
    unfold tbool at ht
    split at ht
    ·assumption
    ·cases ht
   have guard:∀ w,(eqGuard op t x y (.bool a) (.bool b)).run P w=.ok () w:=by
    intro w; unfold eqGuard; cases op <;> simp
   have key:∀ lv,(∀ w,(binOp op t (.bool a) (.bool b)).run P w=.ok lv w)→∀ l:LV,(∀ c,RepV c l lv)→OpOk P pr o ev m l m:=by
    intro lv hr l hl
    refine OpOk.same fun c ac hev hm=>?_
    have hvx:=hev x
    have hvy:=hev y
    rw [hx] at hvx
    rw [hy] at hvy
    simp only [RepV] at hvx hvy
    refine ⟨lv,?_,hl c⟩
    simp [execOp,ho,hvx,hvy,guard,hr]
   have heq:∀ w,(Op.equal t (.bool a) (.bool b)).run P w=.ok (a == b) w:=fun w=>run_equalIn_bool' w 9999 t a b hu
   cases op <;> simp only [] at h
   case eql=>exact ⟨_,_,h,key (.bool (a == b)) (fun w=>by simp [binOp,heq]) _ (fun c=>by simp [RepV])⟩
   case neq=>exact ⟨_,_,h,key (.bool (!(a == b))) (fun w=>by simp [binOp,heq]) _ (fun c=>by simp [RepV])⟩
 case agg xs =>
  cases hy:ev y <;> simp only [hy] at h
  case agg ys =>
   obtain ⟨b,⟨hgd,us,ws,hus,hws,heq⟩,h⟩:=h
   have guard:∀ w,(eqGuard op t x y (.agg us.toArray) (.agg ws.toArray)).run P w=.ok () w:=by
    intro w; unfold eqGuard; cases op <;> simp [hgd]
   have key:∀ lv,(∀ w,(binOp op t (.agg us.toArray) (.agg ws.toArray)).run P w=.ok lv w)→∀ l:LV,(∀ c,RepV c l lv)→OpOk P pr o ev m l m:=by
    intro lv hr l hl
    refine OpOk.same fun c ac hev hm=>?_
    have hvx:=hev x
    have hvy:=hev y
    rw [hx] at hvx
    rw [hy] at hvy
    simp only [RepV] at hvx hvy
    obtain ⟨vs1,hvx,hr1⟩:=hvx
    obtain ⟨vs2,hvy,hr2⟩:=hvy
    rw [exactL_rep hus hr1] at hvx
    rw [exactL_rep hws hr2] at hvy
    refine ⟨lv,?_,hl c⟩
    simp [execOp,ho,hvx,hvy,guard,hr]
   cases op <;> simp only [] at h
   case eql=>exact ⟨_,_,h,key (.bool b) (fun w=>by simp [binOp,heq]) _ (fun c=>by simp [RepV])⟩
   case neq=>exact ⟨_,_,h,key (.bool (!b)) (fun w=>by simp [binOp,heq]) _ (fun c=>by simp [RepV])⟩

theorem sound_unOp {op:UnOp} {t:TypeId} {x:Operand} (ho:o.op=.unOp op t x) (h:LOp P pr [] o ev m K):∃ lv m',K lv m'∧OpOk P pr o ev m lv m':=by
 simp only [LOp,ho] at h
 cases op <;> cases hx:ev x <;> simp only [hx] at h
 case neg.int k n =>
   refine ⟨_,_,h,OpOk.same fun c a hev hm=>?_⟩
   have hv:=hev x
   rw [hx] at hv
   simp only [RepV] at hv
   exact ⟨_,by simp [execOp,ho,hv,Op.unary,Op.intArith]; rfl,by simp [RepV]⟩
 case not.bool b =>
   refine ⟨_,_,h,OpOk.same fun c a hev hm=>?_⟩
   have hv:=hev x
   rw [hx] at hv
   simp only [RepV] at hv
   exact ⟨_,by simp [execOp,ho,hv,Op.unary]; rfl,by simp [RepV]⟩

theorem sound_convert {s t:TypeId} {x:Operand} (ho:o.op=.convert s t x) (h:LOp P pr [] o ev m K):∃ lv m',K lv m'∧OpOk P pr o ev m lv m':=by
 simp only [LOp,ho] at h
 obtain ⟨hs,h⟩:=h
 cases ht:tint P t <;> simp only [ht] at h
 case some k =>
  cases hx:ev x <;> simp only [hx] at h
  case int k' n =>
   refine ⟨_,_,h,OpOk.same fun c a hev hm=>?_⟩
   have hv:=hev x
   rw [hx] at hv
   simp only [RepV] at hv
   have hu:P.underlying t=some (.int k):=by
    unfold tint at ht
    split at ht
    ·cases ht; assumption
    ·cases ht
   unfold tok at hs
   cases hus:P.underlying s with
   | none=>simp [hus] at hs
   | some d =>
    refine ⟨.int k (k.wrap n),?_,by simp [RepV]⟩
    simp [execOp,ho,hv,convert,run_underlying hu,run_underlying hus,Conv.intToInt]

theorem sound_fieldAddr {t:TypeId} {x:Operand} {f:Nat} (ho:o.op=.fieldAddr t x f) (h:LOp P pr [] o ev m K):∃ lv m',K lv m'∧OpOk P pr o ev m lv m':=by
 simp only [LOp,ho] at h
 cases htf:tfield P t f <;> simp only [htf] at h
 case some q =>
  obtain ⟨off,ft⟩:=q
  simp only at h
  obtain ⟨hok,hsz,h⟩:=h
  obtain ⟨fs,fd,hu,hfd,rfl,rfl⟩:∃ fs fd,P.underlying t=some (.struct fs)∧fs[f]?=some fd∧fd.offset=off∧fd.type=ft:=by
   unfold tfield at htf
   split at htf
   ·rename_i fs hu
    cases hf:fs[f]? with
    | none=>simp [hf] at htf
    | some fd=>simp [hf] at htf; exact ⟨fs,fd,hu,hf,htf.1,htf.2⟩
   ·cases htf
  have hrun:∀ (w:World) (b q:Nat),(Instr.fieldAt t (.pointer (some ⟨b,q,.none⟩)) f).run P w=.ok (.pointer (some ⟨b,q+fd.offset,.none⟩)) w:=by
   intro w b q
   have hi:∃ i,P.info? fd.type=some i∧i.size ≠ 0:=by
    unfold tok at hok
    cases hi:P.info? fd.type with
    | none=>simp [hi] at hok
    | some i=>exact ⟨i,rfl,by simpa [tsize,hi] using hsz⟩
   obtain ⟨i,hi,hi0⟩:=hi
   simp [Instr.fieldAt,run_underlying hu,hfd,Instr.sureAddr,fieldPlace,sizeOf,typeInfo,hi,hi0,Addr.add_mid]
  cases hx:ev x <;> simp only [hx] at h
  case sptr cs =>
   refine ⟨_,_,h.2,OpOk.same fun c a hev hm=>?_⟩
   have hv:=hev x
   rw [hx] at hv
   simp only [RepV] at hv
   obtain ⟨b,q,vs,he,hb,hX,hl,h1,hra⟩:=hv
   refine ⟨_,by simp [execOp,ho,he,hrun]; rfl,?_⟩
   simp only [RepV]
   exact ⟨b,q+fd.offset,vs.drop fd.offset,rfl,hb,hX,hl.drop _,fun y hy=>h1 y (List.mem_of_mem_drop hy),rangeAt_drop hra _⟩
  case ptr id q =>
   refine ⟨_,_,h,OpOk.same fun c a hev hm=>?_⟩
   have hv:=hev x
   rw [hx] at hv
   simp only [RepV] at hv
   obtain ⟨b,n,hB,he⟩:=hv
   refine ⟨_,by simp [execOp,ho,he,hrun]; rfl,?_⟩
   simp only [RepV]
   exact ⟨b,n,hB,rfl⟩
  case eptr id n i q =>
   obtain ⟨hn,hK⟩:=h
   refine ⟨_,_,hK,OpOk.same fun c a hev hm=>?_⟩
   have hv:=hev x
   rw [hx] at hv
   cases hid:m id with
   | none=>simp [hid] at hn
   | some le =>
    cases le with
    | map _ _ _=>simp [hid] at hn
    | nest _ _ _ _=>simp [hid] at hn
    | nesth _ _ _ _ _ _ _ _=>simp [hid] at hn
    | dead=>simp [hid] at hn
    | box cs=>simp [hid] at hn
    | arr e k xs =>
     simp only [hid] at hn
     obtain ⟨u,vs,hB,_⟩:=cell_arr hm hid
     simp only [RepV] at hv
     obtain ⟨_,u',k',len,ins',hB',hle',hv⟩:=hv
     rw [hB] at hB'
     cases hB'
     obtain ⟨b,hb,he⟩:=hv hn
     refine ⟨_,by simp [execOp,ho,he,hrun]; rfl,?_⟩
     simp only [RepV]
     exact ⟨rfl,u,k,xs.length,_,hB,hle',fun _=>⟨b,hb,by rw [Nat.add_assoc]⟩⟩

theorem run_part {t:TypeId} {cs:List LV} {off:Nat} (h:loadC P t (cs.drop off) fun lv=>K lv m) (hoff:off≤cs.length) :
  ∃ lv,K lv m∧∀ (c:Cx) (vs:List Value),RepL c cs vs→∃ v,(part t vs.toArray off).run P c.w=.ok v c.w∧RepV c lv v:=by
 obtain ⟨ht,h⟩:=h
 unfold tok at ht
 cases hi:P.info? t with
 | none=>simp [hi] at ht
 | some i =>
  cases hu:P.underlying t with
  | none=>simp [hu] at ht
  | some d =>
   have hsz:tsize P t=i.size:=by simp [tsize,hi]
   by_cases hg:tagg P t=true
   ·rw [if_pos hg] at h
    refine ⟨_,h.2,fun c vs hl=>?_⟩
    have hagg:(isAgg t).run P c.w=.ok true c.w:=by
     unfold isAgg
     rw [Sem.run_bind,run_underlying hu c.w]
     simp only [tagg,hu] at hg
     cases d <;> simp_all
    refine ⟨.agg ((vs.drop off).take (tsize P t)).toArray,?_,?_⟩
    ·simp only [part,Sem.run_bind,hagg,Result.andThen_ok,if_true,sizeOf,typeInfo,run_program,hi,Sem.run_pure,hsz]
     congr 2
     simp [List.extract_eq_take_drop]
    ·simp only [RepV]
     exact ⟨_,rfl,(hl.drop off).take _⟩
   ·rw [if_neg hg] at h
    cases hcs:cs.drop off with
    | nil=>simp [hcs] at h
    | cons x r =>
     simp only [hcs] at h
     refine ⟨x,h,fun c vs hl=>?_⟩
     have hagg:(isAgg t).run P c.w=.ok false c.w:=by
      unfold isAgg
      rw [Sem.run_bind,run_underlying hu c.w]
      simp only [tagg,hu] at hg
      cases d <;> simp_all
     have hl':=hl.drop off
     rw [hcs] at hl'
     simp only [RepL] at hl'
     obtain ⟨v,vs',he,hv,_⟩:=hl'
     have hget:vs[off]?=some v:=by
      have:=congrArg (fun l=>l[0]?) he
      simpa using this
     exact ⟨v,by simp [part,hagg,hget],hv⟩

theorem sound_field {t:TypeId} {x:Operand} {f:Nat} (ho:o.op=.field t x f) (h:LOp P pr [] o ev m K):∃ lv m',K lv m'∧OpOk P pr o ev m lv m':=by
 simp only [LOp,ho] at h
 cases htf:tfield P t f <;> simp only [htf] at h
 case some q =>
  obtain ⟨off,ft⟩:=q
  cases hx:ev x <;> simp only [hx] at h
  case agg cs =>
   obtain ⟨lv,hK,hr⟩:=run_part h.2 h.1
   refine ⟨lv,m,hK,OpOk.same fun c a hev hm=>?_⟩
   obtain ⟨fs,fd,hu,hfd,rfl,rfl⟩:∃ fs fd,P.underlying t=some (.struct fs)∧fs[f]?=some fd∧fd.offset=off∧fd.type=ft:=by
    unfold tfield at htf
    split at htf
    ·rename_i fs hu
     cases hf:fs[f]? with
     | none=>simp [hf] at htf
     | some fd=>simp [hf] at htf; exact ⟨fs,fd,hu,hf,htf.1,htf.2⟩
    ·cases htf
   have hv:=hev x
   rw [hx] at hv
   simp only [RepV] at hv
   obtain ⟨vs,he,hl⟩:=hv
   obtain ⟨v,hr1,hr2⟩:=hr c vs hl
   exact ⟨v,by simp [execOp,ho,he,Instr.field,run_underlying hu,hfd,asAgg,hr1],hr2⟩

theorem sound_extract {t:Operand} {i:Nat} (ho:o.op=.extract t i) (h:LOp P pr [] o ev m K):∃ lv m',K lv m'∧OpOk P pr o ev m lv m':=by
 simp only [LOp,ho] at h
 cases hx:ev t <;> simp only [hx] at h
 case tup vs =>
  obtain ⟨x,hx',hK⟩:=h
  refine ⟨_,_,hK,OpOk.same fun c a hev hm=>?_⟩
  have hv:=hev t
  rw [hx] at hv
  simp only [RepV] at hv
  obtain ⟨us,he,hl⟩:=hv
  obtain ⟨v,hv1,hv2⟩:=hl.get hx'
  exact ⟨v,by simp [execOp,ho,he,Instr.extract,hv1],hv2⟩

theorem repL_map {c:Cx} {ev:Operand→LV} {a:Act} (hev:∀ x,RepV c (ev x) (a.eval x)):∀ (xs:List Operand),RepL c (xs.map ev) (xs.map a.eval)
 | []=>by simp [RepL]
 | x :: xs=>by simp only [List.map_cons,RepL]; exact ⟨_,_,rfl,hev x,repL_map hev xs⟩

theorem sound_makeFunc {f:Fn} {first cap:Array Operand} (ho:o.op=.makeFunc f first cap) (h:LOp P pr [] o ev m K):∃ lv m',K lv m'∧OpOk P pr o ev m lv m':=by
 simp only [LOp,ho] at h
 cases f <;> simp only [] at h
 case func f =>
  obtain ⟨rfl,hK⟩:=h
  refine ⟨_,_,hK,OpOk.same fun c a hev hm=>?_⟩
  refine ⟨.func (.func f) #[] (cap.toList.map a.eval).toArray,by simp [execOp,ho,Instr.makeFunc]; rw [← Array.toList_map,Array.toArray_toList],?_⟩
  simp only [RepV]
  exact ⟨_,rfl,repL_map hev _⟩

theorem sound_indexAddr {t:TypeId} {x i:Operand} (ho:o.op=.indexAddr t x i) (h:LOp P pr [] o ev m K):∃ lv m',K lv m'∧OpOk P pr o ev m lv m':=by
 simp only [LOp,ho] at h
 cases hte:telem P t <;> simp only [hte] at h
 case some e =>
  have hu:P.underlying t=some (.slice e):=by
   unfold telem at hte
   split at hte
   ·cases hte; assumption
   ·cases hte
  cases hx:ev x <;> simp only [hx] at h
  case lst k xs =>
   cases hi:ev i <;> simp only [hi] at h
   case int ki n =>
    obtain ⟨hok,hk,h0,y,hy,hys,hK⟩:=h
    refine ⟨_,_,hK,OpOk.same fun c a hev hm=>?_⟩
    have hvi:=hev i
    rw [hi] at hvi
    simp only [RepV] at hvi
    have hv:=hev x
    rw [hx] at hv
    simp only [RepV] at hv
    obtain ⟨ad,cap,he,hcap,hn,hp,hr⟩:=hv
    have hlt:n.toNat<xs.length:=(List.getElem?_eq_some_iff.1 hy).1
    rcases hr with rfl | ⟨b,off,vs,rfl,hb,hX,hl,hc,hra⟩
    ·simp at hlt
    ·obtain ⟨u,hu1,hu2⟩:=hl.get hy
     obtain ⟨f1,f2⟩:=flat_split (k:=k) (fun v hv=>(hc v hv).1) hu1
     rw [f1] at hra
     have hra':=rangeAt_part hra
     rw [f2] at hra'
     obtain ⟨hul,hu1'⟩:=hu2.cellsOf hys
     refine ⟨.pointer (some ⟨b,off+n.toNat * k,.none⟩),?_,?_⟩
     ·unfold tok at hok
      cases hie:P.info? e with
      | none=>simp [hie] at hok
      | some ie =>
       have hks:k=ie.size:=by rw [hk]; simp [tsize,hie]
       have hlt':n<(xs.length:Int):=by omega
       simp [execOp,ho,he,hvi,Instr.indexAt,asIntOf,run_underlying hu,h0,hlt',sizeOf,typeInfo,hie,Addr.add_mid,hks]
     ·simp only [RepV]
      exact ⟨b,_,u.cells.toList,rfl,hb,hX,hul,fun y hy=>hu1' y (by simpa using hy),hra'⟩
  case arr id l =>
   cases hi:ev i <;> simp only [hi] at h
   case int ki n =>
    cases hid:m id with
    | none=>simp [hid] at h
    | some le =>
     cases le with
     | map _ _ _=>simp [hid] at h
     | nest _ _ _ _=>simp [hid] at h
     | nesth _ _ _ _ _ _ _ _=>simp [hid] at h
     | dead=>simp [hid] at h
     | box cs=>simp [hid] at h
     | arr e' k xs =>
      simp only [hid] at h
      obtain ⟨hok,hl',hk,h0,hlt,hK⟩:=h
      refine ⟨_,_,hK,OpOk.same fun c a hev hm=>?_⟩
      have hvi:=hev i
      rw [hi] at hvi
      simp only [RepV] at hvi
      have hv:=hev x
      rw [hx] at hv
      obtain ⟨vs,hB,hk0,hown,hl,hc,hp⟩:=arr_now hm hv hid hl'
      rcases hown.2 with ⟨_,h00⟩ | ⟨g,cap,cur,hvv,_⟩
      ·omega
      ·refine ⟨.pointer (some ⟨g,n.toNat * k,.none⟩),?_,?_⟩
       ·unfold tok at hok
        cases hie:P.info? e with
        | none=>simp [hie] at hok
        | some ie =>
         have hks:k=ie.size:=by rw [hk]; simp [tsize,hie]
         have hlt':n<(xs.length:Int):=by omega
         simp [execOp,ho,hvv,hvi,Instr.indexAt,asIntOf,run_underlying hu,h0,hlt',sizeOf,typeInfo,hie,Addr.add_mid,hks]
       ·simp only [RepV]
        exact ⟨rfl,_,k,xs.length,_,hB,by omega,fun _=>⟨g,by rw [hvv]; rfl,by simp⟩⟩
end ops
end Go.L
set_option linter.unusedVariables false
set_option linter.unusedSimpArgs false
namespace Go.L
section ops
variable {P:Program} {pr:Nat→Prop} {o:Oper} {ev:Operand→LV} {m m':Mem} {lv:LV} {K:LV→Mem→Prop}

theorem elem_of {t e:TypeId} (h:telem P t=some e):P.underlying t=some (.slice e):=by
 unfold telem at h
 split at h
 ·cases h; assumption
 ·cases h

theorem sound_slice {t:TypeId} {x:Operand} {lo hi mx:Option Operand} (ho:o.op=.slice t x lo hi mx) (h:LOp P pr [] o ev m K):∃ lv m',K lv m'∧OpOk P pr o ev m lv m':=by
 simp only [LOp,ho] at h
 obtain ⟨hte,htk,rfl,h⟩:=h
 obtain ⟨e,hte⟩:=Option.isSome_iff_exists.1 hte
 have hu:=elem_of hte
 have hinfo:∃ ie,P.info? e=some ie:=by
  simp only [hte,Option.getD_some] at htk
  unfold tok at htk
  cases hi:P.info? e with
  | none=>simp [hi] at htk
  | some ie=>exact ⟨ie,rfl⟩
 cases hx:ev x <;> simp only [hx] at h
 case nil =>
  obtain ⟨hlo,hhi,hK⟩:=h
  refine ⟨_,_,hK,OpOk.same fun c a hev hm=>?_⟩
  have hv:=hev x
  rw [hx] at hv
  simp only [RepV] at hv
  refine ⟨.slice .none 0 0,?_,by simp [RepV]⟩
  have h1:∀ y,lo=some y→a.eval y=.int .i64 0:=fun y hy=>by
   subst hy; simp only at hlo; have:=hev y; rw [hlo] at this; simpa only [RepV] using this
  have h2:∀ y,hi=some y→a.eval y=.int .i64 0:=fun y hy=>by
   subst hy; simp only at hhi; have:=hev y; rw [hhi] at this; simpa only [RepV] using this
  obtain ⟨ie,hie⟩:=hinfo
  cases lo <;> cases hi <;> simp_all [execOp,Instr.sliceAt,run_underlying hu,Instr.slice,Instr.sliceBounds,Instr.sliceBound,asIntOf,sizeOf,typeInfo]
 case lst k xs =>
  obtain ⟨hk,l,h',hlo,hhi,hlh,hhx,hK⟩:=h
  refine ⟨_,_,hK,OpOk.same fun c a hev hm=>?_⟩
  have hv:=hev x
  rw [hx] at hv
  simp only [RepV] at hv
  obtain ⟨ad,cap,he,hcap,hn,hp,hr⟩:=hv
  have h1:∀ y,lo=some y→a.eval y=.int .i64 l:=fun y hy=>by
   subst hy; simp only at hlo; have:=hev y; rw [hlo] at this; simpa only [RepV] using this
  have h2:∀ y,hi=some y→a.eval y=.int .i64 h':=fun y hy=>by
   subst hy; simp only at hhi; have:=hev y; rw [hhi] at this; simpa only [RepV] using this
  obtain ⟨ie,hie⟩:=hinfo
  have hks:k=ie.size:=by simpa [hte,tsize,hie] using hk
  have hrun:(execOp a.eval o).run P c.w=.ok (.value (.slice (if cap=l then ad else ad.map (·.add (l * ie.size))) (h' - l) (cap - l))) c.w:=by
   have g1:(Instr.sliceBounds true xs.length cap (lo.map a.eval) (hi.map a.eval) .none).run P c.w=.ok (l,h',cap) c.w:=by
    have b2:(h':Int)≤cap:=by omega
    have b1:(l:Int)≤h':=by omega
    cases lo <;> cases hi <;> simp_all [Instr.sliceBounds,Instr.sliceBound,asIntOf]
   simp [execOp,ho,he,Instr.sliceAt,run_underlying hu,Instr.slice,g1,sizeOf,typeInfo,hie]
  refine ⟨_,hrun,?_⟩
  simp only [RepV]
  have hlen:((xs.take h').drop l).length=h' - l:=by simp; omega
  refine ⟨_,cap - l,by rw [hlen],by rw [hlen]; omega,fun h0=>?_,pureL_drop (pureL_take hp _) _,?_⟩
  ·have:ad=.none:=by
    split at h0
    ·exact h0
    ·simpa using h0
   have:=hn this; omega
  ·by_cases hem:(xs.take h').drop l=[]
   ·exact .inl hem
   ·right
    have hpos:0<h' - l:=by rw [← hlen]; exact List.length_pos_iff.2 hem
    rcases hr with rfl | ⟨b,off,vs,rfl,hb,hX,hl,hc,hra⟩
    ·simp at hem
    ·refine ⟨b,off+l * k,(vs.take h').drop l,?_,hb,hX,(hl.take h').drop l,fun u hu=>hc u (List.mem_of_mem_take (List.mem_of_mem_drop hu)),?_⟩
     ·rw [if_neg (by omega)]; simp [Addr.add_mid,hks]
     ·have e1:vs=vs.take l++((vs.take h').drop l++vs.drop h'):=by
       rw [← List.append_assoc]
       have:vs.take l=(vs.take h').take l:=by rw [List.take_take,Nat.min_eq_left hlh]
       rw [this,List.take_append_drop,List.take_append_drop]
      rw [e1,flat_append,flat_append] at hra
      have:=rangeAt_part hra
      rwa [flat_length (k:=k) (fun v hv=>(hc v (List.mem_of_mem_take hv)).1),List.length_take,Nat.min_eq_left (by have:=hl.length; omega)] at this

theorem sound_len {c0:Call} (ho:o.op=.call c0) (hc:c0.callee=.builtin .len) (h:LOp P pr [] o ev m K):∃ lv m',K lv m'∧OpOk P pr o ev m lv m':=by
 obtain ⟨cl,args,tys⟩:=c0
 simp only at hc
 subst hc
 simp only [LOp,ho] at h
 split at h
 ·rename_i x t hargs htys
  obtain rfl:args=#[x]:=by apply Array.ext'; simpa using hargs
  obtain rfl:tys=#[t]:=by apply Array.ext'; simpa using htys
  obtain ⟨hte,h⟩:=h
  obtain ⟨e,hte⟩:=Option.isSome_iff_exists.1 hte
  have hu:=elem_of hte
  have run:∀ (a:Act) (w:World) ad n cap,a.eval x=.slice ad n cap→(execOp a.eval o).run P w=.ok (.value (.int .i64 n)) w:=by
   intro a w ad n cap he
   simp [execOp,ho,resolve,invoke,builtin,Builtin.len_,he,run_underlying hu,goInt]
  cases hx:ev x <;> simp only [hx] at h
  case nil =>
   refine ⟨_,_,h,OpOk.same fun c a hev hm=>?_⟩
   have hv:=hev x
   rw [hx] at hv
   simp only [RepV] at hv
   exact ⟨_,run a c.w _ _ _ hv,by simp [RepV]⟩
  case lst k xs =>
   refine ⟨_,_,h,OpOk.same fun c a hev hm=>?_⟩
   have hv:=hev x
   rw [hx] at hv
   simp only [RepV] at hv
   obtain ⟨ad,cap,he,_⟩:=hv
   exact ⟨_,run a c.w _ _ _ he,by simp [RepV]⟩
  case arr id n =>
   obtain ⟨hn,hK⟩:=h
   refine ⟨_,_,hK,OpOk.same fun c a hev hm=>?_⟩
   have hv:=hev x
   rw [hx] at hv
   cases hid:m id with
   | none=>simp [hid] at hn
   | some le =>
    cases le with
    | map _ _ _=>simp [hid] at hn
    | nest _ _ _ _=>simp [hid] at hn
    | nesth _ _ _ _ _ _ _ _=>simp [hid] at hn
    | dead=>simp [hid] at hn
    | box cs=>simp [hid] at hn
    | arr e' k xs =>
     simp only [hid] at hn
     obtain ⟨vs,hB,hk0,hown,hl,hc,hp⟩:=arr_now hm hv hid hn
     obtain ⟨ad,cap,he⟩:=ownsRow_len hown
     exact ⟨_,run a c.w _ _ _ he,by simp [RepV,hn]⟩
 ·cases h

theorem sound_call {c0:Call} {x:Operand} (ho:o.op=.call c0) (hc:c0.callee=.value x) (h:LOp P pr [] o ev m K):∃ lv m',K lv m'∧OpOk P pr o ev m lv m':=by
 obtain ⟨cl,args,tys⟩:=c0
 simp only at hc
 subst hc
 simp only [LOp,ho] at h
 cases hx:ev x <;> simp only [hx] at h
 case fn f cap =>
  obtain ⟨⟨fn,hf,hname,hbody⟩,lv,mc,mc',hcall,h1,h2,h3,h4,hK⟩:=h
  refine ⟨lv,_,hK,fun c a Q hev hm=>?_⟩
  have hv:=hev x
  rw [hx] at hv
  simp only [RepV] at hv
  obtain ⟨us,he,hl⟩:=hv
  have hrun:(execOp a.eval o).run P c.w=.ok (.enter f ((args.toList.map a.eval)++us).toArray) c.w:=by
   have e1:Array.map a.eval args++us.toArray=((args.toList.map a.eval)++us).toArray:=by
    apply Array.ext'; simp
   have hname' : ¬ fn.name = "runtime.NumGoroutine" := by simpa using hname
   have hbody':¬ fn.body=.none:=fun hn=>by rw [hn] at hbody; cases hbody
   simp [execOp,ho,resolve,Deferred.ofValue,he,invoke,callFunc,hf,hname',hbody',e1]
  unfold Oper.wp
  rw [hrun]
  simp only [Oper.upon]
  refine (hcall.frame (m:=m) h1 h2 h3 h4 pr c _ hm ((repL_map hev _).append hl)).mono ?_
  rintro en w' ⟨v,c',rfl,rfl,hm',hv',hs⟩
  exact ⟨v,c',rfl,rfl,hv',hm',hs⟩
end ops
end Go.L
set_option linter.unusedVariables false
set_option linter.unusedSimpArgs false
namespace Go.L
section ops
variable {P:Program} {pr:Nat→Prop} {o:Oper} {ev:Operand→LV} {m m':Mem} {lv:LV} {K:LV→Mem→Prop}

theorem row_of {e:TypeId} (h:trow P e=true):∃ i z,P.info? e=some i∧i.zero=some z∧z.cells.size=i.size∧(∀ v ∈ z.cells,v.oneCell'=true)∧0<i.size∧i.bytes≤256∧tsize P e=i.size:=by
 unfold trow at h
 split at h
 ·rename_i i hi
  split at h
  ·rename_i z hz
   simp only [Bool.and_eq_true,decide_eq_true_eq,beq_iff_eq] at h
   exact ⟨i,z,hi,hz,h.1.1.1,fun v hv=>(Array.all_eq_true_iff_forall_mem.1 h.1.1.2) v hv,h.1.2,h.2,by simp [tsize,hi]⟩
  ·simp at h
 ·cases h

theorem src_of {c:Cx} {y:LV} {ys:List LV} {k:Nat} {v:Value} (hy:y=.lst k ys ∨ (y=.nil∧ys=[])) (hv:RepV c y v) :
  (ys=[]∧v=.slice .none 0 0) ∨ ∃ ad cap us,v=.slice (some ad) ys.length cap∧RepL c ys us∧(∀ u ∈ us,u.cells.size=k∧∀ y ∈ u.cells,y.oneCell'=true)∧LV.pureL ys=true∧∀ j u,(flat us)[j]?=some u→c.w.cell? (ad.add j)=some u:=by
 rcases hy with rfl | ⟨rfl,rfl⟩
 ·simp only [RepV] at hv
  obtain ⟨a,cap,rfl,hcap,hn,hp,hr⟩:=hv
  rcases hr with rfl | ⟨b,off,vs,rfl,hb,hX,hl,hc,hra⟩
  ·cases a with
   | none=>left; have:=hn rfl; subst this; exact ⟨rfl,rfl⟩
   | some ad=>right; exact ⟨ad,cap,[],rfl,by simp [RepL],by simp,by simp [LV.pureL],by simp [flat]⟩
  ·right
   exact ⟨_,cap,vs,rfl,hl,hc,hp,fun j u hu=>by rw [Addr.add_mid]; exact hra j u hu⟩
 ·simp only [RepV] at hv
  exact .inl ⟨rfl,hv⟩

theorem run_append_blk {w:World} {t ty e:TypeId} {i:TypeInfo} {z:Value} (ht:P.underlying t=some (.slice e)) (hi:P.info? e=some i) (hz:i.zero=some z) (hzs:z.cells.size=i.size) (hsz:0<i.size) (hby:i.bytes≤256)
  {v:Value} {n:Nat} {xs:List Value} (hown:w.ownsRow 0 e i.size v n xs) {a:Addr} {q cap:Nat} {news:List Value} (hl:news.length=q * i.size) (hnews:∀ j u,news[j]?=some u→w.cell? (a.add j)=some u) (h1:∀ u ∈ news,u.oneCell'=true)
  (hb:n+q≤549755813888) :
  ∃ v' w',(Builtin.append_ #[t,t] ty #[v,.slice (some a) q cap]).run P w=.ok v' w'∧w'.ownsRow 0 e i.size v' (n+q) (xs++news)∧w.grownBy w' v.ownBlock∧(∀ b,v'.ownBlock=some b→v.ownBlock=some b ∨ w.heap.size≤b)∧(q=0→v'=v)∧w.drawn≤w'.drawn:=by
 have hmul:(n+q) * i.bytes≤140737488355328:=by
  have:=Nat.mul_le_mul hb hby
  omega
 have h63:n+q≤maxLen:=by simp only [maxLen]; omega
 obtain ⟨v',w',hr,h2,h3,h4⟩:=run_append_own (P:=P) w 0 t ty e i z i.size i.bytes ht hi hz rfl rfl hzs hsz v n xs hown a q cap news hl hnews h1 h63 hmul (Nat.zero_le _)
 refine ⟨v',w',hr,h2,h3,?_⟩
 rcases hown.2 with ⟨rfl,rfl⟩ | ⟨g,cap',cur,rfl,hbg,hg,hnc,hcm,hcs,htake⟩
 ·by_cases hq:q=0
  ·have hv':v'=.slice .none 0 0:=h4.2 ⟨rfl,hq⟩
   subst hv'
   subst hq
   have hn:news=[]:=List.eq_nil_of_length_eq_zero (by simpa using hl)
   have hr3:(Builtin.append_ #[t,t] ty #[.slice .none 0 0,.slice (some a) 0 cap]).run P w=.ok (.slice .none 0 0) w:=by
    simp [Builtin.append_,run_underlying ht,sizeOf,typeInfo,hi,Builtin.lenOf,Builtin.firstCells,loadCells,loadCellsFrom]
   rw [hr] at hr3
   cases hr3
   exact ⟨fun b hb=>by simp [Value.ownBlock] at hb,fun _=>rfl,Nat.le_refl _⟩
  ·have hr2:=run_append_nil (P:=P) w t ty e i z ht hi hz a q cap news hl hnews (by omega) (by omega) (by have hb':=hmul; simp only [Nat.zero_add] at hb'; omega)
   rw [hr] at hr2
   cases hr2
   exact ⟨fun b hb=>by simp [Value.ownBlock] at hb; exact .inr (by omega),fun h=>absurd h hq,by simp⟩
 ·by_cases hroom:n+q≤cap'
  ·have hfit:n * i.size+news.length≤cur.size:=by rw [hl,hcs,← Nat.add_mul]; exact Nat.mul_le_mul_right _ hroom
   have hr2:=run_append_room (P:=P) w t ty e i ht hi g n cap' cur hg a q cap news hl hnews h1 hroom hfit
   rw [hr] at hr2
   cases hr2
   exact ⟨fun b hb=>.inl (by simpa [Value.ownBlock] using hb),(fun h=>by subst h; rfl),Nat.le_refl _⟩
  ·have holds:∀ j u,xs[j]?=some u→w.cell? ((⟨g,0,.none⟩:Addr).add j)=some u:=hown.cells (g:=g) rfl
   have hr2:=run_append_grow (P:=P) w t ty e i z ht hi hz ⟨g,0,.none⟩ n cap' xs hown.1 holds a q cap news hl hnews (by omega) (by simp only [maxLen] at h63; omega) (growslice_fits (by omega) hmul)
   rw [hr] at hr2
   cases hr2
   exact ⟨fun b hb=>by simp [Value.ownBlock] at hb; exact .inr (by omega),(fun h=>by omega),by simp⟩

theorem sound_append {c0:Call} (ho:o.op=.call c0) (hc:c0.callee=.builtin .append) (h:LOp P pr [] o ev m K):∃ lv m',K lv m'∧OpOk P pr o ev m lv m':=by
 obtain ⟨cl,args,tys⟩:=c0
 simp only at hc
 subst hc
 simp only [LOp,ho] at h
 split at h
 ·rename_i x y t t' hargs htys
  obtain rfl:args=#[x,y]:=by apply Array.ext'; simpa using hargs
  obtain rfl:tys=#[t,t']:=by apply Array.ext'; simpa using htys
  obtain ⟨rfl,h⟩:=h
  cases hte:telem P t <;> simp only [hte] at h
  case some e =>
   have hu:=elem_of hte
   obtain ⟨hrow,ys,hy,h⟩:=h
   obtain ⟨i,z,hi,hz,hzs,hz1,hsz,hby,hts⟩:=row_of hrow
   have hexec:∀ (a:Act) (w:World),(execOp a.eval o).run P w=((Builtin.append_ #[t,t] o.type #[a.eval x,a.eval y]).run P w).andThen fun v w'=>.ok (.value v) w':=by
    intro a w
    simp [execOp,ho,resolve,invoke,builtin]
   have main:∀ (c:Cx) (a:Act),(∀ x,RepV c (ev x) (a.eval x))→RepM c m→∀ (u:Value) (n:Nat) (xs:List LV) (vs:List Value),a.eval x=u→c.w.ownsRow 0 e i.size u n (flat vs)→n=xs.length→RepL c xs vs→(∀ v ∈ vs,v.cells.size=i.size∧∀ y ∈ v.cells,y.oneCell'=true)→LV.pureL xs=true→n+ys.length≤549755813888 →
     ∃ v' w',(execOp a.eval o).run P c.w=.ok (.value v') w'∧(∃ us,w'.ownsRow 0 e i.size v' (n+ys.length) (flat (vs++us))∧RepL c (xs++ys) (vs++us)∧(∀ v ∈ vs++us,v.cells.size=i.size∧∀ y ∈ v.cells,y.oneCell'=true)∧LV.pureL (xs++ys)=true) ∧
      c.w.grownBy w' u.ownBlock∧(∀ b,v'.ownBlock=some b→u.ownBlock=some b ∨ c.w.heap.size≤b)∧(ys.length=0→v'=u)∧c.w.drawn≤w'.drawn:=by
    intro c a hev hm u n xs vs hx hown hn hl hc hp hb
    rcases src_of (k:=tsize P e) hy (hev y) with ⟨rfl,hv⟩ | ⟨ad,cap,us,hv,hlu,hcu,hpu,hra⟩
    ·refine ⟨u,c.w,?_,⟨[],by simpa using hown,by simpa using hl,by simpa using hc,by simpa using hp⟩,⟨rfl,rfl,rfl,Nat.le_refl _,fun _ _ _=>rfl⟩,fun b hb=>.inl hb,fun _=>rfl,Nat.le_refl _⟩
     rw [hexec,hx,hv,run_append_owned_none (P:=P) (w:=c.w) 0 t o.type e i i.size hu hi u n _ hown]
     rfl
    ·have hlu':=hlu.length
     rw [hts] at hcu
     have hfl:(flat us).length=ys.length * i.size:=by rw [flat_length (k:=i.size) (fun v hv=>(hcu v hv).1),hlu']
     obtain ⟨v',w',hr,h2,h3,h4,h5,h6⟩:=run_append_blk (P:=P) (ty:=o.type) hu hi hz hzs hsz hby hown (cap:=cap) hfl hra (fun q hq=>by
      simp only [flat,List.mem_flatMap] at hq
      obtain ⟨v,hv,hq⟩:=hq
      exact (hcu v hv).2 q (by simpa using hq)) hb
     refine ⟨v',w',?_,⟨us,by rw [flat_append]; exact h2,hl.append hlu,fun v hv=>(List.mem_append.1 hv).elim (hc v) (hcu v),pureL_append hp hpu⟩,h3,h4,h5,h6⟩
     rw [hexec,hx,hv,hr]
     rfl
   cases hx:ev x <;> simp only [hx] at h
   case arr id n =>
    obtain ⟨hnp,h⟩:=h
    cases hid:m id with
    | none=>simp [hid] at h
    | some le =>
     cases le with
     | map _ _ _=>simp [hid] at h
     | nest _ _ _ _=>simp [hid] at h
     | nesth _ _ _ _ _ _ _ _=>simp [hid] at h
     | dead=>simp [hid] at h
     | box cs=>simp [hid] at h
     | arr e' k xs =>
      simp only [hid] at h
      obtain ⟨rfl,hk,hn,hb,hK⟩:=h
      refine ⟨_,_,hK,OpOk.value fun c a hev hm=>?_⟩
      have hv:=hev x
      rw [hx] at hv
      obtain ⟨vs,hB,hk0,hown,hl,hc,hp⟩:=arr_now hm hv hid hn
      have hki:k=i.size:=by rw [hk,hts]
      subst hki
      obtain ⟨v',w',hr,⟨us,q1,q2,q3,q4⟩,q5,q6,q7,q8⟩:=main c a hev hm _ _ xs vs rfl hown rfl hl hc hp hb
      obtain ⟨c',hw,hb',h2,h3⟩:=hm.upd (pr:=pr) id (.arr e' i.size (xs++ys)) (.arr v' i.size (xs.length+ys.length) []) w' q5.os q5.tape q5.output q8 q5.size
       (fun b hb' hne=>q5.block b hb' (fun hh=>hne _ hB (.inl hh.symm)))
       (fun b hb'=>hb'.elim (fun hb'=>(q6 b hb').imp (fun hh=>⟨_,hB,.inl hh⟩) (fun hh=>hh)) (fun hh=>by cases hh))
       (by rw [hB]; exact ⟨_,_,_,rfl,by omega,fun hh=>q7 (by omega)⟩) (fun hpr=>absurd hpr hnp)
       (fun c' hw hle hble=>by
        simp only [RepE,List.length_append]
        exact ⟨v',vs++us,rfl,hk0,by rw [hw]; exact q1,RepL.mono hle _ _ (fun id _=>hble id) q2,q3,q4⟩)
      refine ⟨v',c',by rw [hw]; exact hr,?_,h2,h3⟩
      simp only [RepV]
      refine ⟨?_,v',_,_,_,hb',by omega,fun _=>rfl⟩
      obtain ⟨ad,cp,he⟩:=ownsRow_len q1
      rw [he]; rfl
   case nil =>
    cases hd:o.dst <;> simp only [hd] at h
    case some d =>
     obtain ⟨hid,hb,hK⟩:=h
     refine ⟨_,_,hK,OpOk.value fun c a hev hm=>?_⟩
     have hv:=hev x
     rw [hx] at hv
     simp only [RepV] at hv
     have hB:=hm.fresh hid
     obtain ⟨v',w',hr,⟨us,q1,q2,q3,q4⟩,q5,q6,q7,q8⟩:=main c a hev hm _ 0 [] [] hv (World.ownsRow_nil c.w 0 e i.size) rfl (by simp [RepL]) (by simp) (by simp [LV.pureL]) (by omega)
     simp only [Nat.zero_add,List.nil_append] at q1 q2 q3 q4
     obtain ⟨c',hw,hb',h2,h3⟩:=hm.upd (pr:=pr) (100+d) (.arr e (tsize P e) ys) (.arr v' (tsize P e) ys.length []) w' q5.os q5.tape q5.output q8 q5.size
      (fun b hb' _=>q5.block b hb' (fun hh=>by simp [Value.ownBlock] at hh))
      (fun b hb'=>hb'.elim (fun hb'=>(q6 b hb').elim (fun hh=>by simp [Value.ownBlock] at hh) .inr) (fun hh=>by cases hh))
      (by rw [hB]; trivial) (fun _ be0 h0=>by rw [hB] at h0; cases h0)
      (fun c' hw hle hble=>by
       simp only [RepE,hts]
       exact ⟨v',us,rfl,hsz,by rw [hw]; exact q1,RepL.mono hle _ _ (fun id _=>hble id) q2,q3,q4⟩)
     refine ⟨v',c',by rw [hw]; exact hr,?_,h2,h3⟩
     simp only [RepV]
     refine ⟨?_,v',_,_,_,hb',by omega,fun _=>rfl⟩
     obtain ⟨ad,cp,he⟩:=ownsRow_len q1
     rw [he]; rfl
 ·cases h

theorem flat_get {k:Nat} (hk:0<k):∀ {vs:List Value},(∀ v ∈ vs,v.cells.size=k)→∀ j,(flat vs)[j]?=(vs[j / k]?).bind fun v=>v.cells[j % k]?
 | [],_,j=>by simp [flat]
 | v :: vs,h,j=>by
  have hv:v.cells.toList.length=k:=by simpa using h v (by simp)
  rw [flat_cons]
  by_cases hj:j<k
  ·rw [List.getElem?_append_left (by omega),Nat.div_eq_of_lt hj,Nat.mod_eq_of_lt hj]
   simp
  ·rw [List.getElem?_append_right (by omega),flat_get hk (fun u hu=>h u (by simp [hu])),hv]
   have e1:j / k=(j - k) / k+1:=by
    rw [show j=(j - k)+k by omega,Nat.add_div_right _ hk]; simp
   have e2:j % k=(j - k) % k:=by
    conv=>lhs; rw [show j=(j - k)+k by omega,Nat.add_mod_right]
   rw [e1,e2,List.getElem?_cons_succ]

theorem sound_makeSlice {t:TypeId} {x y:Operand} (ho:o.op=.makeSlice t x y) (h:LOp P pr [] o ev m K):∃ lv m',K lv m'∧OpOk P pr o ev m lv m':=by
 simp only [LOp,ho] at h
 split at h
 ·rename_i e z n n' d hte hz hx hy hd
  obtain ⟨rfl,h0,hb,hrow,hp,hid,hK⟩:=h
  have hu:=elem_of hte
  obtain ⟨i,zv,hi,hzv,hzs,hz1,hsz,hby,hts⟩:=row_of hrow
  refine ⟨_,_,hK,OpOk.value fun c a hev hm=>?_⟩
  have hvx:=hev x
  have hvy:=hev y
  rw [hx] at hvx
  rw [hy] at hvy
  simp only [RepV] at hvx hvy
  have hzz:z=ofV zv:=by
   rw [hte] at hz
   simp only [Option.getD_some,tzero,hi,hzv] at hz
   split at hz
   ·cases hz; rfl
   ·cases hz
  subst hzz
  have hbytes:(i.bytes:Int) * n≤281474976710656:=by
   have h1:(i.bytes:Int) * n≤256 * n:=Int.mul_le_mul_of_nonneg_right (by omega) h0
   omega
  have hrun:=run_make (P:=P) c.w t e i zv hu hi hzv .i64 .i64 n n h0 (Int.le_refl _) hbytes (by omega)
  have hB:=hm.fresh hid
  have hcells:(madeCells zv.cells (n.toNat * i.size)).toList=flat (List.replicate n.toNat zv):=by
   apply List.ext_getElem?
   intro j
   rw [flat_get hsz (fun v hv=>by rw [List.eq_of_mem_replicate hv]; exact hzs)]
   simp only [Array.getElem?_toList,madeCells,Array.getElem?_map,Array.getElem?_range,List.getElem?_replicate,hzs]
   by_cases hj:j<n.toNat * i.size
   ·have h1:j / i.size<n.toNat:=(Nat.div_lt_iff_lt_mul hsz).2 hj
    have h2:j % i.size<zv.cells.size:=by rw [hzs]; exact Nat.mod_lt _ hsz
    rw [if_pos hj,if_pos h1]
    simp [h2]
   ·have h1:¬ j / i.size<n.toNat:=fun hh=>hj ((Nat.div_lt_iff_lt_mul hsz).1 hh)
    rw [if_neg hj,if_neg h1]
    rfl
  have hsize:(madeCells zv.cells (n.toNat * i.size)).size=n.toNat * i.size:=size_madeCells _ _
  obtain ⟨c',hw,hb',h2,h3⟩:=hm.upd (pr:=pr) (100+d) (.arr e (tsize P e) (List.replicate n.toNat (ofV zv))) (.arr (.slice (some ⟨c.w.heap.size,0,.none⟩) n.toNat n.toNat) (tsize P e) n.toNat [])
   (c.w.alloc (.cells (madeCells zv.cells (n.toNat * i.size)) e)) rfl rfl rfl (Nat.le_refl _) (by simp)
   (fun b hb' _=>hpOld c.w _ b hb') (fun b hb'=>by simp [BE.has,Value.ownBlock] at hb'; exact .inr (by omega)) (by rw [hB]; trivial) (fun _ be0 h0=>by rw [hB] at h0; cases h0)
   (fun c' hw hle hble=>by
    simp only [RepE,hts,List.length_replicate]
    refine ⟨_,List.replicate n.toNat zv,rfl,hsz,⟨by rw [flat_length (k:=i.size) (fun v hv=>by rw [List.eq_of_mem_replicate hv]; exact hzs)]; simp,.inr ⟨c.w.heap.size,n.toNat,_,rfl,Nat.zero_le _,by rw [hw]; exact heap_alloc_new c.w _,Nat.le_refl _,by simp only [maxLen]; omega,hsize,?_⟩⟩,?_,?_,?_⟩
    ·rw [List.take_of_length_le (by rw [Array.length_toList,hsize]; exact Nat.le_refl _),hcells]
    ·refine RepL.of (by simp) fun j q r hq hr=>?_
     rw [List.getElem?_replicate] at hq hr
     split at hq
     ·rename_i hj
      rw [if_pos hj] at hr
      cases hq; cases hr; exact repV_ofV c' zv
     ·cases hq
    ·intro v hv
     rw [List.eq_of_mem_replicate hv]
     exact ⟨hzs,hz1⟩
    ·refine pureL_iff.2 fun q hq=>?_
     rw [List.eq_of_mem_replicate hq]; exact hp)
  refine ⟨.slice (some ⟨c.w.heap.size,0,.none⟩) n.toNat n.toNat,c',by rw [hw]; simp [execOp,ho,hvx,hvy,hrun],?_,h2,h3⟩
  simp only [RepV]
  exact ⟨rfl,_,_,_,_,hb',Nat.le_refl _,fun _=>rfl⟩
 ·cases h

theorem fold_set {cells:Array Value} {off:Nat} {l:Array Value} (h:off+l.size≤cells.size) :
  (l.zipIdx.foldl (fun cs (x:Value × Nat)=>cs.setIfInBounds (off+x.2) x.1) cells).toList=cells.toList.take off++l.toList++cells.toList.drop (off+l.toList.length):=by
 obtain ⟨g1,g2⟩:=Great.foldl_set off l.toList 0 cells
 have e0:l.zipIdx.foldl (fun cs (x:Value × Nat)=>cs.setIfInBounds (off+x.2) x.1) cells=(l.toList.zipIdx 0).foldl (fun cs (x:Value × Nat)=>cs.setIfInBounds (off+x.2) x.1) cells:=by
  rw [← Array.foldl_toList]; simp
 rw [e0]
 apply List.ext_getElem?
 intro j
 rw [Array.getElem?_toList,g2 j]
 have e1:l.toList.length=l.size:=by simp
 have e2:cells.toList.length=cells.size:=by simp
 simp only [Nat.add_zero,List.getElem?_append,List.length_append,List.length_take,List.getElem?_take,List.getElem?_drop,e1,e2]
 by_cases h1:j<off
 ·rw [if_neg (by omega),if_pos (by omega),if_pos (by omega),if_pos h1]; simp
 ·by_cases h2:j<off+l.size
  ·rw [if_pos (by omega),if_pos (by omega),if_neg (by omega)]
   congr 1; omega
  ·rw [if_neg (by omega),if_neg (by omega)]
   rw [← Array.getElem?_toList]; congr 1; omega

theorem fill_sound {t:TypeId} {fields:Array Field} {places:List (Nat × Nat)} (hu:P.underlying t=some (.struct fields)) (hpl:fields.toList.mapM (fun f=>(P.info? f.type).map fun i=>(f.offset,i.size))=some places) {c:Cx} {a:Act} (hev:∀ x,RepV c (ev x) (a.eval x)) :
  ∀ (parts:List (Nat × Operand)) (cs:List LV) (cells:Array Value) (r:List LV),RepL c cs cells.toList→lfill P t cs (parts.map fun p=>(p.1,ev p.2))=some r →
   ∃ rc,Instr.fill (places.toArray[·]?) cells (parts.map fun p=>(p.1,a.eval p.2))=some rc∧RepL c r rc.toList
 | [],cs,cells,r,hl,h=>by
  simp only [List.map_nil,lfill,Option.some.injEq] at h
  subst h
  exact ⟨cells,rfl,hl⟩
 | (i, x) :: parts, cs, cells, r, hl, h => by
  simp only [List.map_cons,lfill] at h
  cases htf:tfield P t i with
  | none=>simp [htf] at h
  | some q =>
   obtain ⟨off,ft⟩:=q
   simp only [htf] at h
   split at h
   ·rename_i hc
    obtain ⟨h1,h2,h3,h4⟩:=hc
    obtain ⟨hxl,hx1⟩:=(hev x).cellsOf h4
    have hxlen:(ev x).cells.length=(a.eval x).cells.size:=by rw [hxl.length]; simp
    have hcl:cs.length=cells.size:=by rw [hl.length]; simp
    have hplace : places.toArray[i]? = some (off, tsize P ft) := by
     unfold tfield at htf
     rw [hu] at htf
     simp only at htf
     cases hf:fields[i]? with
     | none=>simp [hf] at htf
     | some fd =>
      simp only [hf,Option.map_some,Option.some.injEq,Prod.mk.injEq] at htf
      obtain ⟨rfl,rfl⟩:=htf
      have hgen:∀ (fs:List Field) (ps:List (Nat × Nat)),fs.mapM (fun f=>(P.info? f.type).map fun i=>(f.offset,i.size))=some ps→∀ (i:Nat) fd,fs[i]?=some fd→ps[i]?=some (fd.offset,tsize P fd.type):=by
       intro fs
       induction fs with
       | nil=>intro ps _ i fd hfd; simp at hfd
       | cons f fs ih =>
        intro ps hps i fd hfd
        simp only [List.mapM_cons,Option.bind_eq_bind,Option.pure_def] at hps
        cases hi:P.info? f.type with
        | none=>simp [hi] at hps
        | some inf =>
         cases hr:fs.mapM (fun f=>(P.info? f.type).map fun i=>(f.offset,i.size)) with
         | none=>simp [hi,hr] at hps
         | some rest =>
          simp [hi,hr] at hps
          subst hps
          cases i with
          | zero=>simp at hfd; subst hfd; simp [tsize,hi]
          | succ i=>simp at hfd; simpa using ih rest hr i fd hfd
      have:=hgen fields.toList places hpl i fd (by simpa using hf)
      simpa using this
    have hfold:=fold_set (cells:=cells) (off:=off) (l:=(a.eval x).cells) (by omega)
    obtain ⟨rc,hrc,hrl⟩:=fill_sound hu hpl hev parts (rep cs off (ev x).cells) ((a.eval x).cells.zipIdx.foldl (fun cs (x:Value × Nat)=>cs.setIfInBounds (off+x.2) x.1) cells) r (by
     rw [hfold]
     unfold rep
     rw [hxl.length]
     exact ((hl.take off).append hxl).append (hl.drop _)) h
    refine ⟨rc,?_,hrl⟩
    simp only [List.map_cons]
    unfold Instr.fill
    simp only [hplace]
    rw [if_neg (by simp only [ne_eq,Bool.or_eq_true,decide_eq_true_eq,not_or,Decidable.not_not,Nat.not_lt,gt_iff_lt]; omega)]
    exact hrc
   ·cases h

theorem sound_build {t:TypeId} {parts:Array (Nat × Operand)} (ho:o.op=.build t parts) (h:LOp P pr [] o ev m K):∃ lv m',K lv m'∧OpOk P pr o ev m lv m':=by
 simp only [LOp,ho] at h
 obtain ⟨htb,h⟩:=h
 split at h
 ·rename_i z hz
  split at h
  ·rename_i cs hf
   refine ⟨_,_,h,OpOk.same fun c a hev hm=>?_⟩
   unfold tbuild at htb
   split at htb
   ·rename_i fields hu
    obtain ⟨places,hpl⟩:=Option.isSome_iff_exists.1 htb
    unfold tzero at hz
    split at hz
    ·rename_i i hi
     split at hz
     ·rename_i zv hzv
      split at hz
      ·have hz':ofV zv=.agg z:=by simpa using hz
       have hzl:RepL c z zv.cells.toList:=by have:=repL_ofV_cells c zv; rw [hz'] at this; exact this
       obtain ⟨rc,hrc,hrl⟩:=fill_sound hu hpl hev parts.toList z zv.cells cs hzl hf
       have hb:P.built t (parts.map fun p=>(p.1,a.eval p.2)).toList=some rc:=by
        unfold Program.built
        simp only [hi,hu,hzv,hpl,Array.toList_map]
        exact hrc
       have hrun:=run_build (P:=P) c.w t _ rc hb
       refine ⟨.agg rc,by simp [execOp,ho,hrun],?_⟩
       simp only [RepV]
       exact ⟨rc.toList,by simp,hrl⟩
      ·cases hz
     ·cases hz
    ·cases hz
   ·cases htb
  ·cases h
 ·cases h

theorem sound_buildSlice {t:TypeId} {len:Nat} {parts:Array (Nat × Operand)} (ho:o.op=.buildSlice t len parts) (h:LOp P pr [] o ev m K):∃ lv m',K lv m'∧OpOk P pr o ev m lv m':=by
 simp only [LOp,ho] at h
 cases hte:telem P t <;> simp only [hte] at h
 case some e =>
  obtain ⟨hrow,hsm,hidx,hels,hK⟩:=h
  have hu:=elem_of hte
  obtain ⟨i,zv,hi,hzv,hzs,hz1,hsz,hby,hts⟩:=row_of hrow
  refine ⟨_,_,hK,OpOk.value fun c a hev hm=>?_⟩
  have hplen:parts.toList.length=len:=by have:=congrArg List.length hidx; simpa using this
  let vs:=parts.toList.map fun p=>a.eval p.2
  have hl:RepL c (parts.toList.map fun p=>ev p.2) vs:=RepL.of (by simp [vs]) fun j x v hx hv=>by
   simp only [vs,List.getElem?_map,Option.map_eq_some_iff] at hx hv
   obtain ⟨p,hp,rfl⟩:=hx
   obtain ⟨p',hp',rfl⟩:=hv
   rw [hp] at hp'; cases hp'; exact hev _
  have hcell:∀ v ∈ vs,v.cells.size=i.size∧∀ y ∈ v.cells,y.oneCell'=true:=by
   intro v hv
   simp only [vs,List.mem_map] at hv
   obtain ⟨p,hp,rfl⟩:=hv
   obtain ⟨_,e1,e2⟩:=hels (ev p.2) (List.mem_map.2 ⟨p,hp,rfl⟩)
   obtain ⟨e3,e4⟩:=(hev p.2).cellsOf e2
   refine ⟨?_,e4⟩
   have:=e3.length
   rw [e1,hts] at this
   simpa using this.symm
  have hpure:LV.pureL (parts.toList.map fun p=>ev p.2)=true:=pureL_iff.2 fun x hx=>(hels x hx).1
  have hparts:(parts.map fun (p:Nat × Operand)=>(p.1,a.eval p.2)).toList=(vs.zipIdx 0).map fun x=>(x.2,x.1):=by
   apply List.ext_getElem?
   intro j
   have hj:=congrArg (fun l=>l[j]?) hidx
   simp only [List.getElem?_map,List.getElem?_range] at hj
   simp only [Array.toList_map,List.getElem?_map,List.getElem?_zipIdx,vs,Nat.zero_add]
   cases hp:parts.toList[j]? with
   | none=>simp
   | some p =>
    rw [hp] at hj
    have hjl:j<len:=by
     rw [← hplen]; exact (List.getElem?_eq_some_iff.1 hp).1
    rw [List.getElem?_range hjl] at hj
    simp at hj
    simp [hj]
  obtain ⟨cells,hfill,hflat⟩:∃ cells,Instr.fill (fun i'=>some (i' * i.size,i.size)) ((Array.range (len * i.size)).map (zv.cells[· % zv.cells.size]!)) (parts.map fun (p:Nat × Operand)=>(p.1,a.eval p.2)).toList=some cells∧cells.toList=flat vs:=by
   have hvl:vs.length=len:=by simp [vs,hplen]
   obtain ⟨r,hr,hrs,hrk⟩:=Great.fill_dense hsz vs 0 ((Array.range (len * i.size)).map (zv.cells[· % zv.cells.size]!)) (fun v hv=>(hcell v hv).1) (by simp [hvl])
   refine ⟨r,by rw [hparts]; exact hr,?_⟩
   apply List.ext_getElem?
   intro j
   rw [flat_get hsz (fun v hv=>(hcell v hv).1),Array.getElem?_toList,hrk j]
   simp only [Nat.zero_mul,Nat.zero_le,true_and,Nat.zero_add,Nat.sub_zero,hvl]
   by_cases hj:j<len * i.size
   ·rw [if_pos hj]
   ·rw [if_neg hj]
    have h1:¬ j / i.size<len:=fun hh=>hj ((Nat.div_lt_iff_lt_mul hsz).1 hh)
    rw [List.getElem?_eq_none (by omega:vs.length≤j / i.size)]
    simp; omega
  have hcells:cells=(flat vs).toArray:=by rw [← hflat]
  subst hcells
  have hrun:(execOp a.eval o).run P c.w=.ok (.value (.slice (some ⟨c.w.heap.size,0,.none⟩) len len)) (c.w.alloc (.cells (flat vs).toArray e)):=by
   by_cases hl0:len=0
   ·subst hl0
    have hp0:parts=#[]:=by apply Array.ext'; simpa using hplen
    subst hp0
    simp [execOp,ho,Instr.buildSlice,run_underlying hu,sizeOf,typeInfo,hi,Instr.fill,newRow,vs,flat,Array.range_zero']
   ·have hpos:¬ len * i.size=0:=by
     intro h0
     rcases Nat.mul_eq_zero.1 h0 with h0 | h0 <;> omega
    have hb:=run_buildSlice (P:=P) c.w t e len (parts.map fun (p:Nat × Operand)=>(p.1,a.eval p.2)) (flat vs).toArray i zv hu hi hzv (by rw [hts] at hsm; omega) hpos hfill
    simp [execOp,ho,hb]
  obtain ⟨h2,h3⟩:=hm.ext (pr:=pr) (c.w.alloc (.cells (flat vs).toArray e)) rfl rfl rfl (Nat.le_refl _) (by simp) (fun b hb=>hpOld c.w _ b hb)
  refine ⟨_,_,hrun,?_,h2,h3⟩
  simp only [RepV]
  refine ⟨some ⟨c.w.heap.size,0,.none⟩,len,by simp [hplen],by simp [hplen],by simp,hpure,.inr ⟨c.w.heap.size,0,vs,rfl,by simp,hm.newX (Nat.le_refl _),h3.repL hl,fun u hu=>by rw [hts]; exact hcell u hu,rangeAt_new c.w _ e⟩⟩

theorem LOp_sound {ro:List Nat} (h:LOp P pr ro o ev m K):∃ lv m',K lv m'∧OpOk P pr o ev m lv m':=by
 have hro:∀ (ho:∀ t x,o.op ≠ .box t x),LOp P pr [] o ev m K:=by
  intro hno
  unfold LOp at h ⊢
  split at h <;> first | exact h | (rename_i t x ho; exact absurd ho (hno t x))
 cases ho:o.op
 case move x=>simp only [LOp,ho] at h; exact ⟨_,_,h,ok_move x (.inl ho)⟩
 case assign x=>simp only [LOp,ho] at h; exact ⟨_,_,h,ok_move x (.inr ho)⟩
 case pick x y z =>
  simp only [LOp,ho] at h
  cases hx:ev x <;> simp only [hx] at h
  case bool t=>exact ⟨_,_,h,ok_pick x y z t ho hx⟩
 case alloc t =>
  simp only [LOp,ho] at h
  split at h
  ·rename_i z d hz hd
   exact ⟨_,_,h.2,ok_alloc t d z ho hz h.1⟩
  ·cases h
 case box t x =>
  simp only [LOp,ho] at h
  split at h
  ·rename_i d hd
   obtain ⟨hs,h⟩:=h
   split at h
   ·exact ⟨_,_,h,ok_box_ro t x ho hs⟩
   ·exact ⟨_,_,h.2,ok_box t x d ho hs h.1⟩
  ·cases h
 case build t parts=>exact sound_build ho (hro (by simp [ho]))
 case buildSlice t n parts=>exact sound_buildSlice ho (hro (by simp [ho]))
 case load t x=>exact sound_load ho (hro (by simp [ho]))
 case store t x y=>exact sound_store ho (hro (by simp [ho]))
 case nilCheck x=>exact sound_nilCheck ho (hro (by simp [ho]))
 case binOp op t x y t'=>exact sound_binOp ho (hro (by simp [ho]))
 case unOp op t x=>exact sound_unOp ho (hro (by simp [ho]))
 case convert s t x=>exact sound_convert ho (hro (by simp [ho]))
 case slice t x lo hi mx=>exact sound_slice ho (hro (by simp [ho]))
 case fieldAddr t x f=>exact sound_fieldAddr ho (hro (by simp [ho]))
 case field t x f=>exact sound_field ho (hro (by simp [ho]))
 case indexAddr t x i=>exact sound_indexAddr ho (hro (by simp [ho]))
 case extract t i=>exact sound_extract ho (hro (by simp [ho]))
 case makeFunc f a b=>exact sound_makeFunc ho (hro (by simp [ho]))
 case makeSlice t x y=>exact sound_makeSlice ho (hro (by simp [ho]))
 case call c =>
  cases hc:c.callee
  case value x=>exact sound_call ho hc (hro (by simp [ho]))
  case builtin b =>
   cases b
   case len=>exact sound_len ho hc (hro (by simp [ho]))
   case append=>exact sound_append ho hc (hro (by simp [ho]))
   all_goals simp [LOp,ho,hc] at h
  all_goals simp [LOp,ho,hc] at h
 all_goals simp [LOp,ho] at h
end ops
end Go.L
set_option linter.unusedVariables false
set_option linter.unusedSimpArgs false
namespace Go.L

structure Rep (N:Nat) (c:Cx) (e:Env) (m:Mem) (a:Act):Prop where
 env:∀ i,RepV c (e i) (a.tmps.getD i undef)
 mem:RepM c m
 size:a.tmps.size=N
 defers:a.defers=[]

theorem Rep.ev {N:Nat} {c:Cx} {e:Env} {m:Mem} {a:Act} (h:Rep N c e m a) (x:Operand):RepV c (lev e x) (a.eval x):=by
 cases x with
 | tmp t=>exact h.env t
 | const v=>exact repV_ofV c v
 | global g=>simp [lev,RepV]
 | func f=>simp only [lev,Act.eval,RepV]; exact ⟨[],rfl,by simp [RepL]⟩

theorem Rep.put {N:Nat} {pr:Nat→Prop} {c c':Cx} {e:Env} {m m':Mem} {a:Act} (h:Rep N c e m a) (hs:Step pr c c') (hm:RepM c' m') {d:Option Nat} (hd:∀ i,d=some i→i<N) {lv:LV} {v:Value} (hv:RepV c' lv v):Rep N c' (e.put? d lv) m' (a.put d v):=by
 cases d with
 | none=>exact ⟨fun i=>hs.repV (h.env i),hm,h.size,h.defers⟩
 | some d =>
  refine ⟨fun i=>?_,hm,by simp [Act.put,h.size],h.defers⟩
  simp only [Env.put?,Env.put,Act.put]
  by_cases hi:i=d
  ·subst hi
   have:i<a.tmps.size:=by rw [h.size]; exact hd i rfl
   simpa [this] using hv
  ·simp only [hi,if_false]
   have:=hs.repV (h.env i)
   simpa [Array.getElem?_setIfInBounds_ne (Ne.symm hi)] using this

def LExec (P:Program) (N:Nat) (pr:Nat→Prop) (code:Code) (e:Env) (m:Mem) (ex:Exit) (e':Env) (m':Mem):Prop :=
 ∀ (c:Cx) (a:Act),Rep N c e m a→code.wp P (fun x a' w'=>x=ex∧∃ c':Cx,c'.w=w'∧Rep N c' e' m' a'∧Grow pr c c') a c.w

def LH (P:Program) (N:Nat) (pr:Nat→Prop) (code:Code) (Q:Exit→Env→Mem→Prop) (e:Env) (m:Mem):Prop :=
 ∃ ex e' m',LExec P N pr code e m ex e' m'∧Q ex e' m'

def Wk (pr:Nat→Prop) (e:Env) (m:Mem) (e':Env) (m':Mem):Prop :=
 ∀ (N:Nat) (c:Cx) (a:Act),Rep N c e m a→∃ c':Cx,c'.w=c.w∧Rep N c' e' m' a∧Grow pr c c'

theorem Wk.refl (pr:Nat→Prop) (e:Env) (m:Mem):Wk pr e m e m:=fun _ c _ h=>⟨c,rfl,h,.refl pr c⟩
theorem Wk.trans {pr:Nat→Prop} {e e' e'':Env} {m m' m'':Mem} (h:Wk pr e m e' m') (k:Wk pr e' m' e'' m''):Wk pr e m e'' m'':=fun N c a hr=>by
 obtain ⟨c1,hw1,hr1,hg1⟩:=h N c a hr
 obtain ⟨c2,hw2,hr2,hg2⟩:=k N c1 a hr1
 exact ⟨c2,hw2.trans hw1,hr2,hg1.trans hg2⟩

section rules
variable {P:Program} {N:Nat} {pr:Nat→Prop} {Q:Exit→Env→Mem→Prop} {e e':Env} {m m':Mem}

theorem LH.mono {c:Code} {Q':Exit→Env→Mem→Prop} (h:LH P N pr c Q e m) (hq:∀ ex e m,Q ex e m→Q' ex e m):LH P N pr c Q' e m:=by
 obtain ⟨ex,e',m',h1,h2⟩:=h
 exact ⟨ex,e',m',h1,hq _ _ _ h2⟩

theorem LExec.wk {c:Code} {ex:Exit} {e2:Env} {m2:Mem} (hw:Wk pr e m e' m') (h:LExec P N pr c e' m' ex e2 m2):LExec P N pr c e m ex e2 m2:=by
 intro cx a hr
 obtain ⟨c1,hw1,hr1,hg1⟩:=hw N cx a hr
 rw [← hw1]
 refine wp_mono (h c1 a hr1) ?_
 rintro x a' w' ⟨hx,c2,hw2,hr2,hg2⟩
 exact ⟨hx,c2,hw2,hr2,hg1.trans hg2⟩

theorem LH.wk {c:Code} (hw:Wk pr e m e' m') (h:LH P N pr c Q e' m'):LH P N pr c Q e m:=by
 obtain ⟨ex,e2,m2,h1,h2⟩:=h
 exact ⟨ex,e2,m2,h1.wk hw,h2⟩

theorem LH.skip (h:Q .normal e m):LH P N pr .skip Q e m:=⟨_,_,_,fun c a hr=>wp_skip ⟨rfl,c,rfl,hr,.refl pr c⟩,h⟩
theorem LH.ret (h:Q .ret e m):LH P N pr .ret Q e m:=⟨_,_,_,fun c a hr=>wp_ret ⟨rfl,c,rfl,hr,.refl pr c⟩,h⟩
theorem LH.exit {id:Nat} (h:Q (.exit id) e m):LH P N pr (.exit id) Q e m:=⟨_,_,_,fun c a hr=>wp_exit ⟨rfl,c,rfl,hr,.refl pr c⟩,h⟩

def thenQ (K:Env→Mem→Prop) (Q:Exit→Env→Mem→Prop):Exit→Env→Mem→Prop
 | .normal,e,m=>K e m
 | ex,e,m=>Q ex e m

theorem LH.seq {x y:Code} (h:LH P N pr x (thenQ (LH P N pr y Q) Q) e m):LH P N pr (.seq x y) Q e m:=by
 obtain ⟨ex,e1,m1,h1,h2⟩:=h
 cases ex with
 | normal =>
  obtain ⟨ex2,e2,m2,h3,h4⟩:=h2
  refine ⟨ex2,e2,m2,fun c a hr=>wp_seq (wp_mono (h1 c a hr) ?_),h4⟩
  rintro x a' w' ⟨rfl,c',rfl,hr',hg'⟩
  refine wp_mono (h3 c' a' hr') ?_
  rintro x a'' w'' ⟨hx,c2,hw2,hr2,hg2⟩
  exact ⟨hx,c2,hw2,hr2,hg'.trans hg2⟩
 | exit id =>
  refine ⟨_,e1,m1,fun c a hr=>wp_seq (wp_mono (h1 c a hr) ?_),h2⟩
  rintro x a' w' ⟨rfl,hq⟩
  exact ⟨rfl,hq⟩
 | goto l =>
  refine ⟨_,e1,m1,fun c a hr=>wp_seq (wp_mono (h1 c a hr) ?_),h2⟩
  rintro x a' w' ⟨rfl,hq⟩
  exact ⟨rfl,hq⟩
 | ret =>
  refine ⟨_,e1,m1,fun c a hr=>wp_seq (wp_mono (h1 c a hr) ?_),h2⟩
  rintro x a' w' ⟨rfl,hq⟩
  exact ⟨rfl,hq⟩
 | panic ch =>
  refine ⟨_,e1,m1,fun c a hr=>wp_seq (wp_mono (h1 c a hr) ?_),h2⟩
  rintro x a' w' ⟨rfl,hq⟩
  exact ⟨rfl,hq⟩
 | outgrown =>
  refine ⟨_,e1,m1,fun c a hr=>wp_seq (wp_mono (h1 c a hr) ?_),h2⟩
  rintro x a' w' ⟨rfl,hq⟩
  exact ⟨rfl,hq⟩

theorem LH.cond {x:Operand} {y z:Code} {t:Bool} (hx:lev e x=.bool t) (h1:t=true→LH P N pr y Q e m) (h2:t=false→LH P N pr z Q e m):LH P N pr (.cond x y z) Q e m:=by
 cases t with
 | true =>
  obtain ⟨ex,e',m',h3,h4⟩:=h1 rfl
  refine ⟨ex,e',m',fun c a hr=>?_,h4⟩
  have:=hr.ev x
  rw [hx] at this
  simp only [RepV] at this
  exact wp_cond_true this (h3 c a hr)
 | false =>
  obtain ⟨ex,e',m',h3,h4⟩:=h2 rfl
  refine ⟨ex,e',m',fun c a hr=>?_,h4⟩
  have:=hr.ev x
  rw [hx] at this
  simp only [RepV] at this
  exact wp_cond_false this (h3 c a hr)

def blockQ (id:Nat) (Q:Exit→Env→Mem→Prop):Exit→Env→Mem→Prop
 | .exit j,e,m=>if j=id then Q .normal e m else Q (.exit j) e m
 | ex,e,m=>Q ex e m

theorem LH.block {id:Nat} {c:Code} (h:LH P N pr c (blockQ id Q) e m):LH P N pr (.block id c) Q e m:=by
 obtain ⟨ex,e1,m1,h1,h2⟩:=h
 have gen:∀ ex',(∀ a w,∀ R:Act→World→Prop,R a w→Exit.inBlock id (fun x a w=>x=ex'∧R a w) ex a w)→Q ex' e1 m1→LH P N pr (.block id c) Q e m:=by
  intro ex' hb hq
  refine ⟨ex',e1,m1,fun cx a hr=>wp_block (wp_mono (h1 cx a hr) ?_),hq⟩
  rintro x a' w' ⟨rfl,hh⟩
  exact hb a' w' (fun a' w'=>∃ c':Cx,c'.w=w'∧Rep N c' e1 m1 a'∧Grow pr cx c') hh
 cases ex with
 | exit j =>
  by_cases hj:j=id
  ·subst hj
   simp only [blockQ,if_true] at h2
   exact gen .normal (fun a w R hR=>by simp [Exit.inBlock,hR]) h2
  ·simp only [blockQ,hj,if_false] at h2
   exact gen (.exit j) (fun a w R hR=>by simp [Exit.inBlock,hj,hR]) h2
 | normal=>exact gen _ (fun a w R hR=>⟨rfl,hR⟩) h2
 | goto l=>exact gen _ (fun a w R hR=>⟨rfl,hR⟩) h2
 | ret=>exact gen _ (fun a w R hR=>⟨rfl,hR⟩) h2
 | panic ch=>exact gen _ (fun a w R hR=>⟨rfl,hR⟩) h2
 | outgrown=>exact gen _ (fun a w R hR=>⟨rfl,hR⟩) h2

def Rounds (P:Program) (N:Nat) (pr:Nat→Prop) (c:Code) (ex:Exit) (e':Env) (m':Mem):Nat→Env→Mem→Prop
 | 0,e,m=>ex ≠ .normal∧LExec P N pr c e m ex e' m'
 | n+1,e,m=>∃ e1 m1,LExec P N pr c e m .normal e1 m1∧Rounds P N pr c ex e' m' n e1 m1

theorem Rounds.exec {c:Code} {ex:Exit} {n:Nat} (h:Rounds P N pr c ex e' m' n e m):LExec P N pr (.loop c) e m ex e' m':=by
 intro cx a hr
 refine wp_loop_ghost (fun k a w=>∃ e1 m1,∃ c1:Cx,Rounds P N pr c ex e' m' k e1 m1∧c1.w=w∧Rep N c1 e1 m1 a∧Grow pr cx c1) n ⟨e,m,cx,h,rfl,hr,.refl pr cx⟩ ?_
 rintro k a w ⟨e1,m1,c1,hR,rfl,hr1,hg1⟩
 cases k with
 | zero =>
  obtain ⟨hne,hx⟩:=hR
  refine wp_mono (hx c1 a hr1) ?_
  rintro x a' w' ⟨rfl,c2,rfl,hr2,hg2⟩
  cases x <;> first | exact absurd rfl hne | exact ⟨rfl,c2,rfl,hr2,hg1.trans hg2⟩
 | succ k =>
  obtain ⟨e2,m2,hx,hR⟩:=hR
  refine wp_mono (hx c1 a hr1) ?_
  rintro x a' w' ⟨rfl,c2,rfl,hr2,hg2⟩
  exact ⟨k,by omega,e2,m2,c2,hR,rfl,hr2,hg1.trans hg2⟩

theorem LExec.post {c:Code} {ex:Exit} {e2:Env} {m2:Mem} (h:LExec P N pr c e m ex e' m') (hw:Wk pr e' m' e2 m2):LExec P N pr c e m ex e2 m2:=by
 intro cx a hr
 refine wp_mono (h cx a hr) ?_
 rintro x a' w' ⟨hx,c1,rfl,hr1,hg1⟩
 obtain ⟨c2,hw2,hr2,hg2⟩:=hw N c1 a' hr1
 exact ⟨hx,c2,hw2,hr2,hg1.trans hg2⟩

def roundQ (pr:Nat→Prop) (I:Nat→Env→Mem→Prop) (n:Nat) (Q:Exit→Env→Mem→Prop):Exit→Env→Mem→Prop
 | .normal,e,m=>∃ e' m',Wk pr e m e' m'∧∃ k,k<n∧I k e' m'
 | ex,e,m=>Q ex e m

theorem LH.loop {c:Code} (I:Nat→Env→Mem→Prop) (n:Nat) (h0:I n e m) (h:∀ n e m,I n e m→LH P N pr c (roundQ pr I n Q) e m):LH P N pr (.loop c) Q e m:=by
 have key:∀ n e m,I n e m→∃ ex e' m' k,Rounds P N pr c ex e' m' k e m∧Q ex e' m':=by
  intro n
  induction n using Nat.strongRecOn with
  | _ n ih =>
   intro e m hI
   obtain ⟨ex,e1,m1,h1,h2⟩:=h n e m hI
   cases ex with
   | normal =>
    obtain ⟨e2,m2,hw,k,hk,hI2⟩:=h2
    obtain ⟨ex,e',m',j,hR,hQ⟩:=ih k hk e2 m2 hI2
    exact ⟨ex,e',m',j+1,⟨e2,m2,h1.post hw,hR⟩,hQ⟩
   | exit id=>exact ⟨_,e1,m1,0,⟨by simp,h1⟩,h2⟩
   | goto l=>exact ⟨_,e1,m1,0,⟨by simp,h1⟩,h2⟩
   | ret=>exact ⟨_,e1,m1,0,⟨by simp,h1⟩,h2⟩
   | panic ch=>exact ⟨_,e1,m1,0,⟨by simp,h1⟩,h2⟩
   | outgrown=>exact ⟨_,e1,m1,0,⟨by simp,h1⟩,h2⟩
 obtain ⟨ex,e',m',k,hR,hQ⟩:=key n e m h0
 exact ⟨ex,e',m',hR.exec,hQ⟩

theorem wanted_of {ops:Array Oper} {o:Oper} {c:Cx} {a:Act} (hr:Rep N c e m a) (hd:∀ q ∈ ops,∀ i,q.dst=some i→i<N) {j:Nat} {want:Bool} (hg:o.guard=some (j,want)) {g:Nat} (hj:(ops[j]?).bind (·.dst)=some g) {t:Bool} (ht:e g=.bool t) :
  Region.wanted o (yielded ops a.tmps)=(t == want):=by
 have hv:=hr.env g
 rw [ht] at hv
 simp only [RepV] at hv
 have hgN:g<N:=by
  cases hq:ops[j]? with
  | none=>simp [hq] at hj
  | some q=>simp [hq] at hj; exact hd q (Array.mem_of_getElem? hq) g hj
 have hsz:g<a.tmps.size:=by rw [hr.size]; exact hgN
 have hget:a.tmps[g]?=some (.bool t):=by
  rw [Array.getElem?_eq_getElem hsz]
  simpa [hsz] using hv
 simp [Region.wanted,hg,yielded,hj,hget]

theorem unwanted_of {ops:Array Oper} {o:Oper} {c:Cx} {a:Act} (hr:Rep N c e m a) (hd:∀ q ∈ ops,∀ i,q.dst=some i→i<N) {j:Nat} {want:Bool} (hg:o.guard=some (j,want)) {g:Nat} (hj:(ops[j]?).bind (·.dst)=some g) (ht:e g=.tup []) :
  Region.wanted o (yielded ops a.tmps)=false:=by
 have hv:=hr.env g
 rw [ht] at hv
 simp only [RepV,RepL] at hv
 obtain ⟨vs,hv,rfl⟩:=hv
 have hgN:g<N:=by
  cases hq:ops[j]? with
  | none=>simp [hq] at hj
  | some q=>simp [hq] at hj; exact hd q (Array.mem_of_getElem? hq) g hj
 have hsz:g<a.tmps.size:=by rw [hr.size]; exact hgN
 have hget:a.tmps[g]?=some (.tuple #[]):=by
  rw [Array.getElem?_eq_getElem hsz]
  simpa [hsz] using hv
 simp [Region.wanted,hg,yielded,hj,hget]

theorem repV_undef (c:Cx):RepV c (.tup []) undef:=by
 simp only [RepV,RepL]
 exact ⟨[],rfl,rfl⟩

theorem LStep_sound {ro:List Nat} {ops:Array Oper} {o:Oper} {K:Env→Mem→Prop} (hd:∀ q ∈ ops,∀ i,q.dst=some i→i<N) (hod:∀ i,o.dst=some i→i<N) (h:LStep P pr ro ops o K e m) :
  ∃ lv m',K (e.put? o.dst lv) m'∧∀ (c:Cx) (a:Act) (R:Act→World→Prop) (Q:Exit→Act→World→Prop),Rep N c e m a →
   (∀ a' (c':Cx),Rep N c' (e.put? o.dst lv) m' a'→Step pr c c'→R a' c'.w) →
   if Region.wanted o (yielded ops a.tmps) then o.wp P a c.w R Q ∨ (o.asks P a c.w∧LetsOut Q) else R (a.put o.dst undef) c.w:=by
 have run:∀ (h:LOp P pr ro o (lev e) m fun lv m'=>K (e.put? o.dst lv) m'),∃ lv m',K (e.put? o.dst lv) m'∧∀ (c:Cx) (a:Act) (R:Act→World→Prop) (Q:Exit→Act→World→Prop),Rep N c e m a →
   (∀ a' (c':Cx),Rep N c' (e.put? o.dst lv) m' a'→Step pr c c'→R a' c'.w)→o.wp P a c.w R Q:=by
  intro h
  obtain ⟨lv,m',hK,hok⟩:=LOp_sound h
  refine ⟨lv,m',hK,fun c a R Q hr hR=>?_⟩
  refine Oper.wp_mono ?_ (hok c a Q hr.ev hr.mem)
  rintro a' w' ⟨v,c',rfl,rfl,hv,hm',hs⟩
  exact hR _ c' (hr.put hs hm' hod hv) hs
 unfold LStep at h
 split at h
 ·rename_i hg
  obtain ⟨lv,m',hK,hrun⟩:=run h
  refine ⟨lv,m',hK,fun c a R Q hr hR=>?_⟩
  rw [if_pos (by simp [Region.wanted,hg])]
  exact .inl (hrun c a R Q hr hR)
 ·rename_i j want hg
  split at h
  ·rename_i g hj
   cases ht:e g <;> simp only [ht] at h
   case bool t =>
    split at h
    ·rename_i heq
     obtain ⟨lv,m',hK,hrun⟩:=run h
     refine ⟨lv,m',hK,fun c a R Q hr hR=>?_⟩
     rw [wanted_of hr hd hg hj ht,if_pos (by simpa using heq)]
     exact .inl (hrun c a R Q hr hR)
    ·rename_i hne
     refine ⟨.tup [],m,h,fun c a R Q hr hR=>?_⟩
     rw [wanted_of hr hd hg hj ht,if_neg (by simpa using hne)]
     exact hR _ c (hr.put (Step.refl pr c) hr.mem hod (repV_undef c)) (Step.refl pr c)
   case tup vs =>
    cases vs with
    | cons x xs=>exact h.elim
    | nil =>
     refine ⟨.tup [],m,h,fun c a R Q hr hR=>?_⟩
     rw [unwanted_of hr hd hg hj ht,if_neg (by simp)]
     exact hR _ c (hr.put (Step.refl pr c) hr.mem hod (repV_undef c)) (Step.refl pr c)
  ·cases h

theorem LOps_sound {ro:List Nat} {ops:Array Oper} (hd:∀ q ∈ ops,∀ i,q.dst=some i→i<N):∀ (l:List Oper) (e:Env) (m:Mem) (K:Env→Mem→Prop),(∀ o ∈ l,o ∈ ops)→LOps P pr ro ops l K e m →
  ∃ e' m',K e' m'∧∀ (c:Cx) (a:Act),Rep N c e m a→wpList P ops (fun x a' w'=>x=.normal∧∃ c':Cx,c'.w=w'∧Rep N c' e' m' a'∧Grow pr c c') l a c.w
 | [],e,m,K,_,h=>⟨e,m,h,fun c a hr=>⟨rfl,c,rfl,hr,.refl pr c⟩⟩
 | o :: l,e,m,K,hl,h=>by
  simp only [LOps] at h
  obtain ⟨lv,m1,h1,hstep⟩:=LStep_sound hd (hd o (hl o (by simp))) h
  obtain ⟨e',m',hK,hrest⟩:=LOps_sound hd l _ _ K (fun q hq=>hl q (by simp [hq])) h1
  refine ⟨e',m',hK,fun c a hr=>?_⟩
  simp only [wpList]
  refine hstep c a _ _ hr ?_
  intro a' c' hr' hs
  have key : ∀ (l : List Oper) (a : Act) (w : World) (Q Q' : Exit → Act → World → Prop), (∀ x a w, Q x a w → Q' x a w) → wpList P ops Q l a w → wpList P ops Q' l a w := by
   intro l
   induction l with
   | nil=>intro a w Q Q' hq hh; exact hq _ _ _ hh
   | cons o l ih =>
    intro a w Q Q' hq hh
    simp only [wpList] at hh ⊢
    split
    ·rename_i hwt
     rw [if_pos hwt] at hh
     rcases hh with hh | ⟨h1,a0,w0,h2⟩
     ·left
      unfold Oper.wp at hh ⊢
      generalize (execOp a.eval o).run P w=r at hh ⊢
      cases r with
      | ok nx w' =>
       cases nx <;> simp only [Oper.upon] at hh ⊢ <;> first
        | exact ih _ _ _ _ hq hh
        | exact Calls.mono hh (fun en w'' he=>by cases en <;> first | exact ih _ _ _ _ hq he | exact hq _ _ _ he | exact he.imp fun _=>Exists.imp fun _=>hq _ _ _)
        | exact Rows.mono hh (fun _ _ he=>ih _ _ _ _ hq he)
      | halt x w'=>cases x <;> simp only [Oper.upon] at hh ⊢ <;> first | exact hq _ _ _ hh | exact hh
     ·exact .inr ⟨h1,a0,w0,hq _ _ _ h2⟩
    ·rename_i hwt
     rw [if_neg hwt] at hh
     exact ih _ _ _ _ hq hh
  refine key _ _ _ _ _ ?_ (hrest c' a' hr')
  rintro x a'' w'' ⟨hx,c2,hw2,hr2,hg2⟩
  exact ⟨hx,c2,hw2,hr2,hs.grow.trans hg2⟩

def dstsOk (N:Nat) (l:List Oper):Bool:=l.all fun o=>match o.dst with | some d=>decide (d<N) | .none=>true

theorem dsts_of {l:List Oper} (h:dstsOk N l=true):∀ q ∈ l.toArray,∀ i,q.dst=some i→i<N:=by
 intro q hq i hi
 have:=List.all_eq_true.1 h q (by simpa using hq)
 simpa [hi] using this

theorem LH.region {id:Nat} {l:List Oper} (ro:List Nat) (hd:dstsOk N l=true) (h:LOps P pr ro l.toArray l (Q .normal) e m):LH P N pr (.region id l.toArray false) Q e m:=by
 obtain ⟨e',m',hK,hrun⟩:=LOps_sound (dsts_of hd) l e m _ (by simp) h
 refine ⟨.normal,e',m',fun c a hr=>?_,hK⟩
 refine wp_region ?_
 rw [List.size_toArray,List.range_eq_range',wpOps_eq_wpList l 0 (by simp)]
 exact hrun c a hr
end rules
end Go.L
set_option linter.unusedVariables false
set_option linter.unusedSimpArgs false
namespace Go.L

mutual
def LV.refs:LV→List Nat
 | .sptr cs=>LV.refsL cs
 | .arr i _=>[i]
 | .ptr i _=>[i]
 | .eptr i _ _ _=>[i]
 | .mp i=>[i]
 | .agg cs=>LV.refsL cs
 | .tup cs=>LV.refsL cs
 | .fn _ cs=>LV.refsL cs
 | .bfn _ cs=>LV.refsL cs
 | _=>[]
def LV.refsL:List LV→List Nat
 | []=>[]
 | x :: xs=>x.refs++LV.refsL xs
end

mutual
theorem refs_of_noref {id:Nat}:∀ (x:LV),x.noref id=false→id ∈ x.refs
 | .und,h | .int _ _,h | .bool _,h | .nil,h | .slen _,h | .full _ _,h | .str _,h | .it _,h | .nilf,h | .nilp,h | .lst _ _,h=>by simp [LV.noref] at h
 | .sptr cs,h=>by simp only [LV.noref] at h; simp only [LV.refs]; exact refsL_of_norefL cs h
 | .arr _ _,h | .ptr _ _,h | .eptr _ _ _ _,h | .mp _,h=>by simp [LV.noref] at h; simp [LV.refs,h]
 | .agg cs,h=>by simp only [LV.noref] at h; simp only [LV.refs]; exact refsL_of_norefL cs h
 | .tup cs,h=>by simp only [LV.noref] at h; simp only [LV.refs]; exact refsL_of_norefL cs h
 | .fn _ cs,h=>by simp only [LV.noref] at h; simp only [LV.refs]; exact refsL_of_norefL cs h
 | .bfn _ cs,h=>by simp only [LV.noref] at h; simp only [LV.refs]; exact refsL_of_norefL cs h
theorem refsL_of_norefL {id:Nat}:∀ (xs:List LV),LV.norefL id xs=false→id ∈ LV.refsL xs
 | [],h=>by simp [LV.norefL] at h
 | x :: xs,h=>by
  simp only [LV.norefL,Bool.and_eq_false_iff] at h
  simp only [LV.refsL,List.mem_append]
  exact h.imp (refs_of_noref x) (refsL_of_norefL xs)
end

theorem RepM.sub {c:Cx} {m:Mem} (h:RepM c m) (m':Mem) (hsub:∀ id,m' id=m id ∨ m' id=.none) (hbox:∀ id le,m' id=some le→∀ j,le.nref j=false→m' j ≠ .none) :
  ∃ c':Cx,c'.w=c.w∧c'.O=c.O∧RepM c' m'∧(∀ x v,(∀ j,x.noref j=false→m' j ≠ .none)→RepV c x v→RepV c' x v)∧(∀ b,c'.own b→c.own b)∧(∀ b,c.own b→(∀ id be,m' id ≠ .none→c.B id=some be→¬ be.has b)→¬ c'.own b)∧∀ id,m' id ≠ .none→c'.B id=c.B id:=by
 classical
 let c':Cx:=⟨c.w,fun id=>if m' id=.none then .none else c.B id,c.O⟩
 have hB:∀ id,m' id ≠ .none→c'.B id=c.B id:=fun id hi=>by simp [c',hi]
 have hown:∀ b,c'.own b→c.own b:=by
  rintro b ⟨id,be,h1,h2⟩
  by_cases hi:m' id=.none
  ·simp [c',hi] at h1
  ·rw [hB id hi] at h1; exact ⟨id,be,h1,h2⟩
 have hle:c.Le c':=⟨Nat.le_refl _,fun b _ hX=>⟨rfl,fun hX'=>hX (hX'.imp (fun h=>h) (hown b))⟩⟩
 have hV:∀ x v,(∀ j,x.noref j=false→m' j ≠ .none)→RepV c x v→RepV c' x v:=fun x v hr hv =>
  RepV.mono hle x v (fun id hid=>by rw [hB id (hr id hid)]; exact BLe.refl _) hv
 refine ⟨c',rfl,rfl,⟨fun id=>?_,?_,fun b ho=>h.notO b (hown b ho),h.Olt⟩,hV,hown,?_,hB⟩
 ·by_cases hi:m' id=.none
  ·rw [hi]; simp [RepE,c',hi]
  ·have he:=h.ent id
   rw [← (hsub id).resolve_right hi] at he
   rw [hB id hi]
   cases hx:m' id with
   | none=>exact absurd hx hi
   | some le =>
    rw [hx] at he
    cases le with
    | box cs =>
     simp only [RepE] at he ⊢
     obtain ⟨b,us,e,h1,h2,h3,h4⟩:=he
     exact ⟨b,us,e,h1,h2,RepL.mono hle cs us (fun j hj=>by rw [hB j (hbox id _ hx j hj)]; exact BLe.refl _) h3,h4⟩
    | arr e k xs =>
     simp only [RepE] at he ⊢
     obtain ⟨u,us,h1,h0,h2,h3,h4,h5⟩:=he
     exact ⟨u,us,h1,h0,h2,RepL.mono hle xs us (fun j hj=>by rw [norefL_of_pureL xs h5] at hj; cases hj) h3,h4,h5⟩
    | nest e k os xs =>
     simp only [RepE] at he ⊢
     obtain ⟨u,us,bs,h1,h0,h2,h3,h4⟩:=he
     exact ⟨u,us,bs,h1,h0,h2,h3.mono hle (fun b _=>rfl),h4⟩
    | nesth e k os xs i o id2 n2 =>
     simp only [RepE] at he ⊢
     obtain ⟨u,us,bs,h1,h0,h2,h3,⟨ws,v,q1,q2,q3⟩,h4⟩:=he
     exact ⟨u,us,bs,h1,h0,h2,h3.mono hle (fun b _=>rfl),⟨ws,v,q1,q2,RepV.mono hle (.arr id2 n2) v (fun j hj=>by rw [hB j (hbox id _ hx j hj)]; exact BLe.refl _) q3⟩,h4⟩
    | dead=>simpa only [RepE] using he
    | map kt vt es =>
     simp only [RepE] at he ⊢
     obtain ⟨b,es',ck,h1,h2,h3,h4,h5,h6,h7⟩:=he
     exact ⟨b,es',ck,h1,h2,RepL.mono hle _ _ (fun j hj=>by rw [norefL_of_pureL _ h5] at hj; cases hj) h3,RepL.mono hle _ _ (fun j hj=>by rw [norefL_of_pureL _ h6] at hj; cases hj) h4,h5,h6,h7⟩
 ·intro i i' be be' b h1 h2 h3 h4
  by_cases hi:m' i=.none
  ·simp [c',hi] at h1
  ·by_cases hi':m' i'=.none
   ·simp [c',hi'] at h2
   ·rw [hB i hi] at h1; rw [hB i' hi'] at h2; exact h.inj i i' be be' b h1 h2 h3 h4
 ·rintro b hob hne ⟨id,be,h1,h2⟩
  by_cases hi:m' id=.none
  ·simp [c',hi] at h1
  ·rw [hB id hi] at h1; exact hne id be hi h1 h2

def keptRefs (el:List (Nat × LV)) (ml:List (Nat × LE)):Bool :=
 (el.all fun p=>p.2.refs.all fun j=>ml.any fun q=>q.1 == j) && ml.all fun q=>match q.2 with
  | .box cs=>(LV.refsL cs).all fun j=>ml.any fun q=>q.1 == j
  | .arr _ _ _=>true
  | .map _ _ _=>true
  | .nest _ _ _ _=>true
  | .nesth _ _ _ _ _ _ id2 _=>ml.any fun q=>q.1 == id2
  | .dead=>true

theorem memOf_some {ml:List (Nat × LE)} {id:Nat} {le:LE} (h:Mem.of ml id=some le):(id,le) ∈ ml:=by
 induction ml with
 | nil=>simp [Mem.of] at h
 | cons p ml ih =>
  obtain ⟨d,v⟩:=p
  simp only [Mem.of] at h
  split at h
  ·rename_i hi; cases h; subst hi; simp
  ·exact List.mem_cons_of_mem _ (ih h)
theorem memOf_ne {ml:List (Nat × LE)} {id:Nat} (h:(ml.any fun q=>q.1 == id)=true):Mem.of ml id ≠ .none:=by
 induction ml with
 | nil=>simp at h
 | cons p ml ih =>
  obtain ⟨d,v⟩:=p
  simp only [Mem.of]
  by_cases hd:id=d
  ·simp [hd]
  ·simp only [hd,if_false]
   simp only [List.any_cons,Bool.or_eq_true,beq_iff_eq] at h
   exact ih (h.resolve_left (fun hh=>hd hh.symm))
theorem envOf_mem (el:List (Nat × LV)) (i:Nat):Env.of el i=.und ∨ (i,Env.of el i) ∈ el:=by
 induction el with
 | nil=>exact .inl rfl
 | cons p el ih =>
  obtain ⟨d,v⟩:=p
  simp only [Env.of]
  by_cases hd:i=d
  ·subst hd; simp
  ·simp only [hd,if_false]
   exact ih.imp (fun h=>h) (List.mem_cons_of_mem _)

theorem Wk.cut {pr:Nat→Prop} {e:Env} {m:Mem} (el:List (Nat × LV)) (ml:List (Nat × LE)) (he:∀ p ∈ el,e p.1=p.2) (hm:∀ p ∈ ml,m p.1=some p.2) (hr:keptRefs el ml=true) (hpr:∀ id,pr id→m id=.none ∨ Mem.of ml id ≠ .none):Wk pr e m (Env.of el) (Mem.of ml):=by
 intro N c a hrep
 simp only [keptRefs,Bool.and_eq_true,List.all_eq_true] at hr
 obtain ⟨c',hw,hO,hm',hV,hown,_,hB⟩:=hrep.mem.sub (Mem.of ml) (fun id=>by
   cases h:Mem.of ml id with
   | none=>exact .inr rfl
   | some le=>exact .inl (hm _ (memOf_some h)).symm)
  (fun id le hid j hj=>by
   have h2:=hr.2 _ (memOf_some hid)
   cases le with
   | box cs =>
    simp only [List.all_eq_true] at h2
    exact memOf_ne (h2 j (refsL_of_norefL cs hj))
   | nesth _ _ _ _ _ _ id2 _ =>
    simp only [LE.nref,bne_eq_false_iff_eq] at hj
    subst hj
    exact memOf_ne h2
   | _=>simp [LE.nref] at hj)
 refine ⟨c',hw,⟨fun i=>?_,hm',hrep.size,hrep.defers⟩,?_⟩
 ·rcases envOf_mem el i with h | h
  ·rw [h]; simp [RepV]
  ·have h1:=he _ h
   simp only at h1
   refine hV _ _ (fun j hj=>memOf_ne (hr.1 _ h j (refs_of_noref _ hj))) ?_
   rw [← h1]; exact hrep.env i
 ·refine ⟨hO,by rw [hw],by rw [hw],by rw [hw],by rw [hw]; exact Nat.le_refl _,by rw [hw]; exact Nat.le_refl _,fun b _ _=>by rw [hw],fun b ho=>.inl (hown b ho),fun id be hp hb=>?_⟩
  have:Mem.of ml id ≠ .none:=by
   rcases hpr id hp with h0 | h0
   ·have:=hrep.mem.fresh h0; rw [this] at hb; cases hb
   ·exact h0
  exact ⟨be,by rw [hB id this]; exact hb,.refl be⟩

mutual
/-- a settled box: its addresses become addresses of settled cells -/
def LV.frzB (id:Nat) (cs:List LV):LV→LV
 | .ptr i o=>if i=id then .sptr (cs.drop o) else .ptr i o
 | .agg l=>.agg (LV.frzBL id cs l)
 | .tup l=>.tup (LV.frzBL id cs l)
 | .fn f l=>.fn f (LV.frzBL id cs l)
 | .bfn f l=>.bfn f (LV.frzBL id cs l)
 | .arr i n=>if i=id then .und else .arr i n
 | .eptr i n j o=>if i=id then .und else .eptr i n j o
 | .mp i=>if i=id then .und else .mp i
 | .sptr l=>if LV.norefL id l=true then .sptr l else .und
 | x=>x
def LV.frzBL (id:Nat) (cs:List LV):List LV→List LV
 | []=>[]
 | x :: xs=>x.frzB id cs :: LV.frzBL id cs xs
end
mutual
/-- a settled row: the slice over it becomes a list -/
def LV.frzA (id k:Nat) (xs:List LV):LV→LV
 | .arr i n=>if i=id then (if n=xs.length then .lst k xs else .und) else .arr i n
 | .agg l=>.agg (LV.frzAL id k xs l)
 | .tup l=>.tup (LV.frzAL id k xs l)
 | .fn f l=>.fn f (LV.frzAL id k xs l)
 | .bfn f l=>.bfn f (LV.frzAL id k xs l)
 | .ptr i o=>if i=id then .und else .ptr i o
 | .eptr i n j o=>if i=id then .und else .eptr i n j o
 | .mp i=>if i=id then .und else .mp i
 | .sptr l=>if LV.norefL id l=true then .sptr l else .und
 | x=>x
def LV.frzAL (id k:Nat) (xs:List LV):List LV→List LV
 | []=>[]
 | x :: l=>x.frzA id k xs :: LV.frzAL id k xs l
end

def Mem.del (m:Mem) (id:Nat):Mem:=fun i=>if i=id then .none else m i

section frz
variable {c c':Cx} {id:Nat}
mutual
theorem frzB_rep {cs:List LV} (hV:∀ x v,x.noref id=true→RepV c x v→RepV c' x v) (hp:∀ o v,RepV c (.ptr id o) v→RepV c' (.sptr (cs.drop o)) v):∀ (x:LV) (v:Value),RepV c x v→RepV c' (x.frzB id cs) v
 | .und,v,h=>by simp [LV.frzB,RepV]
 | .int _ _,v,h=>by simp only [LV.frzB]; exact hV _ _ (by simp [LV.noref]) h
 | .bool _,v,h=>by simp only [LV.frzB]; exact hV _ _ (by simp [LV.noref]) h
 | .nil,v,h=>by simp only [LV.frzB]; exact hV _ _ (by simp [LV.noref]) h
 | .slen _,v,h=>by simp only [LV.frzB]; exact hV _ _ (by simp [LV.noref]) h
 | .full _ _,v,h=>by simp only [LV.frzB]; exact hV _ _ (by simp [LV.noref]) h
 | .str _,v,h=>by simp only [LV.frzB]; exact hV _ _ (by simp [LV.noref]) h
 | .it _,v,h=>by simp only [LV.frzB]; exact hV _ _ (by simp [LV.noref]) h
 | .nilf,v,h=>by simp only [LV.frzB]; exact hV _ _ (by simp [LV.noref]) h
 | .nilp,v,h=>by simp only [LV.frzB]; exact hV _ _ (by simp [LV.noref]) h
 | .lst _ _,v,h=>by simp only [LV.frzB]; exact hV _ _ (by simp [LV.noref]) h
 | .sptr _,v,h=>by
  simp only [LV.frzB]
  split
  ·rename_i hn; exact hV _ _ (by simpa [LV.noref] using hn) h
  ·simp [RepV]
 | .arr i n,v,h=>by
  simp only [LV.frzB]
  split
  ·simp [RepV]
  ·rename_i hi; exact hV _ _ (by simp [LV.noref,hi]) h
 | .ptr i o,v,h=>by
  simp only [LV.frzB]
  split
  ·rename_i hi; subst hi; exact hp o v h
  ·rename_i hi; exact hV _ _ (by simp [LV.noref,hi]) h
 | .eptr i n j o,v,h=>by
  simp only [LV.frzB]
  split
  ·simp [RepV]
  ·rename_i hi; exact hV _ _ (by simp [LV.noref,hi]) h
 | .mp i,v,h=>by
  simp only [LV.frzB]
  split
  ·simp [RepV]
  ·rename_i hi; exact hV _ _ (by simp [LV.noref,hi]) h
 | .agg l,v,h=>by
  simp only [LV.frzB,RepV] at h ⊢
  obtain ⟨vs,rfl,hl⟩:=h
  exact ⟨vs,rfl,frzBL_rep hV hp l vs hl⟩
 | .tup l,v,h=>by
  simp only [LV.frzB,RepV] at h ⊢
  obtain ⟨vs,rfl,hl⟩:=h
  exact ⟨vs,rfl,frzBL_rep hV hp l vs hl⟩
 | .fn f l,v,h=>by
  simp only [LV.frzB,RepV] at h ⊢
  obtain ⟨vs,rfl,hl⟩:=h
  exact ⟨vs,rfl,frzBL_rep hV hp l vs hl⟩
 | .bfn f l,v,h=>by
  simp only [LV.frzB,RepV] at h ⊢
  obtain ⟨vs,rfl,hl⟩:=h
  exact ⟨vs,rfl,frzBL_rep hV hp l vs hl⟩
theorem frzBL_rep {cs:List LV} (hV:∀ x v,x.noref id=true→RepV c x v→RepV c' x v) (hp:∀ o v,RepV c (.ptr id o) v→RepV c' (.sptr (cs.drop o)) v):∀ (xs:List LV) (vs:List Value),RepL c xs vs→RepL c' (LV.frzBL id cs xs) vs
 | [],vs,h=>by simpa only [LV.frzBL,RepL] using h
 | x :: xs,vs,h=>by
  simp only [LV.frzBL,RepL] at h ⊢
  obtain ⟨v,vs',rfl,h1,h2⟩:=h
  exact ⟨v,vs',rfl,frzB_rep hV hp x v h1,frzBL_rep hV hp xs vs' h2⟩
end
mutual
theorem frzA_rep {k:Nat} {xs:List LV} (hV:∀ x v,x.noref id=true→RepV c x v→RepV c' x v) (hp:∀ v,RepV c (.arr id xs.length) v→RepV c' (.lst k xs) v):∀ (x:LV) (v:Value),RepV c x v→RepV c' (x.frzA id k xs) v
 | .und,v,h=>by simp [LV.frzA,RepV]
 | .int _ _,v,h=>by simp only [LV.frzA]; exact hV _ _ (by simp [LV.noref]) h
 | .bool _,v,h=>by simp only [LV.frzA]; exact hV _ _ (by simp [LV.noref]) h
 | .nil,v,h=>by simp only [LV.frzA]; exact hV _ _ (by simp [LV.noref]) h
 | .slen _,v,h=>by simp only [LV.frzA]; exact hV _ _ (by simp [LV.noref]) h
 | .full _ _,v,h=>by simp only [LV.frzA]; exact hV _ _ (by simp [LV.noref]) h
 | .str _,v,h=>by simp only [LV.frzA]; exact hV _ _ (by simp [LV.noref]) h
 | .it _,v,h=>by simp only [LV.frzA]; exact hV _ _ (by simp [LV.noref]) h
 | .nilf,v,h=>by simp only [LV.frzA]; exact hV _ _ (by simp [LV.noref]) h
 | .nilp,v,h=>by simp only [LV.frzA]; exact hV _ _ (by simp [LV.noref]) h
 | .lst _ _,v,h=>by simp only [LV.frzA]; exact hV _ _ (by simp [LV.noref]) h
 | .sptr _,v,h=>by
  simp only [LV.frzA]
  split
  ·rename_i hn; exact hV _ _ (by simpa [LV.noref] using hn) h
  ·simp [RepV]
 | .arr i n,v,h=>by
  simp only [LV.frzA]
  split
  ·rename_i hi
   split
   ·rename_i hn; subst hi; subst hn; exact hp v h
   ·simp [RepV]
  ·rename_i hi; exact hV _ _ (by simp [LV.noref,hi]) h
 | .ptr i o,v,h=>by
  simp only [LV.frzA]
  split
  ·simp [RepV]
  ·rename_i hi; exact hV _ _ (by simp [LV.noref,hi]) h
 | .eptr i n j o,v,h=>by
  simp only [LV.frzA]
  split
  ·simp [RepV]
  ·rename_i hi; exact hV _ _ (by simp [LV.noref,hi]) h
 | .mp i,v,h=>by
  simp only [LV.frzA]
  split
  ·simp [RepV]
  ·rename_i hi; exact hV _ _ (by simp [LV.noref,hi]) h
 | .agg l,v,h=>by
  simp only [LV.frzA,RepV] at h ⊢
  obtain ⟨vs,rfl,hl⟩:=h
  exact ⟨vs,rfl,frzAL_rep hV hp l vs hl⟩
 | .tup l,v,h=>by
  simp only [LV.frzA,RepV] at h ⊢
  obtain ⟨vs,rfl,hl⟩:=h
  exact ⟨vs,rfl,frzAL_rep hV hp l vs hl⟩
 | .fn f l,v,h=>by
  simp only [LV.frzA,RepV] at h ⊢
  obtain ⟨vs,rfl,hl⟩:=h
  exact ⟨vs,rfl,frzAL_rep hV hp l vs hl⟩
 | .bfn f l,v,h=>by
  simp only [LV.frzA,RepV] at h ⊢
  obtain ⟨vs,rfl,hl⟩:=h
  exact ⟨vs,rfl,frzAL_rep hV hp l vs hl⟩
theorem frzAL_rep {k:Nat} {xs:List LV} (hV:∀ x v,x.noref id=true→RepV c x v→RepV c' x v) (hp:∀ v,RepV c (.arr id xs.length) v→RepV c' (.lst k xs) v):∀ (l:List LV) (vs:List Value),RepL c l vs→RepL c' (LV.frzAL id k xs l) vs
 | [],vs,h=>by simpa only [LV.frzAL,RepL] using h
 | x :: l,vs,h=>by
  simp only [LV.frzAL,RepL] at h ⊢
  obtain ⟨v,vs',rfl,h1,h2⟩:=h
  exact ⟨v,vs',rfl,frzA_rep hV hp x v h1,frzAL_rep hV hp l vs' h2⟩
end
end frz

mutual
theorem noref_of_rep {c:Cx} {j:Nat} (hB:c.B j=.none):∀ (x:LV) (v:Value),RepV c x v→x.noref j=true
 | .und,v,h | .int _ _,v,h | .bool _,v,h | .nil,v,h | .slen _,v,h | .full _ _,v,h | .str _,v,h | .it _,v,h | .nilf,v,h | .nilp,v,h | .lst _ _,v,h=>by simp [LV.noref]
 | .sptr cs,v,h=>by
  simp only [RepV] at h
  obtain ⟨b,off,vs,_,_,_,hl,_⟩:=h
  simp only [LV.noref]; exact norefL_of_rep hB cs vs hl
 | .arr i n,v,h=>by
  simp only [RepV] at h
  obtain ⟨_,u,k,len,ins,h1,_⟩:=h
  by_cases hi:i=j
  ·subst hi; rw [hB] at h1; cases h1
  ·simp [LV.noref,hi]
 | .ptr i o,v,h=>by
  simp only [RepV] at h
  obtain ⟨b,n,h1,_⟩:=h
  by_cases hi:i=j
  ·subst hi; rw [hB] at h1; cases h1
  ·simp [LV.noref,hi]
 | .eptr i n q o,v,h=>by
  simp only [RepV] at h
  obtain ⟨_,u,k,len,ins,h1,_⟩:=h
  by_cases hi:i=j
  ·subst hi; rw [hB] at h1; cases h1
  ·simp [LV.noref,hi]
 | .mp i,v,h=>by
  simp only [RepV] at h
  obtain ⟨b,h1,_⟩:=h
  by_cases hi:i=j
  ·subst hi; rw [hB] at h1; cases h1
  ·simp [LV.noref,hi]
 | .agg l,v,h=>by
  simp only [RepV] at h
  obtain ⟨vs,rfl,hl⟩:=h
  simp only [LV.noref]; exact norefL_of_rep hB l vs hl
 | .tup l,v,h=>by
  simp only [RepV] at h
  obtain ⟨vs,rfl,hl⟩:=h
  simp only [LV.noref]; exact norefL_of_rep hB l vs hl
 | .fn f l,v,h=>by
  simp only [RepV] at h
  obtain ⟨vs,rfl,hl⟩:=h
  simp only [LV.noref]; exact norefL_of_rep hB l vs hl
 | .bfn f l,v,h=>by
  simp only [RepV] at h
  obtain ⟨vs,rfl,hl⟩:=h
  simp only [LV.noref]; exact norefL_of_rep hB l vs hl
theorem norefL_of_rep {c:Cx} {j:Nat} (hB:c.B j=.none):∀ (xs:List LV) (vs:List Value),RepL c xs vs→LV.norefL j xs=true
 | [],vs,h=>by simp [LV.norefL]
 | x :: xs,vs,h=>by
  simp only [RepL] at h
  obtain ⟨v,vs',rfl,h1,h2⟩:=h
  simp only [LV.norefL,Bool.and_eq_true]
  exact ⟨noref_of_rep hB x v h1,norefL_of_rep hB xs vs' h2⟩
end
theorem refless {c:Cx} {j:Nat} (hB:c.B j=.none) (x:LV) (v:Value) (h:RepV c x v) (hx:x.noref j=false):False:=by
 rw [noref_of_rep hB x v h] at hx; cases hx

theorem RepM.del {c:Cx} {m:Mem} (h:RepM c m) (id:Nat) (hbox:∀ i le,i ≠ id→m i=some le→le.nref id=true) :
  ∃ c':Cx,c'.w=c.w∧c'.O=c.O∧RepM c' (m.del id)∧(∀ x v,x.noref id=true→RepV c x v→RepV c' x v)∧(∀ b,c'.own b→c.own b)∧(∀ b be,c.B id=some be→be.has b→¬ c'.X b)∧∀ i,i ≠ id→c'.B i=c.B i:=by
 obtain ⟨c',hw,hO,hm',hV,hown,hnown,hB⟩:=h.sub (m.del id) (fun i=>by unfold Mem.del; split <;> simp) (fun i le hi j hj=>by
  unfold Mem.del at hi ⊢
  split at hi
  ·cases hi
  ·rename_i hne
   have hj':j ≠ id:=fun he=>by subst he; rw [hbox i le hne hi] at hj; cases hj
   simp only [hj',if_false]
   intro h0
   have he:=h.ent i
   rw [hi] at he
   have hB0:=h.fresh h0
   cases le with
   | box cs =>
    simp only [RepE] at he
    obtain ⟨b,us,e,_,_,hl,_⟩:=he
    obtain ⟨x,hx,hxr⟩:∃ x ∈ cs,x.noref j=false:=by
     have hn:LV.norefL j cs=false:=hj
     rw [← Bool.not_eq_true,norefL_iff] at hn
     simp only [Classical.not_forall] at hn
     obtain ⟨x,hx,hxn⟩:=hn
     exact ⟨x,hx,by simpa using hxn⟩
    obtain ⟨q,hq⟩:=List.mem_iff_getElem?.1 hx
    obtain ⟨v,_,hv⟩:=hl.get hq
    exact refless hB0 x v hv hxr
   | nesth _ _ _ _ _ _ id2 n2 =>
    simp only [RepE] at he
    obtain ⟨_,_,_,_,_,_,_,⟨_,v,_,_,q3⟩,_⟩:=he
    exact refless hB0 _ v q3 hj
   | _=>simp [LE.nref] at hj)
 refine ⟨c',hw,hO,hm',fun x v hx hv=>hV x v (fun j hj=>?_) hv,hown,fun b be hb hbb=>?_,fun i hi=>?_⟩
 ·have hj':j ≠ id:=fun he=>by subst he; rw [hx] at hj; cases hj
  unfold Mem.del
  simp only [hj',if_false]
  intro h0
  exact refless (h.fresh h0) x v hv hj
 ·rintro (hO' | ho')
  ·rw [hO] at hO'; exact h.notO b ⟨id,be,hb,hbb⟩ hO'
  ·refine hnown b ⟨id,be,hb,hbb⟩ (fun i be' hi hbe hbb'=>?_) ho'
   have:=h.inj i id be' be b hbe hb hbb' hbb
   subst this
   unfold Mem.del at hi
   simp at hi
 ·by_cases h0:m.del id i=.none
  ·have h1:=hm'.fresh h0
   have h2:m i=.none:=by unfold Mem.del at h0; simpa [hi] using h0
   rw [h1,h.fresh h2]
  ·exact hB i h0

def freeB (id:Nat) (ml:List (Nat × LE)):Bool:=ml.all fun q=>q.1 == id || match q.2 with | .box cs=>LV.norefL id cs | .arr _ _ _=>true | .map _ _ _=>true | .nest _ _ _ _=>true | .nesth _ _ _ _ _ _ id2 _=>id2 != id | .dead=>true

theorem Mem.of_del (ml:List (Nat × LE)) (id:Nat):(Mem.of ml).del id=Mem.of (ml.filter fun q=>q.1 != id):=by
 funext i
 unfold Mem.del
 induction ml with
 | nil=>simp [Mem.of]
 | cons p ml ih =>
  obtain ⟨d,v⟩:=p
  by_cases hd:d=id
  ·subst hd
   simp only [List.filter_cons,bne_self_eq_false,Bool.false_eq_true,if_false,← ih,Mem.of]
   split
   ·rfl
   ·rename_i hi; simp [hi]
  ·have:(d != id)=true:=by simpa using hd
   simp only [List.filter_cons,this,if_true,Mem.of]
   by_cases hi:i=id
   ·subst hi
    simp only [if_true] at ih ⊢
    rw [if_neg (fun h=>hd h.symm)]; exact ih
   ·simp only [hi,if_false] at ih ⊢
    split
    ·rfl
    ·exact ih
theorem Env.of_map (el:List (Nat × LV)) (f:LV→LV) (hf:f .und=.und):(fun i=>f (Env.of el i))=Env.of (el.map fun p=>(p.1,f p.2)):=by
 funext i
 induction el with
 | nil=>simpa [Env.of] using hf
 | cons p el ih =>
  obtain ⟨d,v⟩:=p
  simp only [Env.of,List.map_cons]
  split
  ·rfl
  ·exact ih

theorem freeB_of {id:Nat} {ml:List (Nat × LE)} (h:freeB id ml=true):∀ i le,i ≠ id→Mem.of ml i=some le→le.nref id=true:=by
 intro i le hi hm
 have:=List.all_eq_true.1 h _ (memOf_some hm)
 cases le with
 | box cs=>simpa [hi,LE.nref] using this
 | nesth _ _ _ _ _ _ _ _=>simpa [hi,LE.nref] using this
 | _=>rfl

theorem Wk.frzB {pr:Nat→Prop} {el:List (Nat × LV)} {ml:List (Nat × LE)} (id:Nat) (cs:List LV) (hid:Mem.of ml id=some (.box cs)) (hp:LV.pureL cs=true) (hfree:freeB id ml=true) (hpr:¬ pr id) :
  Wk pr (Env.of el) (Mem.of ml) (Env.of (el.map fun p=>(p.1,p.2.frzB id cs))) (Mem.of (ml.filter fun q=>q.1 != id)):=by
 intro N c a hrep
 rw [← Env.of_map el (LV.frzB id cs) (by simp [LV.frzB]),← Mem.of_del]
 obtain ⟨c',hw,hO,hm',hV,hown,hX,hB⟩:=hrep.mem.del id (freeB_of hfree)
 obtain ⟨b,vs,e,hBb,hh,hl,h1⟩:=cell_box hrep.mem hid
 refine ⟨c',hw,⟨fun i=>frzB_rep hV ?_ _ _ (hrep.env i),hm',hrep.size,hrep.defers⟩,?_⟩
 ·intro o v hv
  simp only [RepV] at hv ⊢
  obtain ⟨b',n,hB',rfl⟩:=hv
  rw [hBb] at hB'
  cases hB'
  have hra:=rangeAt_drop (rangeAt_row hh) o
  simp only [Nat.zero_add] at hra
  refine ⟨b,o,vs.drop o,rfl,by rw [hw]; exact (Array.getElem?_eq_some_iff.1 hh).1,hX b _ hBb rfl,?_,fun y hy=>h1 y (List.mem_of_mem_drop hy),by rw [hw]; exact hra⟩
  have hle:c.Le c':=⟨by rw [hw]; exact Nat.le_refl _,fun b _ hx=>⟨by rw [hw],fun hx'=>hx (hx'.imp (fun h=>by rw [hO] at h; exact h) (hown b))⟩⟩
  exact (RepL.mono hle cs vs (fun j hj=>by rw [norefL_of_pureL cs hp] at hj; cases hj) hl).drop o
 ·refine ⟨hO,by rw [hw],by rw [hw],by rw [hw],by rw [hw]; exact Nat.le_refl _,by rw [hw]; exact Nat.le_refl _,fun b _ _=>by rw [hw],fun b ho=>.inl (hown b ho),fun i be hpi hb=>?_⟩
  exact ⟨be,by rw [hB i (fun h=>hpr (h ▸ hpi))]; exact hb,.refl be⟩

theorem Wk.frzA {pr:Nat→Prop} {el:List (Nat × LV)} {ml:List (Nat × LE)} (id e k:Nat) (xs:List LV) (hid:Mem.of ml id=some (.arr e k xs)) (hfree:freeB id ml=true) (hpr:¬ pr id) :
  Wk pr (Env.of el) (Mem.of ml) (Env.of (el.map fun p=>(p.1,p.2.frzA id k xs))) (Mem.of (ml.filter fun q=>q.1 != id)):=by
 intro N c a hrep
 rw [← Env.of_map el (LV.frzA id k xs) (by simp [LV.frzA]),← Mem.of_del]
 obtain ⟨c',hw,hO,hm',hV,hown,hX,hB⟩:=hrep.mem.del id (freeB_of hfree)
 refine ⟨c',hw,⟨fun i=>frzA_rep hV ?_ _ _ (hrep.env i),hm',hrep.size,hrep.defers⟩,?_⟩
 ·intro v hv
  obtain ⟨vs,hBb,hk,hown',hl,hc,hp⟩:=arr_now hrep.mem hv hid rfl
  simp only [RepV]
  have hle:c.Le c':=⟨by rw [hw]; exact Nat.le_refl _,fun b _ hx=>⟨by rw [hw],fun hx'=>hx (hx'.imp (fun h=>by rw [hO] at h; exact h) (hown b))⟩⟩
  have hl':=RepL.mono hle xs vs (fun j hj=>by rw [norefL_of_pureL xs hp] at hj; cases hj) hl
  rcases hown'.2 with ⟨rfl,h0⟩ | ⟨g,cap,cur,rfl,_,hg,hnc,_⟩
  ·exact ⟨.none,0,by rw [h0],by omega,fun _=>rfl,hp,.inl (List.eq_nil_of_length_eq_zero h0)⟩
  ·refine ⟨some ⟨g,0,.none⟩,cap,rfl,hnc,by simp,hp,.inr ⟨g,0,vs,rfl,by rw [hw]; exact (Array.getElem?_eq_some_iff.1 hg).1,hX g _ hBb (.inl rfl),hl',hc,?_⟩⟩
   rw [hw]; exact rangeAt_own hown' rfl
 ·refine ⟨hO,by rw [hw],by rw [hw],by rw [hw],by rw [hw]; exact Nat.le_refl _,by rw [hw]; exact Nat.le_refl _,fun b _ _=>by rw [hw],fun b ho=>.inl (hown b ho),fun i be hpi hb=>?_⟩
  exact ⟨be,by rw [hB i (fun h=>hpr (h ▸ hpi))]; exact hb,.refl be⟩

theorem Wk.own {pr:Nat→Prop} {el el':List (Nat × LV)} {ml:List (Nat × LE)} (id e k:Nat) (hid:Mem.of ml id=.none) (hk:0<k)
  (hel:el'.length=el.length) (hh:∀ i:Nat,∀ p q,el[i]?=some p→el'[i]?=some q→q.1=p.1∧(q.2=p.2 ∨ (p.2=.nil∧q.2=.arr id 0))) :
  Wk pr (Env.of el) (Mem.of ml) (Env.of el') (Mem.of ((id,.arr e k []) :: ml)):=by
 intro N c a hrep
 have hB:=hrep.mem.fresh hid
 obtain ⟨c',hw,hb,h2,h3⟩:=hrep.mem.upd (pr:=pr) id (.arr e k []) (.arr (.slice .none 0 0) k 0 []) c.w rfl rfl rfl (Nat.le_refl _) (Nat.le_refl _)
  (fun b _ _=>rfl) (fun b hb=>by simp [BE.has,Value.ownBlock] at hb) (by rw [hB]; trivial) (fun _ be0 h0=>by rw [hB] at h0; cases h0)
  (fun c' hw hle hble=>by
   simp only [RepE]
   exact ⟨.slice .none 0 0,[],rfl,hk,by rw [hw]; exact World.ownsRow_nil c.w 0 e k,by simp [RepL],by simp,by simp [LV.pureL]⟩)
 refine ⟨c',hw,⟨fun i=>?_,?_,hrep.size,hrep.defers⟩,h3.grow⟩
 ·have key:∀ (el el':List (Nat × LV)),el'.length=el.length→(∀ i:Nat,∀ p q,el[i]?=some p→el'[i]?=some q→q.1=p.1∧(q.2=p.2 ∨ (p.2=.nil∧q.2=.arr id 0)))→Env.of el' i=Env.of el i ∨ (Env.of el i=.nil∧Env.of el' i=.arr id 0):=by
   intro el
   induction el with
   | nil=>intro el' hl _; have:el'=[]:=List.eq_nil_of_length_eq_zero (by simpa using hl); subst this; exact .inl rfl
   | cons p el ih =>
    intro el' hl hh
    cases el' with
    | nil=>simp at hl
    | cons q el' =>
     obtain ⟨h1,h2⟩:=hh 0 p q (by simp) (by simp)
     obtain ⟨d,v⟩:=p
     obtain ⟨d',v'⟩:=q
     simp only at h1 h2
     subst h1
     simp only [Env.of]
     split
     ·exact h2
     ·exact ih el' (by simpa using hl) (fun i p q hp hq=>hh (i+1) p q (by simpa using hp) (by simpa using hq))
  rcases key el el' hel hh with he | ⟨he,he'⟩
  ·rw [he]; exact h3.repV (hrep.env i)
  ·rw [he']
   have:=hrep.env i
   rw [he] at this
   simp only [RepV] at this ⊢
   exact ⟨by rw [this]; rfl,_,_,_,_,hb,Nat.le_refl _,fun _=>this⟩
 ·have:(Mem.of ml).put id (.arr e k [])=Mem.of ((id,.arr e k []) :: ml):=rfl
  rw [← this]; exact h2

def Env.args (l:List LV):Env:=fun i=>l.getD i .und

def lres (P:Program) (e:Env) (m:Mem):List ResultVar→(List LV→Prop)→Prop
 | [],K=>K []
 | .tmp t :: r,K=>lres P e m r fun l=>K (e t :: l)
 | .cell a t :: r,K=>match e a with
  | .ptr id o=>match m id with
   | some (.box cs)=>o≤cs.length∧loadC P t (cs.drop o) fun lv=>lres P e m r fun l=>K (lv :: l)
   | _=>False
  | .sptr cs=>loadC P t cs fun lv=>lres P e m r fun l=>K (lv :: l)
  | _=>False

def resOne (tmps:Array Value):ResultVar→Sem Value
 | .tmp t=>pure (tmps.getD t undef)
 | .cell x t=>do loadVar t (← asAddr (tmps.getD x undef))

def oneOf:List LV→LV
 | [x]=>x
 | l=>.tup l

theorem lres_sound {P:Program} {e:Env} {m:Mem}:∀ (rs:List ResultVar) (K:List LV→Prop),lres P e m rs K →
  ∃ l,K l∧∀ (N:Nat) (c:Cx) (a:Act),Rep N c e m a→∃ vs,(rs.mapM (resOne a.tmps)).run P c.w=.ok vs c.w∧RepL c l vs
 | [],K,h=>⟨[],h,fun N c a hr=>⟨[],by simp,by simp [RepL]⟩⟩
 | .tmp t :: r,K,h=>by
  simp only [lres] at h
  obtain ⟨l,hK,hl⟩:=lres_sound r _ h
  refine ⟨_,hK,fun N c a hr=>?_⟩
  obtain ⟨vs,h1,h2⟩:=hl N c a hr
  refine ⟨a.tmps.getD t undef :: vs,by simp only [List.mapM_cons,Sem.run_bind,resOne,Sem.run_pure,Result.andThen_ok,h1],?_⟩
  simp only [RepL]
  exact ⟨_,_,rfl,hr.env t,h2⟩
 | .cell x t :: r,K,h=>by
  simp only [lres] at h
  have fin:∀ (cs:List LV),loadC P t cs (fun lv=>lres P e m r fun l=>K (lv :: l))→(∀ (N:Nat) (c:Cx) (a:Act),Rep N c e m a→∃ b off vs,a.tmps.getD x undef=.pointer (some ⟨b,off,.none⟩)∧RepL c cs vs∧c.w.rangeAt b off vs)→∃ l,K l∧∀ (N:Nat) (c:Cx) (a:Act),Rep N c e m a→∃ vs,((ResultVar.cell x t :: r).mapM (resOne a.tmps)).run P c.w=.ok vs c.w∧RepL c l vs:=by
   intro cs h hat
   obtain ⟨lv,hK,hv⟩:=loadC_sound h
   obtain ⟨l,hK',hl⟩:=lres_sound r _ hK
   refine ⟨_,hK',fun N c a hr=>?_⟩
   obtain ⟨b,off,us,he,hul,hra⟩:=hat N c a hr
   obtain ⟨v,hv1,hv2⟩:=hv c b off us hul hra
   obtain ⟨vs,h1,h2⟩:=hl N c a hr
   have hlv:(loadVar t ⟨b,off,.none⟩).run P c.w=.ok v c.w:=by
    simpa [Instr.loadAt,Instr.sureAddr] using hv1
   refine ⟨v :: vs,?_,by simp only [RepL]; exact ⟨_,_,rfl,hv2,h2⟩⟩
   simp only [List.mapM_cons,resOne,Sem.run_bind,he,asAddr,Sem.run_pure,Result.andThen_ok,hlv,h1]
  cases hx:e x <;> simp only [hx] at h
  case sptr cs =>
   refine fin cs h fun N c a hr=>?_
   have:=hr.env x
   rw [hx] at this
   simp only [RepV] at this
   obtain ⟨b,off,vs,he,_,_,hl,_,hra⟩:=this
   exact ⟨b,off,vs,he,hl,hra⟩
  case ptr id o =>
   cases hm:m id with
   | none=>simp [hm] at h
   | some le =>
    cases le with
    | map _ _ _=>simp [hm] at h
    | nest _ _ _ _=>simp [hm] at h
    | nesth _ _ _ _ _ _ _ _=>simp [hm] at h
    | dead=>simp [hm] at h
    | arr _ _ _=>simp [hm] at h
    | box cs =>
     simp only [hm] at h
     refine fin (cs.drop o) h.2 fun N c a hr=>?_
     obtain ⟨b,vs,q,hB,hh,hl,h1⟩:=cell_box hr.mem hm
     have:=hr.env x
     rw [hx] at this
     simp only [RepV] at this
     obtain ⟨b',n,hB',he⟩:=this
     rw [hB] at hB'
     cases hB'
     have hra:=rangeAt_drop (rangeAt_row hh) o
     simp only [Nat.zero_add] at hra
     exact ⟨b,o,_,he,hl.drop o,hra⟩

def retQ (P:Program) (fn:Func) (pr:Nat→Prop) (R:LV→Mem→Prop):Exit→Env→Mem→Prop
 | .ret,e,m=>lres P e m fn.results.toList fun l=>∃ ml,(∀ p ∈ ml,m p.1=some p.2)∧keptRefs [(0,oneOf l)] ml=true∧(∀ id,pr id→m id=.none ∨ Mem.of ml id ≠ .none)∧R (oneOf l) (Mem.of ml)
 | .normal,e,m=>lres P e m fn.results.toList fun l=>∃ ml,(∀ p ∈ ml,m p.1=some p.2)∧keptRefs [(0,oneOf l)] ml=true∧(∀ id,pr id→m id=.none ∨ Mem.of ml id ≠ .none)∧R (oneOf l) (Mem.of ml)
 | _,_,_=>False

theorem LCall.of_body {P:Program} {f:Nat} {fn:Func} {code:Code} {args:List LV} {m:Mem} {R:LV→Mem→Prop} (hf:P.funcs[f]?=some fn) (hb:fn.body=some code) (hn:args.length≤fn.ntmps)
  (h:LH P fn.ntmps (fun id=>m id ≠ .none) code (retQ P fn (fun id=>m id ≠ .none) R) (Env.args args) m):∃ lv m',LCall P f args m lv m'∧R lv m':=by
 obtain ⟨ex,e',m1,hx,hq⟩:=h
 have main:(lres P e' m1 fn.results.toList fun l=>∃ ml,(∀ p ∈ ml,m1 p.1=some p.2)∧keptRefs [(0,oneOf l)] ml=true∧(∀ id,m id ≠ .none→m1 id=.none ∨ Mem.of ml id ≠ .none)∧R (oneOf l) (Mem.of ml))→(ex=.ret ∨ ex=.normal)→∃ lv m',LCall P f args m lv m'∧R lv m':=by
  intro hres hex
  obtain ⟨l,⟨ml,h1,h2,h3,hR⟩,hl⟩:=lres_sound _ _ hres
  refine ⟨oneOf l,Mem.of ml,fun c vs hm ha=>?_,hR⟩
  refine calls_of_wp hf hb ?_
  have hlen:=ha.length
  have hrep:Rep fn.ntmps c (Env.args args) m { tmps:=vs.toArray++Array.replicate (fn.ntmps - vs.toArray.size) undef,defers:=[] }:=by
   refine ⟨fun i=>?_,hm,by simp; omega,rfl⟩
   simp only [Env.args,List.getD_eq_getElem?_getD]
   cases hi:args[i]? with
   | none=>simp [RepV]
   | some x =>
    obtain ⟨v,hv,hr⟩:=ha.get hi
    have hil:i<vs.length:=(List.getElem?_eq_some_iff.1 hv).1
    have:(vs.toArray++Array.replicate (fn.ntmps - vs.toArray.size) undef).getD i undef=v:=by
     rw [Array.getD_eq_getD_getElem?,Array.getElem?_append_left (by simpa using hil)]
     simp [hv]
    rw [this]; exact hr
  refine wp_mono (hx c _ hrep) ?_
  rintro x a' w' ⟨rfl,c1,rfl,hr1,hg1⟩
  obtain ⟨us,hus,hul⟩:=hl _ c1 a' hr1
  have hone:(results fn a'.tmps).run P c1.w=.ok (if h:us.toArray.size=1 then us.toArray[0] else .tuple us.toArray) c1.w:=by
   have e1:results fn a'.tmps=(do let vs ← fn.results.mapM (resOne a'.tmps); pure (if h:vs.size=1 then vs[0] else .tuple vs)):=by
    unfold results
    congr 2
   rw [e1,Array.mapM_eq_mapM_toList]
   simp only [Sem.run_bind,Sem.run_map,hus,Result.andThen_ok,Sem.run_pure]
  have hrv:RepV c1 (oneOf l) (if h:us.toArray.size=1 then us.toArray[0] else .tuple us.toArray):=by
   have hll:=hul.length
   match l,us,hul with
   | [],us,hul=>simp only [RepL] at hul; subst hul; simp [oneOf,RepV,RepL]
   | [x],us,hul =>
    simp only [RepL] at hul
    obtain ⟨v,vs',rfl,hv,rfl⟩:=hul
    simpa [oneOf] using hv
   | x :: y :: l,us,hul =>
    have hsz:¬ us.toArray.size=1:=by have:=hul.length; simp at this ⊢; omega
    rw [dif_neg hsz]
    simp only [oneOf,RepV]
    exact ⟨us,rfl,hul⟩
  obtain ⟨c2,hw2,⟨henv2,hm2,_,_⟩,hg2⟩:=Wk.cut (pr:=fun id=>m id ≠ .none) (e:=Env.of [(0,oneOf l)]) (m:=m1) [(0,oneOf l)] ml (by simp [Env.of]) h1 h2 (fun id hp=>h3 id hp) 1 c1 { tmps:=#[if h:us.toArray.size=1 then us.toArray[0] else .tuple us.toArray],defers:=[] }
   ⟨fun i=>by
    by_cases hi:i=0
    ·subst hi; simpa [Env.of] using hrv
    ·simp [Env.of,hi,RepV],hr1.mem,rfl,rfl⟩
  have hv2:=henv2 0
  simp only [Env.of,if_true] at hv2
  have hpost:a'.defers=[]∧∃ v,(results fn a'.tmps).run P c1.w=.ok v c1.w∧∃ v' c',Ending.returned v=.returned v'∧c'.w=c1.w∧RepM c' (Mem.of ml)∧RepV c' (oneOf l) v'∧Grow (fun id=>m id ≠ .none) c c' :=
   ⟨hr1.defers,_,hone,_,c2,rfl,hw2,hm2,by simpa using hv2,hg1.trans hg2⟩
  rcases hex with rfl | rfl
  ·exact hpost
  ·exact hpost
 cases ex with
 | ret=>exact main hq (.inl rfl)
 | normal=>exact main hq (.inr rfl)
 | _=>exact hq.elim

def PCall (P:Program) (f:Nat) (args:List LV) (lv:LV):Prop:=LCall P f args Mem.none lv Mem.none

theorem Mem.over_none (m:Mem):m.over Mem.none=m:=by funext i; rfl

theorem PCall.of_body {P:Program} {f:Nat} {fn:Func} {code:Code} {args:List LV} {R:LV→Prop} (hf:P.funcs[f]?=some fn) (hb:fn.body=some code) (hn:args.length≤fn.ntmps)
  (h:LH P fn.ntmps (fun _=>False) code (retQ P fn (fun _=>False) fun lv m'=>m'=Mem.none∧R lv) (Env.args args) Mem.none):∃ lv,PCall P f args lv∧R lv:=by
 have hpr:(fun id=>Mem.none id ≠ .none)=fun _:Nat=>False:=by funext id; simp [Mem.none]
 obtain ⟨lv,m',h1,rfl,h2⟩:=LCall.of_body (m:=Mem.none) (R:=fun lv m'=>m'=Mem.none∧R lv) hf hb hn (by rw [hpr]; exact h)
 exact ⟨lv,h1,h2⟩

theorem rename_core {c:Cx} {i j:Nat} {le:LE} (hp:(match le with | .box cs=>LV.pureL cs | .arr _ _ _=>true | .map _ _ _=>true | .nest _ _ _ _=>true | .nesth _ _ _ _ _ _ _ _=>false | .dead=>true)=true) (hm:RepM c (Mem.of [(i,le)])) :
  ∃ c':Cx,c'.w=c.w∧c'.O=c.O∧RepM c' (Mem.of [(j,le)])∧c'.B j=c.B i∧(∀ b,c'.own b→c.own b):=by
 let c':Cx:=⟨c.w,fun k=>if k=j then c.B i else .none,c.O⟩
 have hown:∀ b,c'.own b→c.own b:=by
  rintro b ⟨k,be,h1,h2⟩
  simp only [c'] at h1
  split at h1
  ·exact ⟨i,be,h1,h2⟩
  ·cases h1
 have hle:c.Le c':=⟨Nat.le_refl _,fun b _ hX=>⟨rfl,fun hX'=>hX (hX'.imp (fun h=>h) (hown b))⟩⟩
 refine ⟨c',rfl,rfl,⟨fun k=>?_,?_,fun b ho=>hm.notO b (hown b ho),hm.Olt⟩,by simp [c'],hown⟩
 ·by_cases hk:k=j
  ·subst hk
   have he:=hm.ent i
   have hb:c'.B k=c.B i:=by simp [c']
   rw [hb]
   simp only [Mem.of,if_true] at he ⊢
   cases le with
   | box cs =>
    simp only [RepE] at he ⊢
    obtain ⟨b,us,e,h1,h2,h3,h4⟩:=he
    exact ⟨b,us,e,h1,h2,RepL.mono hle cs us (fun q hq=>by rw [norefL_of_pureL cs hp] at hq; cases hq) h3,h4⟩
   | arr e k' xs =>
    simp only [RepE] at he ⊢
    obtain ⟨u,us,h1,h0,h2,h3,h4,h5⟩:=he
    exact ⟨u,us,h1,h0,h2,RepL.mono hle xs us (fun q hq=>by rw [norefL_of_pureL xs h5] at hq; cases hq) h3,h4,h5⟩
   | nest e k' os xs =>
    simp only [RepE] at he ⊢
    obtain ⟨u,us,bs,h1,h0,h2,h3,h4⟩:=he
    exact ⟨u,us,bs,h1,h0,h2,h3.mono hle (fun b _=>rfl),h4⟩
   | nesth _ _ _ _ _ _ _ _=>cases hp
   | dead=>simpa only [RepE] using he
   | map kt vt es =>
    simp only [RepE] at he ⊢
    obtain ⟨b,es',ck,h1,h2,h3,h4,h5,h6,h7⟩:=he
    exact ⟨b,es',ck,h1,h2,RepL.mono hle _ _ (fun j hj=>by rw [norefL_of_pureL _ h5] at hj; cases hj) h3,RepL.mono hle _ _ (fun j hj=>by rw [norefL_of_pureL _ h6] at hj; cases hj) h4,h5,h6,h7⟩
  ·simp [Mem.of,hk,RepE,c']
 ·intro k k' be be' b h1 h2 h3 h4
  simp only [c'] at h1 h2
  split at h1
  ·rename_i hk
   split at h2
   ·rename_i hk'; rw [hk,hk']
   ·cases h2
  ·cases h1

theorem LCall.renamePtr {P:Program} {f:Nat} {args:List LV} {i o:Nat} {le:LE} (j:Nat) (hp:(match le with | .box cs=>LV.pureL cs | .arr _ _ _=>true | .map _ _ _=>true | .nest _ _ _ _=>true | .nesth _ _ _ _ _ _ _ _=>false | .dead=>true)=true) (h:LCall P f args Mem.none (.ptr i o) (Mem.of [(i,le)])):LCall P f args Mem.none (.ptr j o) (Mem.of [(j,le)]):=by
 intro c vs hm ha
 refine (h c vs hm ha).mono ?_
 rintro en w' ⟨v,c1,rfl,rfl,hm1,hv1,hg⟩
 obtain ⟨c2,hw,hO,hm2,hB,hown⟩:=rename_core (j:=j) hp hm1
 refine ⟨v,c2,rfl,hw,hm2,?_,⟨by rw [hO,hg.O],by rw [hw]; exact hg.os,by rw [hw]; exact hg.tape,by rw [hw]; exact hg.output,by rw [hw]; exact hg.drawn,by rw [hw]; exact hg.size,fun b hb ho=>by rw [hw]; exact hg.keep b hb ho,fun b ho=>hg.own b (hown b ho),fun id be hp=>absurd rfl hp⟩⟩
 simp only [RepV] at hv1 ⊢
 rw [hB]; exact hv1

theorem PCall.callS {P:Program} {f:Nat} {args:List LV} {lv:LV} (h:PCall P f args lv) (hp:LV.pureL args=true) (m:Mem) {K:LV→Mem→Prop} (hK:K lv m):CallS P f args m K:=by
 refine ⟨lv,Mem.none,Mem.none,h,fun id hid=>absurd rfl hid,fun id _ hid=>absurd rfl hid,fun id hid=>?_,(fun id cs hid=>by cases hid),by rw [Mem.over_none]; exact hK⟩
 rw [norefL_of_pureL args hp] at hid; cases hid

theorem PCall.calls {P:Program} {f:Nat} {args:List LV} {lv:LV} (h:PCall P f args lv) (w:World) (vs:List Value) (ha:RepL ⟨w,fun _=>.none,fun _=>False⟩ args vs) :
  Calls P f vs.toArray w fun en w'=>(∃ v c',en=.returned v∧c'.w=w'∧RepV c' lv v)∧RowKit.Below w.heap.size w w':=by
 have hm:RepM ⟨w,fun _=>.none,fun _=>False⟩ Mem.none :=
  ⟨fun id=>rfl,fun i i' be be' b h1=>by simp at h1,fun b ho=>fun h=>h,fun b h=>h.elim⟩
 refine (h _ vs hm ha).mono ?_
 rintro en w' ⟨v,c',he,rfl,_,hv,hg⟩
 refine ⟨⟨v,c',he,rfl,hv⟩,hg.os,hg.tape,hg.output,hg.size,fun b hb=>hg.keep b hb ?_⟩
 rintro ⟨id,be,h1,_⟩
 simp at h1
end Go.L
set_option linter.unusedVariables false
set_option linter.unusedSimpArgs false
namespace Go.L
section
variable {P:Program} {N:Nat} {pr:Nat→Prop} {ro:List Nat} {ops:Array Oper} {e:Env} {m:Mem} {ev:Operand→LV} {d:Option Nat} {ty:TypeId} {pos:String} {af:Array Edge} {g:Option (Nat × Bool)}

theorem LStep_some (op:Op) (j:Nat) (want:Bool) (K:Env→Mem→Prop):LStep P pr ro ops ⟨d,op,ty,pos,af,some (j,want)⟩ K e m=match (ops[j]?).bind (·.dst) with
  | some q=>match e q with
   | .bool t=>if t=want then LOp P pr ro ⟨d,op,ty,pos,af,some (j,want)⟩ (lev e) m fun lv m'=>K (e.put? d lv) m' else K (e.put? d (.tup [])) m
   | .tup []=>K (e.put? d (.tup [])) m
   | _=>False
  | .none=>False:=rfl

section ops
variable {K:LV→Mem→Prop}
@[go_sem] theorem LOp_move (x:Operand):LOp P pr ro ⟨d,.move x,ty,pos,af,g⟩ ev m K=K (ev x) m:=rfl
@[go_sem] theorem LOp_assign (x:Operand):LOp P pr ro ⟨d,.assign x,ty,pos,af,g⟩ ev m K=K (ev x) m:=rfl
@[go_sem] theorem LOp_pick (c a b:Operand):LOp P pr ro ⟨d,.pick c a b,ty,pos,af,g⟩ ev m K=match ev c with | .bool t=>K (if t then ev a else ev b) m | _=>False:=rfl
@[go_sem] theorem LOp_alloc (t:TypeId) (i:Nat):LOp P pr ro ⟨some i,.alloc t,ty,pos,af,g⟩ ev m K=match tzero P t with
  | some z=>m (100+i)=.none∧K (.ptr (100+i) 0) (m.put (100+i) (.box z.cells))
  | .none=>False:=by
 simp only [LOp]; cases tzero P t <;> rfl
@[go_sem] theorem LOp_box (t:TypeId) (x:Operand) (i:Nat):LOp P pr ro ⟨some i,.box t x,ty,pos,af,g⟩ ev m K=((ev x).cells.all LV.scalar=true ∧
      if ro.contains i=true then K (.sptr (ev x).cells) m
      else m (100+i)=.none∧K (.ptr (100+i) 0) (m.put (100+i) (.box (ev x).cells))):=rfl
@[go_sem] theorem LOp_build (t:TypeId) (l:List (Nat × Operand)):LOp P pr ro ⟨d,.build t l.toArray,ty,pos,af,g⟩ ev m K=(tbuild P t=true∧match tzero P t with
  | some (.agg z)=>match lfill P t z (l.map fun p=>(p.1,ev p.2)) with
   | some cs=>K (.agg cs) m
   | .none=>False
  | _=>False):=rfl
@[go_sem] theorem LOp_buildSlice (t:TypeId) (len:Nat) (l:List (Nat × Operand)):LOp P pr ro ⟨d,.buildSlice t len l.toArray,ty,pos,af,g⟩ ev m K=match telem P t with
  | some e=>trow P e=true∧len * tsize P e≤16777216∧l.map (·.1)=List.range len∧okEls (tsize P e) (l.map fun p=>ev p.2)∧K (.lst (tsize P e) (l.map fun p=>ev p.2)) m
  | .none=>False:=rfl
@[go_sem] theorem LOp_load (t:TypeId) (a:Operand):LOp P pr ro ⟨d,.load t a,ty,pos,af,g⟩ ev m K=match ev a with
  | .sptr cs=>loadC P t cs fun lv=>K lv m
  | .ptr id o=>match m id with
   | some (.box cs)=>o≤cs.length∧loadC P t (cs.drop o) fun lv=>K lv m
   | _=>False
  | .eptr id n i o=>match m id with
   | some (.arr _ _ xs)=>n=xs.length∧∃ x,xs[i]?=some x∧x.cells.all LV.scalar=true∧o≤x.cells.length∧loadC P t (x.cells.drop o) fun lv=>K lv m
   | _=>False
  | _=>False:=rfl
@[go_sem] theorem LOp_store (t:TypeId) (a x:Operand):LOp P pr ro ⟨d,.store t a x,ty,pos,af,g⟩ ev m K=((ev x).cells.all LV.scalar=true∧tok P t=true∧tsize P t=(ev x).cells.length∧match ev a with
  | .ptr id o=>match m id with
   | some (.box cs)=>o+(ev x).cells.length≤cs.length∧K .und (m.put id (.box (rep cs o (ev x).cells)))
   | _=>False
  | .eptr id n i o=>match m id with
   | some (.arr e k xs)=>n=xs.length∧LV.pureL (ev x).cells=true∧∃ y z,xs[i]?=some y∧setEl y o (ev x)=some z∧K .und (m.put id (.arr e k (xs.set i z)))
   | _=>False
  | _=>False):=rfl
@[go_sem] theorem LOp_nilCheck (x:Operand):LOp P pr ro ⟨d,.nilCheck x,ty,pos,af,g⟩ ev m K=match ev x with
  | .ptr _ _=>K (ev x) m
  | .sptr _=>K (ev x) m
  | .eptr id n _ _=>(match m id with | some (.arr _ _ xs)=>n=xs.length | _=>False)∧K (ev x) m
  | .fn _ _=>K (ev x) m
  | _=>False:=rfl
@[go_sem] theorem LOp_binOp (op:BinOp) (t t':TypeId) (x y:Operand):LOp P pr ro ⟨d,.binOp op t x y t',ty,pos,af,g⟩ ev m K=match ev x,ev y with
  | .int k a,.int k' b=>k=k'∧intBin op k a b fun lv=>K lv m
  | .bool a,.bool b=>tbool P t=true∧(match op with | .eql=>K (.bool (a == b)) m | .neq=>K (.bool (!(a == b))) m | _=>False)
  | .agg xs,.agg ys=>∃ b,AggEq P t xs ys b∧(match op with | .eql=>K (.bool b) m | .neq=>K (.bool (!b)) m | _=>False)
  | _,_=>False:=rfl
@[go_sem] theorem LOp_not (t:TypeId) (x:Operand):LOp P pr ro ⟨d,.unOp .not t x,ty,pos,af,g⟩ ev m K=match ev x with
  | .bool b=>K (.bool (!b)) m
  | _=>False:=by
 simp only [LOp]; cases ev x <;> rfl
@[go_sem] theorem LOp_convert (s t:TypeId) (x:Operand):LOp P pr ro ⟨d,.convert s t x,ty,pos,af,g⟩ ev m K=(tok P s=true∧match tint P t,ev x with
  | some k,.int _ n=>K (.int k (k.wrap n)) m
  | _,_=>False):=rfl
@[go_sem] theorem LOp_slice (t:TypeId) (x:Operand) (lo hi mx:Option Operand):LOp P pr ro ⟨d,.slice t x lo hi mx,ty,pos,af,g⟩ ev m K=((telem P t).isSome=true∧tok P ((telem P t).getD 0)=true∧mx=.none∧match ev x with
  | .lst k xs=>some k=(telem P t).map (tsize P)∧∃ l h:Nat,(match lo with | .none=>l=0 | some y=>ev y=.int .i64 l)∧(match hi with | .none=>h=xs.length | some y=>ev y=.int .i64 h) ∧
    l≤h∧h≤xs.length∧K (.lst k ((xs.take h).drop l)) m
  | .nil=>(match lo with | .none=>True | some y=>ev y=.int .i64 0)∧(match hi with | .none=>True | some y=>ev y=.int .i64 0)∧K .nil m
  | _=>False):=rfl
@[go_sem] theorem LOp_fieldAddr (t:TypeId) (x:Operand) (f:Nat):LOp P pr ro ⟨d,.fieldAddr t x f,ty,pos,af,g⟩ ev m K=match tfield P t f with
  | some (off,ft)=>tok P ft=true∧tsize P ft ≠ 0∧match ev x with
   | .sptr cs=>off≤cs.length∧K (.sptr (cs.drop off)) m
   | .ptr id o=>K (.ptr id (o+off)) m
   | .eptr id n i o=>(match m id with | some (.arr _ _ xs)=>n=xs.length | _=>False)∧K (.eptr id n i (o+off)) m
   | _=>False
  | .none=>False:=rfl
@[go_sem] theorem LOp_indexAddr (t:TypeId) (x i:Operand):LOp P pr ro ⟨d,.indexAddr t x i,ty,pos,af,g⟩ ev m K=match telem P t,ev x,ev i with
  | some e,.lst k xs,.int _ n=>tok P e=true∧k=tsize P e∧0≤n∧∃ y,xs[n.toNat]?=some y∧y.cells.all LV.scalar=true∧K (.sptr y.cells) m
  | some e,.arr id l,.int _ n=>match m id with
   | some (.arr _ k xs)=>tok P e=true∧l=xs.length∧k=tsize P e∧0≤n∧n<l∧K (.eptr id l n.toNat 0) m
   | _=>False
  | _,_,_=>False:=rfl
@[go_sem] theorem LOp_extract (t:Operand) (i:Nat):LOp P pr ro ⟨d,.extract t i,ty,pos,af,g⟩ ev m K=match ev t with
  | .tup vs=>∃ v,vs[i]?=some v∧K v m
  | _=>False:=rfl
@[go_sem] theorem LOp_makeFunc (f:Nat) (cap:List Operand):LOp P pr ro ⟨d,.makeFunc (.func f) #[] cap.toArray,ty,pos,af,g⟩ ev m K=K (.fn f (cap.map ev)) m:=by
 simp [LOp]
@[go_sem] theorem LOp_makeSlice (t:TypeId) (l c:Operand) (i:Nat):LOp P pr ro ⟨some i,.makeSlice t l c,ty,pos,af,g⟩ ev m K=match telem P t,tzero P ((telem P t).getD 0),ev l,ev c,some i with
  | some e,some z,.int .i64 n,.int .i64 n',some d=>n=n'∧0≤n∧n≤549755813888∧trow P e=true∧z.pure=true∧m (100+d)=.none ∧
    K (.arr (100+d) n.toNat) (m.put (100+d) (.arr e (tsize P e) (List.replicate n.toNat z)))
  | _,_,_,_,_=>False:=rfl
@[go_sem] theorem LOp_len (x:Operand) (t:TypeId):LOp P pr ro ⟨d,.call ⟨.builtin .len,#[x],#[t]⟩,ty,pos,af,g⟩ ev m K=((telem P t).isSome=true∧match ev x with
        | .lst _ xs=>K (.int .i64 xs.length) m
        | .nil=>K (.int .i64 0) m
        | .arr id n=>(match m id with | some (.arr _ _ xs)=>n=xs.length | _=>False)∧K (.int .i64 n) m
        | _=>False):=rfl
def appTo (P:Program) (pr:Nat→Prop) (m:Mem) (i e:Nat) (x:LV) (K:LV→Mem→Prop) (ys:List LV):Prop :=
 match x with
 | .arr id n=>¬ pr id∧match m id with
  | some (.arr e' k xs)=>e'=e∧k=tsize P e∧n=xs.length∧xs.length+ys.length≤549755813888∧K (.arr id (n+ys.length)) (m.put id (.arr e k (xs++ys)))
  | _=>False
 | .nil=>m (100+i)=.none∧ys.length≤549755813888∧K (.arr (100+i) ys.length) (m.put (100+i) (.arr e (tsize P e) ys))
 | _=>False
attribute [go_sem] appTo
@[go_sem] theorem LOp_append (x y:Operand) (t t':TypeId) (i:Nat):LOp P pr ro ⟨some i,.call ⟨.builtin .append,#[x,y],#[t,t']⟩,ty,pos,af,g⟩ ev m K=(t=t'∧match telem P t with
        | some e=>trow P e=true∧match ev y with
          | .lst k ys=>k=tsize P e∧appTo P pr m i e (ev x) K ys
          | .nil=>appTo P pr m i e (ev x) K []
          | _=>False
        | .none=>False):=by
  have h0:LOp P pr ro ⟨some i,.call ⟨.builtin .append,#[x,y],#[t,t']⟩,ty,pos,af,g⟩ ev m K=(t=t'∧match telem P t with
        | some e=>trow P e=true∧∃ ys,(ev y=.lst (tsize P e) ys ∨ (ev y=.nil∧ys=[]))∧appTo P pr m i e (ev x) K ys
        | .none=>False):=rfl
  rw [h0]
  cases telem P t with
  | none=>rfl
  | some e =>
    simp only
    congr 2
    cases hy:ev y <;> simp
    case lst k ys =>
      constructor
      · rintro ⟨zs,⟨rfl,rfl⟩,h⟩; exact ⟨rfl,h⟩
      · rintro ⟨rfl,h⟩; exact ⟨ys,⟨rfl,rfl⟩,h⟩
@[go_sem] theorem LOp_call (x:Operand) (l:List Operand) (ts:Array TypeId):LOp P pr ro ⟨d,.call ⟨.value x,l.toArray,ts⟩,ty,pos,af,g⟩ ev m K=match ev x with
      | .fn f cap => (∃ fn, P.funcs[f]? = some fn ∧ (fn.name == "runtime.NumGoroutine") = false ∧ fn.body.isNone = false) ∧ CallS P f (l.map ev ++ cap) m K
      | _=>False:=rfl
end ops

attribute [go_sem] LV.refs LV.refsL LV.cells intBin rep lfill LV.scalar LV.pure LV.pureL ofV ofV1 setEl lres oneOf List.all_cons List.all_nil List.map_cons List.map_nil List.drop_zero List.drop_succ_cons List.drop_nil List.take_succ_cons List.take_zero List.take_nil List.length_cons List.length_nil List.nil_append List.cons_append List.getElem?_cons_zero List.getElem?_cons_succ Bool.and_true Bool.true_and Bool.and_self List.getD_cons_zero List.getD_cons_succ List.getD_nil
@[go_sem] theorem loadC_def (t:TypeId) (cs:List LV) (K:LV→Prop):loadC P t cs K=(tok P t=true∧if tagg P t=true then tsize P t≤cs.length∧K (.agg (cs.take (tsize P t))) else match cs with | x :: _=>K x | []=>False):=rfl
def EnvIs (e:Env):List (Nat × LV)→Prop
 | []=>True
 | (i,v) :: r=>e i=v∧EnvIs e r
def MemIs (m:Mem):List (Nat × LE)→Prop
 | []=>True
 | (i,v) :: r=>m i=some v∧MemIs m r
theorem EnvIs.all:∀ {l:List (Nat × LV)},EnvIs e l→∀ p ∈ l,e p.1=p.2
 | [],_,p,hp=>by cases hp
 | (i,v) :: r,h,p,hp=>by
  rcases List.mem_cons.1 hp with rfl | hp
  ·exact h.1
  ·exact EnvIs.all h.2 p hp
theorem MemIs.all:∀ {l:List (Nat × LE)},MemIs m l→∀ p ∈ l,m p.1=some p.2
 | [],_,p,hp=>by cases hp
 | (i,v) :: r,h,p,hp=>by
  rcases List.mem_cons.1 hp with rfl | hp
  ·exact h.1
  ·exact MemIs.all h.2 p hp
theorem Wk.is (el:List (Nat × LV)) (ml:List (Nat × LE)) (he:EnvIs e el) (hm:MemIs m ml) (hr:keptRefs el ml=true) (hpr:∀ id,pr id→m id=.none ∨ Mem.of ml id ≠ .none):Wk pr e m (Env.of el) (Mem.of ml):=Wk.cut el ml he.all hm.all hr hpr
theorem LH.cut {c:Code} {Q:Exit→Env→Mem→Prop} (el:List (Nat × LV)) (ml:List (Nat × LE)) (he:EnvIs e el) (hm:MemIs m ml) (hr:keptRefs el ml=true) (hpr:∀ id,pr id→m id=.none ∨ Mem.of ml id ≠ .none) (h:LH P N pr c Q (Env.of el) (Mem.of ml)):LH P N pr c Q e m:=LH.wk (Wk.is el ml he hm hr hpr) h
theorem LH.mid {x y:Code} {Q:Exit→Env→Mem→Prop} (M:Env→Mem→Prop) (h1:LH P N pr x (thenQ M Q) e m) (h2:∀ e m,M e m→LH P N pr y Q e m):LH P N pr (.seq x y) Q e m :=
 LH.seq (h1.mono fun ex e m h=>by cases ex <;> first | exact h2 e m h | exact h)
theorem LCall.callL {f:Nat} {args:List LV} {lv:LV} {ml ml':List (Nat × LE)} {K:LV→Mem→Prop} (h:LCall P f args (Mem.of ml) lv (Mem.of ml')) (hm:MemIs m ml) (hnew:∀ p ∈ ml',(ml.any fun q=>q.1 == p.1)=true ∨ m p.1=.none) (hargs:keptRefs (args.map fun x=>(0,x)) ml=true) (hK:K lv (m.over (Mem.of ml'))):CallS P f args m K:=by
 simp only [keptRefs,Bool.and_eq_true,List.all_eq_true] at hargs
 refine ⟨lv,_,_,h,fun i hi=>?_,fun i hi hi'=>?_,fun i hi=>?_,fun i cs hi j hj=>?_,hK⟩
 ·cases hq:Mem.of ml i with
  | none=>exact absurd hq hi
  | some le=>exact hm.all _ (memOf_some hq)
 ·cases hq:Mem.of ml' i with
  | none=>exact absurd hq hi'
  | some le =>
   rcases hnew _ (memOf_some hq) with h1 | h1
   ·exact absurd hi (memOf_ne h1)
   ·exact h1
 ·have key:∀ (l:List LV),LV.norefL i l=false→∃ x ∈ l,i ∈ x.refs:=by
   intro l
   induction l with
   | nil=>intro h; simp [LV.norefL] at h
   | cons x l ih =>
    intro h
    simp only [LV.norefL,Bool.and_eq_false_iff] at h
    rcases h with h | h
    ·exact ⟨x,by simp,refs_of_noref x h⟩
    ·obtain ⟨y,hy,hr⟩:=ih h
     exact ⟨y,by simp [hy],hr⟩
  obtain ⟨x,hx,hr⟩:=key args hi
  exact memOf_ne (hargs.1 (0,x) (List.mem_map.2 ⟨x,hx,rfl⟩) i hr)
 ·have h2:=hargs.2 _ (memOf_some hi)
  cases cs with
  | box cs =>
   simp only [List.all_eq_true] at h2
   exact memOf_ne (h2 j (refsL_of_norefL cs hj))
  | nesth _ _ _ _ _ _ id2 _ =>
   simp only [LE.nref,bne_eq_false_iff_eq] at hj
   subst hj
   exact memOf_ne h2
  | _=>simp [LE.nref] at hj
end
end Go.L
set_option linter.unusedVariables false
set_option linter.unusedSimpArgs false
namespace Go.L
section
variable {P:Program} {N:Nat} {pr:Nat→Prop} {ro:List Nat} {o:Oper} {ev ev':Operand→LV} {m:Mem} {K:LV→Mem→Prop}

theorem loadC_out {t:TypeId} {cs:List LV} {K:LV→Prop} (h:loadC P t cs K):∃ lv,K lv∧∀ K':LV→Prop,K' lv→loadC P t cs K':=by
 obtain ⟨ht,h⟩:=h
 by_cases hg:tagg P t=true
 ·rw [if_pos hg] at h
  exact ⟨_,h.2,fun K' hK=>⟨ht,by rw [if_pos hg]; exact ⟨h.1,hK⟩⟩⟩
 ·rw [if_neg hg] at h
  match cs,h with
  | x :: cs,h=>exact ⟨x,h,fun K' hK=>⟨ht,by rw [if_neg hg]; exact hK⟩⟩

theorem intBin_out {op:BinOp} {k:IntKind} {a b:Int} {K:LV→Prop} (h:intBin op k a b K):∃ lv,K lv∧∀ K':LV→Prop,K' lv→intBin op k a b K':=by
 cases op <;> simp only [intBin] at h ⊢ <;> first | exact h.elim | exact ⟨_,h,fun K' hK=>hK⟩ | exact ⟨_,h.2,fun K' hK=>⟨h.1,hK⟩⟩

theorem put_ne_none {m:Mem} {id:Nat} {x:LE}:m.put id x ≠ Mem.none:=fun h=>by
 have:=congrFun h id
 simp [Mem.put,Mem.none] at this

theorem LOp_out (h:LOp P pr ro o ev m K):∃ lv m',K lv m'∧(∀ K':LV→Mem→Prop,K' lv m'→LOp P pr ro o ev m K')∧(m=Mem.none→m'=Mem.none→∀ m0,∀ K':LV→Mem→Prop,K' lv m0→LOp P pr ro o ev m0 K'):=by
 have plain:∀ lv,K lv m→(∀ m0,∀ K':LV→Mem→Prop,K' lv m0→LOp P pr ro o ev m0 K')→∃ lv m',K lv m'∧(∀ K':LV→Mem→Prop,K' lv m'→LOp P pr ro o ev m K')∧(m=Mem.none→m'=Mem.none→∀ m0,∀ K':LV→Mem→Prop,K' lv m0→LOp P pr ro o ev m0 K') :=
  fun lv hK hall=>⟨lv,m,hK,fun K' hK'=>hall m K' hK',fun _ _=>hall⟩
 have reader:∀ lv,K lv m→(∀ K':LV→Mem→Prop,K' lv m→LOp P pr ro o ev m K')→(m=Mem.none→False)→∃ lv m',K lv m'∧(∀ K':LV→Mem→Prop,K' lv m'→LOp P pr ro o ev m K')∧(m=Mem.none→m'=Mem.none→∀ m0,∀ K':LV→Mem→Prop,K' lv m0→LOp P pr ro o ev m0 K') :=
  fun lv hK hall hn=>⟨lv,m,hK,hall,fun h0=>(hn h0).elim⟩
 have writer:∀ lv id x,K lv (m.put id x)→(∀ K':LV→Mem→Prop,K' lv (m.put id x)→LOp P pr ro o ev m K')→∃ lv m',K lv m'∧(∀ K':LV→Mem→Prop,K' lv m'→LOp P pr ro o ev m K')∧(m=Mem.none→m'=Mem.none→∀ m0,∀ K':LV→Mem→Prop,K' lv m0→LOp P pr ro o ev m0 K') :=
  fun lv id x hK hall=>⟨lv,_,hK,hall,fun _ h0=>absurd h0 put_ne_none⟩
 obtain ⟨d,op,ty,pos,af,g⟩:=o
 cases op
 case move x=>exact plain _ h fun m0 K' hK=>hK
 case assign x=>exact plain _ h fun m0 K' hK=>hK
 case pick c a b =>
  simp only [LOp] at h
  cases hc:ev c <;> simp only [hc] at h
  case bool t=>exact plain _ h fun m0 K' hK=>by simp only [LOp,hc]; exact hK
 case alloc t =>
  simp only [LOp] at h
  split at h
  ·rename_i z i hz
   exact writer _ _ _ h.2 fun K' hK=>by simp only [LOp,hz]; exact ⟨h.1,hK⟩
  ·cases h
 case box t x =>
  simp only [LOp] at h
  split at h
  ·rename_i i
   obtain ⟨hs,h⟩:=h
   split at h
   ·rename_i hro
    exact plain _ h fun m0 K' hK=>by simp only [LOp]; exact ⟨hs,by rw [if_pos hro]; exact hK⟩
   ·rename_i hro
    exact writer _ _ _ h.2 fun K' hK=>by simp only [LOp]; exact ⟨hs,by rw [if_neg hro]; exact ⟨h.1,hK⟩⟩
  ·cases h
 case build t parts =>
  simp only [LOp] at h
  obtain ⟨htb,h⟩:=h
  split at h
  ·rename_i z hz
   split at h
   ·rename_i cs hf
    exact plain _ h fun m0 K' hK=>by simp only [LOp,hz,hf]; exact ⟨htb,hK⟩
   ·cases h
  ·cases h
 case buildSlice t len parts =>
  simp only [LOp] at h
  cases hte:telem P t <;> simp only [hte] at h
  case some e =>
   obtain ⟨h1,h2,h3,h4,hK⟩:=h
   exact plain _ hK fun m0 K' hK=>by simp only [LOp,hte]; exact ⟨h1,h2,h3,h4,hK⟩
 case load t a =>
  simp only [LOp] at h
  cases hx:ev a <;> simp only [hx] at h
  case sptr cs =>
   obtain ⟨lv,hK,hl⟩:=loadC_out h
   exact plain lv hK fun m0 K' hK'=>by simp only [LOp,hx]; exact hl _ hK'
  case ptr id o =>
   cases hm:m id with
   | none=>simp [hm] at h
   | some le =>
    cases le with
    | map _ _ _=>simp [hm] at h
    | nest _ _ _ _=>simp [hm] at h
    | nesth _ _ _ _ _ _ _ _=>simp [hm] at h
    | dead=>simp [hm] at h
    | arr e k xs=>simp [hm] at h
    | box cs =>
     simp only [hm] at h
     obtain ⟨ho,h⟩:=h
     obtain ⟨lv,hK,hl⟩:=loadC_out h
     exact reader lv hK (fun K' hK'=>by simp only [LOp,hx,hm]; exact ⟨ho,hl _ hK'⟩) (fun h0=>by rw [h0] at hm; cases hm)
  case eptr id n i o =>
   cases hm:m id with
   | none=>simp [hm] at h
   | some le =>
    cases le with
    | map _ _ _=>simp [hm] at h
    | nest _ _ _ _=>simp [hm] at h
    | nesth _ _ _ _ _ _ _ _=>simp [hm] at h
    | dead=>simp [hm] at h
    | box cs=>simp [hm] at h
    | arr e k xs =>
     simp only [hm] at h
     obtain ⟨h1,x,h2,h3,h4,h⟩:=h
     obtain ⟨lv,hK,hl⟩:=loadC_out h
     exact reader lv hK (fun K' hK'=>by simp only [LOp,hx,hm]; exact ⟨h1,x,h2,h3,h4,hl _ hK'⟩) (fun h0=>by rw [h0] at hm; cases hm)
 case store t a x =>
  simp only [LOp] at h
  obtain ⟨h1,h2,h3,h⟩:=h
  cases hx:ev a <;> simp only [hx] at h
  case ptr id o =>
   cases hm:m id with
   | none=>simp [hm] at h
   | some le =>
    cases le with
    | map _ _ _=>simp [hm] at h
    | nest _ _ _ _=>simp [hm] at h
    | nesth _ _ _ _ _ _ _ _=>simp [hm] at h
    | dead=>simp [hm] at h
    | arr e k xs=>simp [hm] at h
    | box cs =>
     simp only [hm] at h
     exact writer _ _ _ h.2 fun K' hK=>by simp only [LOp,hx,hm]; exact ⟨h1,h2,h3,h.1,hK⟩
  case eptr id n i o =>
   cases hm:m id with
   | none=>simp [hm] at h
   | some le =>
    cases le with
    | map _ _ _=>simp [hm] at h
    | nest _ _ _ _=>simp [hm] at h
    | nesth _ _ _ _ _ _ _ _=>simp [hm] at h
    | dead=>simp [hm] at h
    | box cs=>simp [hm] at h
    | arr e k xs =>
     simp only [hm] at h
     obtain ⟨h4,h5,y,z,h6,h7,hK⟩:=h
     exact writer _ _ _ hK fun K' hK=>by simp only [LOp,hx,hm]; exact ⟨h1,h2,h3,h4,h5,y,z,h6,h7,hK⟩
 case nilCheck x =>
  simp only [LOp] at h
  cases hx:ev x <;> simp only [hx] at h
  case ptr=>exact plain _ h fun m0 K' hK=>by simp only [LOp,hx]; exact hK
  case sptr=>exact plain _ h fun m0 K' hK=>by simp only [LOp,hx]; exact hK
  case fn=>exact plain _ h fun m0 K' hK=>by simp only [LOp,hx]; exact hK
  case eptr id n i o =>
   obtain ⟨h1,hK⟩:=h
   refine reader _ hK (fun K' hK=>by simp only [LOp,hx]; exact ⟨h1,hK⟩) (fun h0=>?_)
   rw [h0] at h1; simp [Mem.none] at h1
 case binOp op t x y t' =>
  simp only [LOp] at h
  cases hx:ev x <;> simp only [hx] at h
  case int k a =>
   cases hy:ev y <;> simp only [hy] at h
   case int k' b =>
    obtain ⟨h1,h⟩:=h
    obtain ⟨lv,hK,hl⟩:=intBin_out h
    exact plain lv hK fun m0 K' hK'=>by simp only [LOp,hx,hy]; exact ⟨h1,hl _ hK'⟩
  case bool a =>
   cases hy:ev y <;> simp only [hy] at h
   case bool b =>
    obtain ⟨h1,h⟩:=h
    cases op <;> simp only [] at h
    case eql=>exact plain _ h fun m0 K' hK=>by simp only [LOp,hx,hy]; exact ⟨h1,hK⟩
    case neq=>exact plain _ h fun m0 K' hK=>by simp only [LOp,hx,hy]; exact ⟨h1,hK⟩
  case agg xs =>
   cases hy:ev y <;> simp only [hy] at h
   case agg ys =>
    obtain ⟨b,h1,h⟩:=h
    cases op <;> simp only [] at h
    case eql=>exact plain _ h fun m0 K' hK=>by simp only [LOp,hx,hy]; exact ⟨b,h1,hK⟩
    case neq=>exact plain _ h fun m0 K' hK=>by simp only [LOp,hx,hy]; exact ⟨b,h1,hK⟩
 case unOp op t x =>
  simp only [LOp] at h
  cases op <;> cases hx:ev x <;> simp only [hx] at h
  case neg.int=>exact plain _ h fun m0 K' hK=>by simp only [LOp,hx]; exact hK
  case not.bool=>exact plain _ h fun m0 K' hK=>by simp only [LOp,hx]; exact hK
 case convert s t x =>
  simp only [LOp] at h
  obtain ⟨h1,h⟩:=h
  cases ht:tint P t <;> simp only [ht] at h
  case some k =>
   cases hx:ev x <;> simp only [hx] at h
   case int=>exact plain _ h fun m0 K' hK=>by simp only [LOp,ht,hx]; exact ⟨h1,hK⟩
 case slice t x lo hi mx =>
  simp only [LOp] at h
  obtain ⟨h1,h2,h3,h⟩:=h
  cases hx:ev x <;> simp only [hx] at h
  case lst k xs =>
   obtain ⟨h4,l,q,h5,h6,h7,h8,hK⟩:=h
   exact plain _ hK fun m0 K' hK=>by simp only [LOp,hx]; exact ⟨h1,h2,h3,h4,l,q,h5,h6,h7,h8,hK⟩
  case nil =>
   obtain ⟨h5,h6,hK⟩:=h
   exact plain _ hK fun m0 K' hK=>by simp only [LOp,hx]; exact ⟨h1,h2,h3,h5,h6,hK⟩
 case fieldAddr t x f =>
  simp only [LOp] at h
  cases htf:tfield P t f <;> simp only [htf] at h
  case some q =>
   obtain ⟨off,ft⟩:=q
   obtain ⟨h1,h2,h⟩:=h
   cases hx:ev x <;> simp only [hx] at h
   case sptr cs=>exact plain _ h.2 fun m0 K' hK=>by simp only [LOp,htf,hx]; exact ⟨h1,h2,h.1,hK⟩
   case ptr=>exact plain _ h fun m0 K' hK=>by simp only [LOp,htf,hx]; exact ⟨h1,h2,hK⟩
   case eptr id n i o =>
    obtain ⟨h3,hK⟩:=h
    refine reader _ hK (fun K' hK=>by simp only [LOp,htf,hx]; exact ⟨h1,h2,h3,hK⟩) (fun h0=>?_)
    rw [h0] at h3; simp [Mem.none] at h3
 case field t x f =>
  simp only [LOp] at h
  cases htf:tfield P t f <;> simp only [htf] at h
  case some q =>
   obtain ⟨off,ft⟩:=q
   cases hx:ev x <;> simp only [hx] at h
   case agg cs =>
    obtain ⟨h1,h⟩:=h
    obtain ⟨lv,hK,hl⟩:=loadC_out h
    exact plain lv hK fun m0 K' hK'=>by simp only [LOp,htf,hx]; exact ⟨h1,hl _ hK'⟩
 case indexAddr t x i =>
  simp only [LOp] at h
  cases hte:telem P t <;> simp only [hte] at h
  case some e =>
   cases hx:ev x <;> simp only [hx] at h
   case lst k xs =>
    cases hi:ev i <;> simp only [hi] at h
    case int ki n =>
     obtain ⟨h1,h2,h3,y,h4,h5,hK⟩:=h
     exact plain _ hK fun m0 K' hK=>by simp only [LOp,hte,hx,hi]; exact ⟨h1,h2,h3,y,h4,h5,hK⟩
   case arr id l =>
    cases hi:ev i <;> simp only [hi] at h
    case int ki n =>
     cases hm:m id with
     | none=>simp [hm] at h
     | some le =>
      cases le with
      | map _ _ _=>simp [hm] at h
      | nest _ _ _ _=>simp [hm] at h
      | nesth _ _ _ _ _ _ _ _=>simp [hm] at h
      | dead=>simp [hm] at h
      | box cs=>simp [hm] at h
      | arr e' k xs =>
       simp only [hm] at h
       obtain ⟨h1,h2,h3,h4,h5,hK⟩:=h
       exact reader _ hK (fun K' hK=>by simp only [LOp,hte,hx,hi,hm]; exact ⟨h1,h2,h3,h4,h5,hK⟩) (fun h0=>by rw [h0] at hm; cases hm)
 case extract t i =>
  simp only [LOp] at h
  cases hx:ev t <;> simp only [hx] at h
  case tup vs =>
   obtain ⟨v,h1,hK⟩:=h
   exact plain _ hK fun m0 K' hK=>by simp only [LOp,hx]; exact ⟨v,h1,hK⟩
 case makeFunc f first cap =>
  simp only [LOp] at h
  cases f <;> simp only [] at h
  case func f=>exact plain _ h.2 fun m0 K' hK=>by simp only [LOp]; exact ⟨h.1,hK⟩
 case makeSlice t l c =>
  simp only [LOp] at h
  split at h
  ·rename_i e z n n' i hte hz hx hy
   obtain ⟨h1,h2,h3,h4,h5,h6,hK⟩:=h
   refine writer _ _ _ hK fun K' hK=>?_
   rw [hte] at hz
   simp only [LOp,hte,hz,hx,hy]
   exact ⟨h1,h2,h3,h4,h5,h6,hK⟩
  ·cases h
 case call c =>
  obtain ⟨callee,args,tys⟩:=c
  cases callee
  case value x =>
   simp only [LOp] at h
   cases hx:ev x <;> simp only [hx] at h
   case fn f cap =>
    obtain ⟨hfn,lv,mc,mc',hc,h1,h2,h3,h4,hK⟩:=h
    refine ⟨lv,_,hK,fun K' hK'=>by simp only [LOp,hx]; exact ⟨hfn,lv,mc,mc',hc,h1,h2,h3,h4,hK'⟩,fun hm0 hm' m0 K' hK'=>?_⟩
    subst hm0
    have e1:mc=Mem.none:=by
     funext id
     cases hq:mc id with
     | none=>rfl
     | some le=>have:=h1 id (by simp [hq]); rw [hq] at this; cases this
    have e2:mc'=Mem.none:=by
     funext id
     have:=congrFun hm' id
     unfold Mem.over at this
     cases hq:mc' id with
     | none=>rfl
     | some le=>simp [hq,Mem.none] at this
    subst e1; subst e2
    simp only [LOp,hx]
    exact ⟨hfn,lv,Mem.none,Mem.none,hc,fun id hid=>absurd rfl hid,fun id _ hid=>absurd rfl hid,h3,h4,by rw [Mem.over_none]; exact hK'⟩
  case builtin b =>
   cases b
   case len =>
    simp only [LOp] at h
    split at h
    ·rename_i x t hargs htys
     obtain ⟨h1,h⟩:=h
     cases hx:ev x <;> simp only [hx] at h
     case lst=>exact plain _ h fun m0 K' hK=>by simp only [LOp,hargs,htys,hx]; exact ⟨h1,hK⟩
     case nil=>exact plain _ h fun m0 K' hK=>by simp only [LOp,hargs,htys,hx]; exact ⟨h1,hK⟩
     case arr id n =>
      obtain ⟨h2,hK⟩:=h
      refine reader _ hK (fun K' hK=>by simp only [LOp,hargs,htys,hx]; exact ⟨h1,h2,hK⟩) (fun h0=>?_)
      rw [h0] at h2; simp [Mem.none] at h2
    ·cases h
   case append =>
    simp only [LOp] at h
    split at h
    ·rename_i x y t t' hargs htys
     obtain ⟨h1,h⟩:=h
     cases hte:telem P t <;> simp only [hte] at h
     case some e =>
      obtain ⟨h2,ys,h3,h⟩:=h
      cases hx:ev x <;> simp only [hx] at h
      case arr id n =>
       obtain ⟨h4,h⟩:=h
       cases hm:m id with
       | none=>simp [hm] at h
       | some le =>
        cases le with
        | map _ _ _=>simp [hm] at h
        | nest _ _ _ _=>simp [hm] at h
        | nesth _ _ _ _ _ _ _ _=>simp [hm] at h
        | dead=>simp [hm] at h
        | box cs=>simp [hm] at h
        | arr e' k xs =>
         simp only [hm] at h
         obtain ⟨h5,h6,h7,h8,hK⟩:=h
         exact writer _ _ _ hK fun K' hK=>by simp only [LOp,hargs,htys,hte,hx,hm]; exact ⟨h1,h2,ys,h3,h4,h5,h6,h7,h8,hK⟩
      case nil =>
       cases d <;> simp only [] at h
       case some i =>
        obtain ⟨h5,h6,hK⟩:=h
        exact writer _ _ _ hK fun K' hK=>by simp only [LOp,hargs,htys,hte,hx]; exact ⟨h1,h2,ys,h3,h5,h6,hK⟩
    ·cases h
   all_goals exact h.elim
  all_goals exact h.elim
 all_goals exact h.elim

theorem LOp_congr (hev:∀ x ∈ o.op.operands,ev x=ev' x) (h:LOp P pr ro o ev m K):LOp P pr ro o ev' m K:=by
 obtain ⟨d,op,ty,pos,af,g⟩:=o
 have mapc:∀ l:List (Nat × Operand),(∀ x ∈ l.map (·.2),ev x=ev' x)→(l.map fun p=>ev p.2)=l.map fun p=>ev' p.2:=fun l hl =>
  List.map_congr_left fun p hp=>hl _ (List.mem_map.2 ⟨p,hp,rfl⟩)
 have mapc2:∀ l:List (Nat × Operand),(∀ x ∈ l.map (·.2),ev x=ev' x)→(l.map fun p=>(p.1,ev p.2))=l.map fun p=>(p.1,ev' p.2):=fun l hl =>
  List.map_congr_left fun p hp=>by rw [hl _ (List.mem_map.2 ⟨p,hp,rfl⟩)]
 cases op <;> simp only [Op.operands] at hev
 case build t parts=>simp only [LOp] at h ⊢; rw [← mapc2 parts.toList (fun x hx=>hev x (by simpa using hx))]; exact h
 case buildSlice t n parts=>simp only [LOp] at h ⊢; rw [← mapc parts.toList (fun x hx=>hev x (by simpa using hx))]; exact h
 case makeFunc f first cap =>
  simp only [LOp] at h ⊢
  cases f <;> simp only [] at h ⊢
  case func f=>rw [← List.map_congr_left (f:=ev) (g:=ev') (l:=cap.toList) (fun x hx=>hev x (by simp at hx ⊢; exact .inr hx))]; exact h
 case slice t x lo hi mx =>
  have hx:=hev x (by simp)
  cases lo with
  | none =>
   cases hi with
   | none=>simp only [LOp] at h ⊢; rw [← hx]; exact h
   | some q=>have hq:=hev q (by simp); simp only [LOp] at h ⊢; rw [← hx,← hq]; exact h
  | some r =>
   have hr:=hev r (by simp)
   cases hi with
   | none=>simp only [LOp] at h ⊢; rw [← hx,← hr]; exact h
   | some q=>have hq:=hev q (by simp); simp only [LOp] at h ⊢; rw [← hx,← hr,← hq]; exact h
 case move x=>simp only [LOp] at h ⊢; rw [← hev x (by simp)]; exact h
 case assign x=>simp only [LOp] at h ⊢; rw [← hev x (by simp)]; exact h
 case pick x y z=>simp only [LOp] at h ⊢; rw [← hev x (by simp),← hev y (by simp),← hev z (by simp)]; exact h
 case alloc t=>simp only [LOp] at h ⊢; exact h
 case box t x=>simp only [LOp] at h ⊢; rw [← hev x (by simp)]; exact h
 case load t x=>simp only [LOp] at h ⊢; rw [← hev x (by simp)]; exact h
 case store t x y=>simp only [LOp] at h ⊢; rw [← hev x (by simp),← hev y (by simp)]; exact h
 case nilCheck x=>simp only [LOp] at h ⊢; rw [← hev x (by simp)]; exact h
 case binOp op t x y t'=>simp only [LOp] at h ⊢; rw [← hev x (by simp),← hev y (by simp)]; exact h
 case unOp op t x=>simp only [LOp] at h ⊢; rw [← hev x (by simp)]; exact h
 case convert s t x=>simp only [LOp] at h ⊢; rw [← hev x (by simp)]; exact h
 case fieldAddr t x f=>simp only [LOp] at h ⊢; rw [← hev x (by simp)]; exact h
 case field t x f=>simp only [LOp] at h ⊢; rw [← hev x (by simp)]; exact h
 case indexAddr t x y=>simp only [LOp] at h ⊢; rw [← hev x (by simp),← hev y (by simp)]; exact h
 case extract x i=>simp only [LOp] at h ⊢; rw [← hev x (by simp)]; exact h
 case makeSlice t x y=>simp only [LOp] at h ⊢; rw [← hev x (by simp),← hev y (by simp)]; exact h
 case call c =>
  obtain ⟨callee,args,tys⟩:=c
  have hargs:args.toList.map ev=args.toList.map ev':=List.map_congr_left fun x hx=>hev x (by simp [Call.operands]; exact .inr (by simpa using hx))
  cases callee
  case value x =>
   simp only [LOp] at h ⊢
   rw [← hev x (by simp [Call.operands]),← hargs]; exact h
  case builtin b =>
   cases b <;> simp only [LOp] at h ⊢
   case len =>
    split at h
    ·rename_i x t hx ht
     rw [← hev x (by simp [Call.operands]; rw [← Array.mem_toList_iff,hx]; simp)]; exact h
    ·cases h
   case append =>
    split at h
    ·rename_i x y t t' hx ht
     rw [← hev x (by simp [Call.operands]; rw [← Array.mem_toList_iff,hx]; simp),← hev y (by simp [Call.operands]; rw [← Array.mem_toList_iff,hx]; simp)]; exact h
    ·cases h
  all_goals exact h.elim
 all_goals exact h.elim
end
end Go.L
set_option linter.unusedVariables false
set_option linter.unusedSimpArgs false
namespace Go.L
section
variable {P:Program} {N:Nat} {pr:Nat→Prop} {ro:List Nat} {ops:Array Oper}

def OpOkR (P:Program) (pr:Nat→Prop) (o:Oper) (ev:Operand→LV) (m:Mem) (lv:LV) (m':Mem):Prop :=
 ∀ (c:Cx) (a:Act) (Q:Exit→Act→World→Prop),(∀ x ∈ o.op.operands,RepV c (ev x) (a.eval x))→RepM c m →
  o.wp P a c.w (fun a' w'=>∃ v c',a'=a.put o.dst v∧c'.w=w'∧RepV c' lv v∧RepM c' m'∧Step pr c c') Q
def gd (ops:Array Oper) (o:Oper) (e:Env):Option Bool :=
 match o.guard with
 | .none=>some true
 | some (j,want)=>match (ops[j]?).bind (·.dst) with
  | some g=>match e g with
   | .bool t=>some (t == want)
   | .tup []=>some false
   | _=>.none
  | .none=>.none

def mdom (md:Nat):Nat:=if md<100000 then md - 1000 else md - 100000
def fpt (md:Nat):List Nat:=[(md - 1000000000) % 1000,(md - 1000000000) / 1000 % 1000,(md - 1000000000) / 1000000 % 1000].filter fun i=>!(i == 0)
def Foot (P:Program) (pr:Nat→Prop) (o:Oper) (ev:Operand→LV) (ids:List Nat) (m:Mem) (lv:LV) (m':Mem):Prop:=(∀ i,i ∉ ids→m' i=m i)∧∀ m0:Mem,(∀ i,i ∈ ids→m0 i=m i)→OpOkR P pr o ev m0 lv (fun i=>if i ∈ ids then m' i else m0 i)
theorem Foot.ok {o:Oper} {ev:Operand→LV} {ids:List Nat} {m m':Mem} {lv:LV} (h:Foot P pr o ev ids m lv m'):OpOkR P pr o ev m lv m':=by
 have:=h.2 m (fun _ _=>rfl)
 have he:(fun i=>if i ∈ ids then m' i else m i)=m':=by
  funext i
  by_cases hi:i ∈ ids
  ·simp [hi]
  ·simp [hi,h.1 i hi]
 rwa [he] at this
def DomR (P:Program) (pr:Nat→Prop) (ro:List Nat) (o:Oper) (ev:Operand→LV) (id:Nat) (le:LE) (lv:LV):Prop:=∀ m0:Mem,m0 id=some le→∀ K':LV→Mem→Prop,K' lv m0→LOp P pr ro o ev m0 K'
def DomW (P:Program) (pr:Nat→Prop) (ro:List Nat) (o:Oper) (ev:Operand→LV) (id:Nat) (le le':LE) (lv:LV):Prop:=∀ m0:Mem,m0 id=some le→∀ K':LV→Mem→Prop,K' lv (m0.over (Mem.of [(id,le')]))→LOp P pr ro o ev m0 K'
def LStepM (P:Program) (pr:Nat→Prop) (ro:List Nat) (ops:Array Oper) (md:Nat) (o:Oper) (K:Env→Mem→Prop) (e:Env) (m:Mem):Prop :=
 match gd ops o e with
 | some true=>match md with
  | 0=>LOp P pr ro o (lev e) Mem.none fun lv m'=>m'=Mem.none∧K (e.put? o.dst lv) m
  | 1=>LOp P pr ro o (lev e) m fun lv m'=>m'=m∧K (e.put? o.dst lv) m
  | 3=>∃ lv m',OpOkR P pr o (lev e) m lv m'∧K (e.put? o.dst lv) m'
  | 4=>∃ lv,(∀ m0,OpOkR P pr o (lev e) m0 lv m0)∧K (e.put? o.dst lv) m
  | _=>if md<1000 then LOp P pr ro o (lev e) m fun lv m'=>K (e.put? o.dst lv) m'
    else if md<100000 then ∃ lv le,m (mdom md)=some le∧DomR P pr ro o (lev e) (mdom md) le lv∧K (e.put? o.dst lv) m
    else if md<1000000000 then ∃ lv le le',m (mdom md)=some le∧DomW P pr ro o (lev e) (mdom md) le le' lv∧K (e.put? o.dst lv) (m.over (Mem.of [(mdom md,le')]))
    else ∃ lv m',Foot P pr o (lev e) (fpt md) m lv m'∧K (e.put? o.dst lv) m'
 | some false=>K (e.put? o.dst (.tup [])) m
 | .none=>False

def LOpsM (P:Program) (pr:Nat→Prop) (ro:List Nat) (ops:Array Oper):List (Oper × Nat)→(Env→Mem→Prop)→Env→Mem→Prop
 | [],K=>K
 | (o,md) :: r,K=>LStepM P pr ro ops md o (LOpsM P pr ro ops r K)

def Out (P:Program) (pr:Nat→Prop) (ro:List Nat) (ops:Array Oper) (o:Oper) (e:Env) (md:Nat) (m:Mem) (lv:LV) (m':Mem):Prop :=
 match gd ops o e with
 | some true=>(md=4∧m'=m∧∀ m0,OpOkR P pr o (lev e) m0 lv m0) ∨ ((md=3 ∨ 1000000000≤md)∧(md=3→OpOkR P pr o (lev e) m lv m')∧(1000000000≤md→Foot P pr o (lev e) (fpt md) m lv m')) ∨ (1000≤md∧md<100000∧m'=m∧∃ le,m (mdom md)=some le∧DomR P pr ro o (lev e) (mdom md) le lv) ∨ ((100000≤md∧md<1000000000)∧∃ le le',m (mdom md)=some le∧m'=m.over (Mem.of [(mdom md,le')])∧DomW P pr ro o (lev e) (mdom md) le le' lv) ∨ (md<1000∧md ≠ 3∧md ≠ 4)∧(md=0→m'=m∧∀ m0,∀ K':LV→Mem→Prop,K' lv m0→LOp P pr ro o (lev e) m0 K')∧(md=1→m'=m)∧∀ K':LV→Mem→Prop,K' lv m'→LOp P pr ro o (lev e) m K'
 | some false=>lv=.tup []∧m'=m
 | .none=>False

theorem LStepM_out {md:Nat} {o:Oper} {K:Env→Mem→Prop} {e:Env} {m:Mem} (h:LStepM P pr ro ops md o K e m):∃ lv m',K (e.put? o.dst lv) m'∧Out P pr ro ops o e md m lv m':=by
 unfold LStepM at h
 unfold Out
 cases hg:gd ops o e with
 | none=>simp [hg] at h
 | some b =>
  cases b with
  | false=>simp only [hg] at h ⊢; exact ⟨_,_,h,rfl,rfl⟩
  | true =>
   simp only [hg] at h ⊢
   split at h
   ·obtain ⟨lv,m',⟨hm',hK⟩,h1,h2⟩:=LOp_out h
    exact ⟨lv,m,hK,.inr (.inr (.inr (.inr ⟨by simp,fun _=>⟨rfl,h2 rfl hm'⟩,by simp,fun K' hK'=>h2 rfl hm' m K' hK'⟩)))⟩
   ·obtain ⟨lv,m',⟨rfl,hK⟩,h1,h2⟩:=LOp_out h
    exact ⟨lv,_,hK,.inr (.inr (.inr (.inr ⟨by simp,by simp,fun _=>rfl,h1⟩)))⟩
   ·obtain ⟨lv,m',h1,hK⟩:=h
    exact ⟨lv,m',hK,.inr (.inl ⟨.inl rfl,fun _=>h1,fun h=>absurd h (by decide)⟩)⟩
   ·obtain ⟨lv,h1,hK⟩:=h
    exact ⟨lv,m,hK,.inl ⟨rfl,rfl,h1⟩⟩
   ·rename_i n0 n1 n3 n4
    split at h
    ·rename_i hlt
     obtain ⟨lv,m',hK,h1,h2⟩:=LOp_out h
     exact ⟨lv,m',hK,.inr (.inr (.inr (.inr ⟨⟨hlt,by simpa using n3,by simpa using n4⟩,fun h0=>absurd h0 (by simpa using n0),fun h0=>absurd h0 (by simpa using n1),h1⟩)))⟩
    ·rename_i hge
     split at h
     ·rename_i hlt
      obtain ⟨lv,le,h1,h2,hK⟩:=h
      exact ⟨lv,m,hK,.inr (.inr (.inl ⟨by omega,hlt,rfl,le,h1,h2⟩))⟩
     ·split at h
      ·obtain ⟨lv,le,le',h1,h2,hK⟩:=h
       exact ⟨lv,_,hK,.inr (.inr (.inr (.inl ⟨by omega,le,le',h1,rfl,h2⟩)))⟩
      ·obtain ⟨lv,m',h1,hK⟩:=h
       exact ⟨lv,m',hK,.inr (.inl ⟨.inr (by omega),fun h=>absurd h (by simpa using n3),fun _=>h1⟩)⟩

theorem lev_same {o:Oper} {e e':Env} (h:∀ t ∈ o.looksAt ops,e t=e' t):∀ x ∈ o.op.operands,lev e x=lev e' x:=by
 intro x hx
 cases x with
 | tmp t =>
  refine h t ?_
  unfold Oper.looksAt
  exact List.mem_append.2 (.inl (List.mem_filterMap.2 ⟨.tmp t,by simpa using hx,rfl⟩))
 | const v=>rfl
 | global g=>rfl
 | func f=>rfl

theorem gd_same {o:Oper} {e e':Env} (h:∀ t ∈ o.looksAt ops,e t=e' t):gd ops o e=gd ops o e':=by
 unfold gd
 cases hg:o.guard with
 | none=>rfl
 | some q =>
  obtain ⟨j,want⟩:=q
  cases hj:(ops[j]?).bind (·.dst) with
  | none=>simp only [hj]
  | some g =>
   simp only [hj]
   rw [h g]
   unfold Oper.looksAt
   refine List.mem_append.2 (.inr ?_)
   simp [hg,hj]

theorem Out.congr {o:Oper} {e e':Env} {md:Nat} {m m':Mem} {lv:LV} (h:∀ t ∈ o.looksAt ops,e t=e' t) (ho:Out P pr ro ops o e md m lv m'):Out P pr ro ops o e' md m lv m':=by
 unfold Out at ho ⊢
 rw [← gd_same h]
 have hl:=lev_same h
 split at ho
 ·rcases ho with ⟨h3,h4,ho⟩ | ⟨h3,ho,hf⟩ | ⟨g1,g2,g3,le,g4,g5⟩ | ⟨g1,le,le',g2,g3,g4⟩ | ⟨h3,h1,h2,h4⟩
  ·exact .inl ⟨h3,h4,fun m0 c a Q hev hm=>ho m0 c a Q (fun x hx=>by rw [hl x hx]; exact hev x hx) hm⟩
  ·exact .inr (.inl ⟨h3,fun h c a Q hev hm=>ho h c a Q (fun x hx=>by rw [hl x hx]; exact hev x hx) hm,fun h=>⟨(hf h).1,fun m0 hm0 c a Q hev hm=>(hf h).2 m0 hm0 c a Q (fun x hx=>by rw [hl x hx]; exact hev x hx) hm⟩⟩)
  ·exact .inr (.inr (.inl ⟨g1,g2,g3,le,g4,fun m0 hm0 K' hK=>LOp_congr hl (g5 m0 hm0 K' hK)⟩))
  ·exact .inr (.inr (.inr (.inl ⟨g1,le,le',g2,g3,fun m0 hm0 K' hK=>LOp_congr hl (g4 m0 hm0 K' hK)⟩)))
  ·exact .inr (.inr (.inr (.inr ⟨h3,fun h0=>⟨(h1 h0).1,fun m0 K' hK=>LOp_congr hl ((h1 h0).2 m0 K' hK)⟩,h2,fun K' hK=>LOp_congr hl (h4 K' hK)⟩)))
 ·exact ho
 ·exact ho

def isAlloc (o:Oper):Bool:=(match o.op with | .alloc _=>true | _=>false) && o.guard.isNone
def frames (o:Oper):Bool:=(match o.op with | .alloc _=>true | .makeSlice _ _ _=>true | .call c=>(match c.callee with | .value _=>true | _=>false) | _=>false) && o.guard.isNone
def isR (md:Nat):Bool:=Nat.ble 1000 md && Nat.blt md 100000
def isD (md:Nat):Bool:=Nat.ble 1000 md && Nat.blt md 1000000000
def fids (md:Nat):List Nat:=if Nat.ble 1000000000 md then fpt md else [mdom md]
def swaps (ops:Array Oper) (x y:Oper × Nat):Bool:=x.1.apart ops y.1 && (x.2 == 0 || y.2 == 0 || (decide (x.2≤1) && decide (y.2≤1)) || (isAlloc y.1 && frames x.1 && x.2 == 2 && y.2 == 2)
 || (isD x.2 && isD y.2 && !(mdom x.2 == mdom y.2)) || ((isR x.2 || Nat.ble x.2 1) && (isR y.2 || Nat.ble y.2 1)) || (isAlloc y.1 && isD x.2 && y.2 == 2) || (x.2 == 4 || y.2 == 4) || (Nat.ble 1000 x.2 && Nat.ble 1000 y.2 && (fids x.2).all fun i=>!(fids y.2).contains i))
theorem put_put {m:Mem} {A B:Nat} {x y:LE} (h:A ≠ B):(m.put A x).put B y=(m.put B y).put A x:=by
 funext i
 simp only [Mem.put]
 by_cases h1:i=A
 ·subst h1; simp [h]
 ·simp [h1]
theorem alloc_out {o:Oper} {ev:Operand→LV} {m m':Mem} {lv:LV} {t:TypeId} (ho:o.op=.alloc t) (h:∀ K':LV→Mem→Prop,K' lv m'→LOp P pr ro o ev m K') :
  ∃ z d,tzero P t=some z∧o.dst=some d∧m (100+d)=.none∧lv=.ptr (100+d) 0∧m'=m.put (100+d) (.box z.cells):=by
 have:=h (fun l mm=>lv=l∧m'=mm) ⟨rfl,rfl⟩
 simp only [LOp,ho] at this
 split at this
 ·rename_i z d hz hd
  exact ⟨z,d,hz,hd,this.1,this.2.1,this.2.2⟩
 ·exact this.elim
theorem frame_out {o:Oper} {ev:Operand→LV} {m m':Mem} {lv:LV} (hf:frames o=true) (h:∀ K':LV→Mem→Prop,K' lv m'→LOp P pr ro o ev m K') {A:Nat} (hA:m' A=.none) (x:LE) :
  m A=.none∧∀ K':LV→Mem→Prop,K' lv (m'.put A x)→LOp P pr ro o ev (m.put A x) K':=by
 simp only [frames,Bool.and_eq_true] at hf
 cases ho:o.op <;> simp only [ho] at hf <;> try (simp at hf; done)
 case alloc t =>
  obtain ⟨z,d,hz,hd,hm,rfl,rfl⟩:=alloc_out ho h
  have hne:100+d ≠ A:=fun he=>by subst he; simp [Mem.put] at hA
  have hmA:m A=.none:=by simp only [Mem.put] at hA; rw [if_neg (Ne.symm hne)] at hA; exact hA
  refine ⟨hmA,fun K' hK=>?_⟩
  simp only [LOp,ho,hz,hd]
  refine ⟨by simp only [Mem.put]; rw [if_neg hne]; exact hm,?_⟩
  rw [put_put (Ne.symm hne)]; exact hK
 case makeSlice t l c =>
  have:=h (fun l mm=>lv=l∧m'=mm) ⟨rfl,rfl⟩
  simp only [LOp,ho] at this
  split at this
  ·rename_i e z n n' d he hz hl hc hd
   obtain ⟨hn,h0,hb,hr,hp,hm,rfl,rfl⟩:=this
   have hne:100+d ≠ A:=fun he=>by subst he; simp [Mem.put] at hA
   have hmA:m A=.none:=by simp only [Mem.put] at hA; rw [if_neg (Ne.symm hne)] at hA; exact hA
   refine ⟨hmA,fun K' hK=>?_⟩
   simp only [LOp,ho]
   rw [hz,hl,hc,hd,he]
   refine ⟨hn,h0,hb,hr,hp,by simp only [Mem.put]; rw [if_neg hne]; exact hm,?_⟩
   rw [put_put (Ne.symm hne)]; exact hK
  ·exact this.elim
 case call c =>
  obtain ⟨cl,args,tys⟩:=c
  cases cl <;> simp only at hf <;> try (simp at hf; done)
  case value y =>
   have:=h (fun l mm=>lv=l∧m'=mm) ⟨rfl,rfl⟩
   simp only [LOp,ho] at this
   cases hy:ev y <;> simp only [hy] at this
   case fn f cap =>
    obtain ⟨hfn,lv0,mc,mc',hc,h1,h2,h3,h4,rfl,rfl⟩:=this
    have hmc':mc' A=.none:=by
     cases hq:mc' A with
     | none=>rfl
     | some q=>simp [Mem.over,hq] at hA
    have hmA:m A=.none:=by simpa [Mem.over,hmc'] using hA
    have hmc:mc A=.none:=by
     cases hq:mc A with
     | none=>rfl
     | some q=>have:=h1 A (by simp [hq]); rw [hmA,hq] at this; cases this
    refine ⟨hmA,fun K' hK=>?_⟩
    simp only [LOp,ho,hy]
    refine ⟨hfn,lv,mc,mc',hc,fun id hid=>?_,fun id hid hid'=>?_,h3,h4,?_⟩
    ·have:id ≠ A:=fun he=>by subst he; exact hid hmc
     simp only [Mem.put]; rw [if_neg this]; exact h1 id hid
    ·have:id ≠ A:=fun he=>by subst he; exact hid' hmc'
     simp only [Mem.put]; rw [if_neg this]; exact h2 id hid hid'
    ·have:(m.put A x).over mc'=(m.over mc').put A x:=by
      funext i
      simp only [Mem.over,Mem.put]
      by_cases hi:i=A
      ·subst hi; simp [hmc']
      ·simp only [hi,if_false]
     rw [this]; exact hK

def Chain (P:Program) (pr:Nat→Prop) (ro:List Nat) (ops:Array Oper):List (Oper × Nat)→Env→Mem→Env→Mem→Prop
 | [],e,m,e',m'=>e'=e∧m'=m
 | (o,md) :: r,e,m,e',m'=>∃ lv m1,Out P pr ro ops o e md m lv m1∧Chain P pr ro ops r (e.put? o.dst lv) m1 e' m'

theorem LOpsM_chain:∀ (l:List (Oper × Nat)) {K:Env→Mem→Prop} {e:Env} {m:Mem},LOpsM P pr ro ops l K e m→∃ e' m',K e' m'∧Chain P pr ro ops l e m e' m'
 | [],K,e,m,h=>⟨e,m,h,rfl,rfl⟩
 | (o,md) :: r,K,e,m,h=>by
  simp only [LOpsM] at h
  obtain ⟨lv,m1,h1,ho⟩:=LStepM_out h
  obtain ⟨e',m',hK,hc⟩:=LOpsM_chain r h1
  exact ⟨e',m',hK,lv,m1,ho,hc⟩

theorem put?_comm {e:Env} {x y:Option Nat} {u v:LV} (h:∀ d,x=some d→y ≠ some d):(e.put? x u).put? y v=(e.put? y v).put? x u:=by
 cases x with
 | none=>rfl
 | some a =>
  cases y with
  | none=>rfl
  | some b =>
   have hab:a ≠ b:=fun hh=>h a rfl (by rw [hh])
   funext i
   simp only [Env.put?,Env.put]
   by_cases h1:i=a
   ·subst h1; simp [hab]
   ·simp [h1]

theorem put?_looks {e:Env} {o:Oper} {d:Option Nat} {v:LV} (h:∀ i,d=some i→i ∉ o.looksAt ops):∀ t ∈ o.looksAt ops,(e.put? d v) t=e t:=by
 intro t ht
 cases d with
 | none=>rfl
 | some i =>
  have:t ≠ i:=fun hh=>h i rfl (hh ▸ ht)
  simp [Env.put?,Env.put,this]

theorem md_out {o:Oper} {e:Env} {md:Nat} {m m':Mem} {lv:LV} (h:Out P pr ro ops o e md m lv m') (hmd:md≤1):m'=m:=by
 unfold Out at h
 split at h
 ·rcases h with ⟨h3,_⟩ | ⟨h3,_⟩ | ⟨g1,_⟩ | ⟨g1,_⟩ | ⟨_,h1,h2,_⟩
  ·omega
  ·omega
  ·omega
  ·omega
  ·rcases (by omega:md=0 ∨ md=1) with h0 | h0
   ·exact (h1 h0).1
   ·exact h2 h0
 ·exact h.2
 ·exact h.elim
theorem over_one {m:Mem} {i:Nat} {le:LE}:m.over (Mem.of [(i,le)])=m.put i le:=by
 funext j
 simp only [Mem.over,Mem.of,Mem.put]
 by_cases h:j=i <;> simp [h]
theorem rd_out {o:Oper} {e:Env} {md:Nat} {m m':Mem} {lv:LV} (h:Out P pr ro ops o e md m lv m') (hmd:(isR md || Nat.ble md 1)=true):m'=m:=by
 by_cases h1:md≤1
 ·exact md_out h h1
 ·have hr:1000≤md∧md<100000:=by
   simp only [isR,Bool.or_eq_true,Bool.and_eq_true,Nat.ble_eq,Nat.blt_eq] at hmd
   omega
  unfold Out at h
  split at h
  ·rcases h with ⟨h3,_⟩ | ⟨h3,_⟩ | ⟨_,_,h3,_⟩ | ⟨g1,_⟩ | ⟨g1,_⟩
   ·omega
   ·omega
   ·exact h3
   ·omega
   ·omega
  ·exact h.2
  ·exact h.elim
theorem dom_out {o:Oper} {e:Env} {md:Nat} {m m':Mem} {lv:LV} (h:Out P pr ro ops o e md m lv m') (hmd:isD md=true):(m'=m∧gd ops o e=some false∧lv=.tup []) ∨ ∃ le le',m (mdom md)=some le∧m'=m.put (mdom md) le'∧∀ m0:Mem,m0 (mdom md)=some le→Out P pr ro ops o e md m0 lv (m0.put (mdom md) le'):=by
 have h1000:1000≤md∧md<1000000000:=by simpa [isD] using hmd
 have hh:=h
 unfold Out at h
 split at h
 ·rename_i hg
  rcases h with ⟨h3,_⟩ | ⟨h3,_⟩ | ⟨g1,g2,g3,le,g4,g5⟩ | ⟨g1,le,le',g2,g3,g4⟩ | ⟨g1,_⟩
  ·omega
  ·omega
  ·right
   have self:∀ m0:Mem,m0 (mdom md)=some le→m0.put (mdom md) le=m0:=fun m0 h0=>by
    funext j; simp only [Mem.put]; split
    ·rename_i hj; subst hj; exact h0.symm
    ·rfl
   refine ⟨le,le,g4,by rw [g3,self m g4],fun m0 h0=>?_⟩
   rw [self m0 h0]
   unfold Out
   rw [hg]
   exact .inr (.inr (.inl ⟨g1,g2,rfl,le,h0,g5⟩))
  ·right
   refine ⟨le,le',g2,by rw [g3,over_one],fun m0 h0=>?_⟩
   unfold Out
   rw [hg]
   exact .inr (.inr (.inr (.inl ⟨g1,le,le',h0,by rw [over_one],g4⟩)))
  ·omega
 ·rename_i hg; exact .inl ⟨h.2,hg,h.1⟩
 ·exact h.elim
theorem Out.skip {o:Oper} {e:Env} {md:Nat} {m:Mem} (hg:gd ops o e=some false):Out P pr ro ops o e md m (.tup []) m:=by
 unfold Out; rw [hg]; exact ⟨rfl,rfl⟩
theorem foot_out {o:Oper} {e:Env} {md:Nat} {m m':Mem} {lv:LV} (h:Out P pr ro ops o e md m lv m') (hmd:1000≤md):(∀ i,i ∉ fids md→m' i=m i)∧∀ m0:Mem,(∀ i,i ∈ fids md→m0 i=m i)→Out P pr ro ops o e md m0 lv (fun i=>if i ∈ fids md then m' i else m0 i):=by
 by_cases hd:md<1000000000
 ·have hf:fids md=[mdom md]:=by
   have:Nat.ble 1000000000 md=false:=by
    cases hb:Nat.ble 1000000000 md with
    | false=>rfl
    | true=>have:=Nat.le_of_ble_eq_true hb; omega
   simp [fids,this]
  rw [hf]
  rcases dom_out h (by simp [isD]; omega) with ⟨rfl,hg,rfl⟩ | ⟨le,le',g1,rfl,g3⟩
  ·refine ⟨fun _ _=>rfl,fun m0 hm0=>?_⟩
   have:(fun i=>if i ∈ [mdom md] then m' i else m0 i)=m0:=by
    funext i
    by_cases hi:i ∈ [mdom md]
    ·simp [hi,hm0 i hi]
    ·simp [hi]
   rw [this]; exact Out.skip hg
  ·refine ⟨fun i hi=>by simp at hi; simp [Mem.put,hi],fun m0 hm0=>?_⟩
   have:=g3 m0 (by rw [hm0 _ (by simp)]; exact g1)
   refine Eq.mp (congrArg _ ?_) this
   funext i
   by_cases hi:i=mdom md
   ·subst hi; simp [Mem.put]
   ·simp [Mem.put,hi]
 ·have hf:fids md=fpt md:=by
   have:Nat.ble 1000000000 md=true:=Nat.ble_eq_true_of_le (by omega)
   simp [fids,this]
  rw [hf]
  have hh:=h
  unfold Out at h
  split at h
  ·rename_i hg
   rcases h with ⟨h3,_⟩ | ⟨h3,_,h4⟩ | ⟨g1,g2,_⟩ | ⟨g1,_⟩ | ⟨g1,_⟩
   ·omega
   ·have h4:=h4 (by omega)
    refine ⟨h4.1,fun m0 hm0=>?_⟩
    unfold Out
    rw [hg]
    refine .inr (.inl ⟨.inr (by omega),fun h=>by omega,fun _=>⟨fun i hi=>by simp [hi],fun m1 hm1=>?_⟩⟩)
    have:=h4.2 m1 (fun i hi=>(hm1 i hi).trans (hm0 i hi))
    refine Eq.mp (congrArg _ ?_) this
    funext i
    by_cases hi:i ∈ fpt md <;> simp [hi]
   ·omega
   ·omega
   ·omega
  ·rename_i hg
   obtain ⟨rfl,rfl⟩:=h
   refine ⟨fun _ _=>rfl,fun m0 hm0=>?_⟩
   have:(fun i=>if i ∈ fpt md then m' i else m0 i)=m0:=by
    funext i
    by_cases hi:i ∈ fpt md
    ·simp [hi,hm0 i hi]
    ·simp [hi]
   rw [this]; unfold Out; rw [hg]; exact ⟨rfl,rfl⟩
  ·exact h.elim
theorem mn_out {o:Oper} {e:Env} {m m':Mem} {lv:LV} (h:Out P pr ro ops o e 4 m lv m'):m'=m∧∀ m0,Out P pr ro ops o e 4 m0 lv m0:=by
 have hh:=h
 unfold Out at h
 split at h
 ·rename_i hg
  rcases h with ⟨_,h1,h2⟩ | ⟨h3,_⟩ | ⟨g1,_⟩ | ⟨g1,_⟩ | ⟨g1,_⟩
  ·refine ⟨h1,fun m0=>?_⟩
   unfold Out
   rw [hg]
   exact .inl ⟨rfl,rfl,h2⟩
  ·omega
  ·omega
  ·omega
  ·omega
 ·rename_i hg
  refine ⟨h.2,fun m0=>?_⟩
  unfold Out
  rw [hg]
  exact ⟨h.1,rfl⟩
 ·exact h.elim
theorem Out.any {o:Oper} {e:Env} {m m' m0:Mem} {lv:LV} (h:Out P pr ro ops o e 0 m lv m'):Out P pr ro ops o e 0 m0 lv m0:=by
 unfold Out at h ⊢
 split at h
 ·rename_i hg
  rcases h with ⟨h3,_⟩ | ⟨h3,_⟩ | ⟨g1,_⟩ | ⟨g1,_⟩ | ⟨_,h1,h2,h3⟩
  ·omega
  ·omega
  ·omega
  ·omega
  ·exact .inr (.inr (.inr (.inr ⟨by simp,fun _=>⟨rfl,(h1 rfl).2⟩,by simp,fun K' hK=>(h1 rfl).2 m0 K' hK⟩)))
 ·exact ⟨h.1,rfl⟩
 ·exact h.elim

theorem swap_one {x y:Oper × Nat} (hs:swaps ops x y=true) {r:List (Oper × Nat)} {e e':Env} {m m':Mem} (h:Chain P pr ro ops (x :: y :: r) e m e' m'):Chain P pr ro ops (y :: x :: r) e m e' m':=by
 obtain ⟨o,a⟩:=x
 obtain ⟨q,b⟩:=y
 simp only [swaps,Bool.and_eq_true,Bool.or_eq_true,beq_iff_eq,decide_eq_true_eq] at hs
 obtain ⟨hap,hmd⟩:=hs
 obtain ⟨ha1,ha2,ha3⟩:=Oper.apart_spec hap
 obtain ⟨lv,m1,ho,lv',m2,hq,hc⟩:=h
 have hq':Out P pr ro ops q e b m1 lv' m2:=hq.congr (put?_looks ha1)
 have ho':Out P pr ro ops o (e.put? q.dst lv') a m lv m1:=ho.congr fun t ht=>(put?_looks ha3 t ht).symm
 rw [put?_comm ha2] at hc
 rcases hmd with (((((((h0 | h0) | ⟨h1,h2⟩) | ⟨⟨⟨hal,hfr⟩,ha2'⟩,hb2'⟩) | ⟨⟨hx,hy⟩,hne⟩) | ⟨hx,hy⟩) | ⟨⟨hal,hx⟩,hb2'⟩) | h4) | ⟨⟨hx,hy⟩,hdis⟩
 ·subst h0
  have:=md_out ho (by omega)
  subst this
  exact ⟨lv',m2,hq',lv,m2,ho'.any,hc⟩
 ·subst h0
  have:=md_out hq (by omega)
  subst this
  exact ⟨lv',m,hq'.any,lv,m2,ho',hc⟩
 ·have e1:=md_out ho h1
  have e2:=md_out hq h2
  subst e1; subst e2
  exact ⟨lv',m2,hq',lv,m2,ho',hc⟩
 ·subst ha2'; subst hb2'
  have hal':=hal
  have hfr':=hfr
  simp only [isAlloc,frames,Bool.and_eq_true,Option.isNone_iff_eq_none] at hal hfr
  have hgo:∀ e,gd ops o e=some true:=fun e=>by simp [gd,hfr.2]
  have hgq:∀ e,gd ops q e=some true:=fun e=>by simp [gd,hal.2]
  unfold Out at hq' ho'
  simp only [hgo,hgq] at hq' ho'
  replace hq':=((((hq'.resolve_left (fun h3=>by omega)).resolve_left (fun h3=>by have:=h3.1; omega)).resolve_left (fun h3=>by omega)).resolve_left (fun h3=>by omega)).2
  replace ho':=((((ho'.resolve_left (fun h3=>by omega)).resolve_left (fun h3=>by have:=h3.1; omega)).resolve_left (fun h3=>by omega)).resolve_left (fun h3=>by omega)).2
  cases hop:q.op <;> simp only [hop] at hal <;> try (simp at hal; done)
  case alloc t =>
   obtain ⟨z,d,hz,hd,hm1,rfl,rfl⟩:=alloc_out hop hq'.2.2
   obtain ⟨hmA,hfrm⟩:=frame_out hfr' ho'.2.2 hm1 (.box z.cells)
   refine ⟨.ptr (100+d) 0,m.put (100+d) (.box z.cells),?_,lv,m1.put (100+d) (.box z.cells),?_,hc⟩
   ·unfold Out
    simp only [hgq]
    refine .inr (.inr (.inr (.inr ⟨by simp,by simp,by simp,fun K' hK=>?_⟩)))
    simp only [LOp,hop,hz,hd]
    exact ⟨hmA,hK⟩
   ·unfold Out
    simp only [hgo]
    exact .inr (.inr (.inr (.inr ⟨by simp,by simp,by simp,hfrm⟩)))
 ·have hne':mdom a ≠ mdom b:=by simpa using hne
  rcases dom_out ho hx with ⟨rfl,hg,rfl⟩ | ⟨le,le',g1,rfl,g3⟩
  ·exact ⟨lv',m2,hq',_,m2,Out.skip (by rw [gd_same (ops:=ops) (o:=o) (e:=e.put? q.dst lv') (e':=e) (put?_looks ha3)]; exact hg),hc⟩
  ·rcases dom_out hq' hy with ⟨rfl,hg,rfl⟩ | ⟨lf,lf',k1,rfl,k3⟩
   ·exact ⟨_,m,Out.skip hg,lv,_,ho',hc⟩
   ·have k1':m (mdom b)=some lf:=by simpa [Mem.put,Ne.symm hne'] using k1
    refine ⟨lv',m.put (mdom b) lf',k3 m k1',lv,(m.put (mdom b) lf').put (mdom a) le',?_,by rw [put_put (Ne.symm hne')]; exact hc⟩
    exact (g3 (m.put (mdom b) lf') (by simpa [Mem.put,hne'] using g1)).congr fun t ht=>(put?_looks ha3 t ht).symm
 ·have e1:=rd_out ho (by simpa using hx)
  have e2:=rd_out hq (by simpa using hy)
  subst e1; subst e2
  exact ⟨lv',m2,hq',lv,m2,ho',hc⟩
 ·subst hb2'
  have hal':=hal
  simp only [isAlloc,Bool.and_eq_true,Option.isNone_iff_eq_none] at hal
  have hgq:∀ e,gd ops q e=some true:=fun e=>by simp [gd,hal.2]
  unfold Out at hq'
  simp only [hgq] at hq'
  replace hq':=((((hq'.resolve_left (fun h3=>by omega)).resolve_left (fun h3=>by have:=h3.1; omega)).resolve_left (fun h3=>by omega)).resolve_left (fun h3=>by omega)).2
  cases hop:q.op <;> simp only [hop] at hal <;> try (simp at hal; done)
  case alloc t =>
   obtain ⟨z,d,hz,hd,hm1,rfl,rfl⟩:=alloc_out hop hq'.2.2
   have hal2:∀ m0:Mem,m0 (100+d)=.none→Out P pr ro ops q e 2 m0 (.ptr (100+d) 0) (m0.put (100+d) (.box z.cells)):=fun m0 h0=>by
    unfold Out
    simp only [hgq]
    refine .inr (.inr (.inr (.inr ⟨by simp,by simp,by simp,fun K' hK=>?_⟩)))
    simp only [LOp,hop,hz,hd]
    exact ⟨h0,hK⟩
   rcases dom_out ho hx with ⟨rfl,hg,rfl⟩ | ⟨le,le',g1,rfl,g3⟩
   ·exact ⟨_,_,hal2 _ hm1,_,_,Out.skip (by rw [gd_same (ops:=ops) (o:=o) (e':=e) (put?_looks ha3)]; exact hg),hc⟩
   ·have hne':mdom a ≠ 100+d:=fun h=>by rw [← h] at hm1; simp [Mem.put] at hm1
    have hm0:m (100+d)=.none:=by simpa [Mem.put,Ne.symm hne'] using hm1
    refine ⟨_,_,hal2 m hm0,lv,(m.put (100+d) (.box z.cells)).put (mdom a) le',?_,by rw [put_put (Ne.symm hne')]; exact hc⟩
    exact (g3 (m.put (100+d) (.box z.cells)) (by simpa [Mem.put,hne'] using g1)).congr fun t ht=>(put?_looks ha3 t ht).symm
 ·rcases h4 with h4 | h4
  ·subst h4
   obtain ⟨rfl,hall⟩:=mn_out ho'
   exact ⟨lv',m2,hq',lv,m2,hall m2,hc⟩
  ·subst h4
   obtain ⟨rfl,hall⟩:=mn_out hq'
   exact ⟨lv',m,hall m,lv,_,ho',hc⟩
 ·obtain ⟨f1,f2⟩:=foot_out ho (by simpa using hx)
  obtain ⟨k1,k2⟩:=foot_out hq' (by simpa using hy)
  have hd1:∀ i,i ∈ fids a→i ∉ fids b:=fun i hi=>by simpa using List.all_eq_true.1 hdis i hi
  refine ⟨lv',_,k2 m (fun i hi=>(f1 i (fun hj=>hd1 i hj hi)).symm),lv,m2,?_,hc⟩
  have:=f2 (fun i=>if i ∈ fids b then m2 i else m i) (fun i hi=>by simp [hd1 i hi])
  refine (Eq.mp (congrArg _ ?_) this).congr fun t ht=>(put?_looks ha3 t ht).symm
  funext i
  by_cases h1:i ∈ fids a
  ·simp [h1,k1 i (hd1 i h1)]
  ·by_cases h2:i ∈ fids b
   ·simp [h1,h2]
   ·simp [h1,h2,k1 i h2,f1 i h1]

theorem move_front {y:Oper × Nat}:∀ (l r:List (Oper × Nat)) {e e':Env} {m m':Mem},(∀ x ∈ l,swaps ops x y=true)→Chain P pr ro ops (l++y :: r) e m e' m'→Chain P pr ro ops (y :: (l++r)) e m e' m'
 | [],r,e,e',m,m',_,h=>h
 | x :: l,r,e,e',m,m',hs,h=>by
  obtain ⟨o,a⟩:=x
  obtain ⟨lv,m1,ho,hc⟩:=h
  have:=move_front l r (fun z hz=>hs z (by simp [hz])) hc
  exact swap_one (hs _ (by simp)) ⟨lv,m1,ho,this⟩

theorem Out_step {o:Oper} {md:Nat} {e:Env} {m m':Mem} {lv:LV} (hd:∀ q ∈ ops,∀ i,q.dst=some i→i<N) (hod:∀ i,o.dst=some i→i<N) (h:Out P pr ro ops o e md m lv m') (c:Cx) (a:Act) (R:Act→World→Prop) (Q:Exit→Act→World→Prop) (hr:Rep N c e m a)
  (hR:∀ a' (c':Cx),Rep N c' (e.put? o.dst lv) m' a'→Step pr c c'→R a' c'.w) :
  if Region.wanted o (yielded ops a.tmps) then o.wp P a c.w R Q ∨ (o.asks P a c.w∧LetsOut Q) else R (a.put o.dst undef) c.w:=by
 have hwant:∀ b,gd ops o e=some b→Region.wanted o (yielded ops a.tmps)=b:=by
  intro b hb
  unfold gd at hb
  split at hb
  ·rename_i hg; cases hb; simp [Region.wanted,hg]
  ·rename_i j want hg
   split at hb
   ·rename_i g hj
    cases ht:e g <;> simp only [ht] at hb
    case bool t=>cases hb; exact wanted_of hr hd hg hj ht
    case tup vs =>
     cases vs with
     | cons x xs=>cases hb
     | nil=>cases hb; exact unwanted_of hr hd hg hj ht
    all_goals cases hb
   ·cases hb
 unfold Out at h
 split at h
 ·rename_i hg
  rw [hwant true hg,if_pos rfl]
  have hL:(∀ K':LV→Mem→Prop,K' lv m'→LOp P pr ro o (lev e) m K')→(o.wp P a c.w R Q ∨ (o.asks P a c.w∧LetsOut Q)):=fun hh=>by
   obtain ⟨lv0,m0,⟨rfl,rfl⟩,hok⟩:=LOp_sound (hh (fun l mm=>l=lv∧mm=m') ⟨rfl,rfl⟩)
   left
   refine Oper.wp_mono ?_ (hok c a Q hr.ev hr.mem)
   rintro a' w' ⟨v,c',rfl,rfl,hv,hm',hs⟩
   exact hR _ c' (hr.put hs hm' hod hv) hs
  rcases h with ⟨_,rfl,hok⟩ | ⟨h3,hok,hf⟩ | ⟨_,_,rfl,le,g4,g5⟩ | ⟨_,le,le',g2,rfl,g4⟩ | ⟨_,h⟩
  ·left
   refine Oper.wp_mono ?_ (hok _ c a Q (fun x _=>hr.ev x) hr.mem)
   rintro a' w' ⟨v,c',rfl,rfl,hv,hm',hs⟩
   exact hR _ c' (hr.put hs hm' hod hv) hs
  ·left
   refine Oper.wp_mono ?_ ((h3.elim hok (fun h=>(hf h).ok)) c a Q (fun x _=>hr.ev x) hr.mem)
   rintro a' w' ⟨v,c',rfl,rfl,hv,hm',hs⟩
   exact hR _ c' (hr.put hs hm' hod hv) hs
  ·exact hL fun K' hK=>g5 _ g4 K' hK
  ·exact hL fun K' hK=>g4 m g2 K' hK
  obtain ⟨lv0,m0,⟨rfl,rfl⟩,hok⟩:=LOp_sound (h.2.2 (fun l mm=>l=lv∧mm=m') ⟨rfl,rfl⟩)
  left
  refine Oper.wp_mono ?_ (hok c a Q hr.ev hr.mem)
  rintro a' w' ⟨v,c',rfl,rfl,hv,hm',hs⟩
  exact hR _ c' (hr.put hs hm' hod hv) hs
 ·rename_i hg
  obtain ⟨rfl,rfl⟩:=h
  rw [hwant false hg,if_neg (by simp)]
  exact hR _ c (hr.put (Step.refl pr c) hr.mem hod (repV_undef c)) (Step.refl pr c)
 ·exact h.elim

def ahead (ops:Array Oper):Nat→Nat→Nat→Bool
 | 0,_,_=>false
 | f+1,k,i=>((ops[i]?).map fun o=>o.after.toList.any fun e=>Region.binds .any e && (e.on == k || ahead ops f k e.on)).getD false

def drawOk (ops:Array Oper) (mds:List Nat):Bool :=
 (List.range ops.size).all fun i=>match ops[i]? with
  | some o=>(o.after.toList.all fun e=>!Region.binds .any e || decide (e.on<i)) && (List.range i).all fun k=>match ops[k]? with
   | some q=>swaps ops (q,mds.getD k 2) (o,mds.getD i 2) || ahead ops 6 k i
   | .none=>true
  | .none=>true

theorem ahead_listed {listed:Array Bool} (hcl:∀ i o,ops[i]?=some o→listed.getD i true=true→∀ e ∈ o.after,Region.binds .any e=true→listed.getD e.on false=true) (hsz:listed.size=ops.size):∀ (f k i:Nat) (o:Oper),ops[i]?=some o→(∀ e ∈ o.after,Region.binds .any e=true→listed.getD e.on false=true)→ahead ops f k i=true→listed.getD k false=true
 | 0,k,i,o,_,_,h=>by simp [ahead] at h
 | f+1,k,i,o,ho,hpre,h=>by
  simp only [ahead,ho,Option.map_some,Option.getD_some,List.any_eq_true,Bool.and_eq_true,Bool.or_eq_true,beq_iff_eq] at h
  obtain ⟨e,he,hb,hk⟩:=h
  have he:e ∈ o.after:=by simpa using he
  have hl:=hpre e he hb
  rcases hk with hk | hk
  ·subst hk; exact hl
  ·have hlt:e.on<listed.size:=by
    rcases Nat.lt_or_ge e.on listed.size with h' | h'
    ·exact h'
    ·simp [Array.getElem?_eq_none h'] at hl
   have hon:∃ q,ops[e.on]?=some q:=⟨ops[e.on]'(by omega),by simp [hsz ▸ hlt]⟩
   obtain ⟨q,hq⟩:=hon
   exact ahead_listed hcl hsz f k e.on q hq (hcl e.on q hq (by simpa [hlt] using hl)) hk

def left (ops:Array Oper) (listed:Array Bool):List Nat:=(List.range ops.size).filter fun i=>!listed.getD i true

theorem LH.regionC {id:Nat} {l:List Oper} {Q:Exit→Env→Mem→Prop} {e e':Env} {m m':Mem} (hmix:P.follows .mixedOrders=true) (ro:List Nat) (mds:List Nat) (hd:dstsOk N l=true) (hok:drawOk l.toArray mds=true)
  (hc:Chain P pr ro l.toArray ((List.range l.length).map fun i=>(l.getD i default,mds.getD i 2)) e m e' m') (hK:Q .normal e' m'):LH P N pr (.region id l.toArray true) Q e m:=by
 refine ⟨.normal,e',m',fun c a hr=>?_,hK⟩
 refine wp_region_any hmix ?_
 have hds:=dsts_of hd
 have key : ∀ (fuel : Nat) (listed : Array Bool) (e0 : Env) (m0 : Mem) (c0 : Cx) (a0 : Act), listed.size = l.toArray.size → (left l.toArray listed).length ≤ fuel →
   (∀ i o,l.toArray[i]?=some o→listed.getD i true=true→∀ e ∈ o.after,Region.binds .any e=true→listed.getD e.on false=true) →
   Chain P pr ro l.toArray ((left l.toArray listed).map fun i=>(l.getD i default,mds.getD i 2)) e0 m0 e' m'→Rep N c0 e0 m0 a0→Grow pr c c0 →
   wpAny P .any l.toArray (fun x a' w'=>x=.normal∧∃ c':Cx,c'.w=w'∧Rep N c' e' m' a'∧Grow pr c c') fuel listed a0 c0.w:=by
  have hdr:=List.all_eq_true.1 hok
  have hsub:∀ listed:Array Bool,∀ i ∈ Region.ready .any l.toArray listed,i ∈ left l.toArray listed∧∀ o,l.toArray[i]?=some o→∀ e ∈ o.after,Region.binds .any e=true→listed.getD e.on false=true:=by
   intro listed i hi
   unfold Region.ready at hi
   simp only [List.mem_filter,Bool.and_eq_true] at hi
   refine ⟨by unfold left; exact List.mem_filter.2 ⟨hi.1,hi.2.1⟩,fun o ho e he hb=>?_⟩
   have h2:=hi.2.2
   rw [ho] at h2
   simp only [Option.map_some,Option.getD_some] at h2
   have:=(Array.all_eq_true_iff_forall_mem.1 h2) e he
   simpa [hb] using this
  have hfin:∀ (listed:Array Bool) (e0:Env) (m0:Mem) (c0:Cx) (a0:Act),left l.toArray listed=[]→Chain P pr ro l.toArray ((left l.toArray listed).map fun i=>(l.getD i default,mds.getD i 2)) e0 m0 e' m'→Rep N c0 e0 m0 a0→Grow pr c c0→(∃ c':Cx,c'.w=c0.w∧Rep N c' e' m' a0∧Grow pr c c'):=by
   intro listed e0 m0 c0 a0 hl hch hr0 hg0
   rw [hl] at hch
   obtain ⟨rfl,rfl⟩:=hch
   exact ⟨c0,rfl,hr0,hg0⟩
  intro fuel
  induction fuel with
  | zero =>
   intro listed e0 m0 c0 a0 hsz hlen hcl hch hr0 hg0
   have hl:left l.toArray listed=[]:=List.eq_nil_of_length_eq_zero (by omega)
   refine ⟨?_,rfl,hfin listed e0 m0 c0 a0 hl hch hr0 hg0⟩
   rw [List.eq_nil_iff_forall_not_mem]
   intro i hi
   have:=(hsub listed i hi).1
   rw [hl] at this; cases this
  | succ fuel ih =>
   intro listed e0 m0 c0 a0 hsz hlen hcl hch hr0 hg0
   have hpw:(left l.toArray listed).Pairwise (·<·):=by unfold left; exact List.Pairwise.filter _ List.pairwise_lt_range
   refine ⟨fun hnone=>?_,fun i hi=>?_⟩
   ·refine ⟨rfl,hfin listed e0 m0 c0 a0 ?_ hch hr0 hg0⟩
    cases hl:left l.toArray listed with
    | nil=>rfl
    | cons i r =>
     exfalso
     have hil:i ∈ left l.toArray listed:=by rw [hl]; simp
     have hmem:=hil
     unfold left at hmem
     simp only [List.mem_filter,List.mem_range] at hmem
     have hlt:=hmem.1
     have hoi:l.toArray[i]?=some (l.toArray[i]'hlt):=by simp [hlt]
     have hir:i ∈ Region.ready .any l.toArray listed:=by
      unfold Region.ready
      simp only [List.mem_filter,List.mem_range,Bool.and_eq_true]
      refine ⟨hlt,hmem.2,?_⟩
      rw [hoi]
      simp only [Option.map_some,Option.getD_some]
      rw [Array.all_eq_true_iff_forall_mem]
      intro e he
      by_cases hb:Region.binds .any e=true
      ·have h1:=hdr i (by simpa using hlt)
       rw [hoi] at h1
       simp only [Bool.and_eq_true,List.all_eq_true] at h1
       have h2:=h1.1 e (by simpa using he)
       simp only [hb,Bool.not_true,Bool.false_or,decide_eq_true_eq] at h2
       have h3:e.on ∉ left l.toArray listed:=by
        rw [hl]
        intro hm
        rw [hl] at hpw
        rcases List.mem_cons.1 hm with h4 | h4
        ·omega
        ·have:=(List.pairwise_cons.1 hpw).1 _ h4; omega
       unfold left at h3
       simp only [List.mem_filter,List.mem_range,not_and] at h3
       have h4:=h3 (by omega)
       have h5:e.on<listed.size:=by omega
       simp only [hb,Bool.not_true,Bool.false_or]
       simpa [h5] using h4
      ·simp [hb]
     rw [hnone] at hir; cases hir
   ·obtain ⟨hil,hpre⟩:=hsub listed i hi
    have hmem:=hil
    unfold left at hmem
    simp only [List.mem_filter,List.mem_range] at hmem
    have hlt:=hmem.1
    have hil':i<l.length:=by simpa using hlt
    have hoi:l.toArray[i]?=some (l.getD i default):=by simp [hil']
    obtain ⟨pre,post,hsplit⟩:=List.append_of_mem hil
    rw [hsplit] at hpw
    have hprelt:∀ k ∈ pre,k<i:=fun k hk=>(List.pairwise_append.1 hpw).2.2 k hk i (by simp)
    have hpostlt:∀ k ∈ post,i<k:=fun k hk=>(List.pairwise_cons.1 (List.pairwise_append.1 hpw).2.1).1 k hk
    have hleft':left l.toArray (listed.setIfInBounds i true)=pre++post:=by
     have e1:left l.toArray (listed.setIfInBounds i true)=(left l.toArray listed).filter fun k=>k != i:=by
      unfold left
      rw [List.filter_filter]
      apply List.filter_congr
      intro k hk
      by_cases hki:k=i
      ·subst hki
       have:k<listed.size:=by omega
       simp [this]
      ·simp [Array.getElem?_setIfInBounds_ne (Ne.symm hki),hki]
     rw [e1,hsplit,List.filter_append,List.filter_cons]
     simp only [bne_self_eq_false,Bool.false_eq_true,if_false]
     rw [List.filter_eq_self.2 (fun k hk=>by have:=hprelt k hk; simp; omega),List.filter_eq_self.2 (fun k hk=>by have:=hpostlt k hk; simp; omega)]
    rw [hsplit,List.map_append,List.map_cons] at hch
    have hfront:=move_front _ _ (by
     intro x hx
     simp only [List.mem_map] at hx
     obtain ⟨k,hk,rfl⟩:=hx
     have h1:=hdr i (by simpa using hlt)
     rw [hoi] at h1
     simp only [Bool.and_eq_true,List.all_eq_true] at h1
     have hki:=hprelt k hk
     have h2:=h1.2 k (by simpa using hki)
     have hok':l.toArray[k]?=some (l.getD k default):=by simp [show k<l.length by omega]
     rw [hok'] at h2
     simp only [Bool.or_eq_true] at h2
     rcases h2 with h2 | h2
     ·exact h2
     ·exfalso
      have h3:=ahead_listed hcl hsz 6 k i _ hoi (hpre _ hoi) h2
      have h4:k ∈ left l.toArray listed:=by rw [hsplit]; simp [hk]
      unfold left at h4
      simp only [List.mem_filter,List.mem_range] at h4
      have h5:k<listed.size:=by omega
      have h6:=h4.2
      simp [h5] at h3 h6
      rw [h3] at h6; cases h6) hch
    obtain ⟨lv,m1,hout,hrest⟩:=hfront
    unfold wpOp
    rw [hoi]
    simp only
    refine Out_step hds (hds _ (Array.mem_of_getElem? hoi)) hout c0 a0 _ _ hr0 ?_
    intro a' c' hr' hs'
    refine ih (listed.setIfInBounds i true) _ m1 c' a' (by simpa using hsz) ?_ ?_ ?_ hr' (hg0.trans hs'.grow)
    ·rw [hleft']
     rw [hsplit] at hlen
     simp at hlen ⊢; omega
    ·intro j o hoj hj e he hb
     have hset:∀ q,listed.getD q false=true→(listed.setIfInBounds i true).getD q false=true:=by
      intro q hq
      by_cases hqi:q=i
      ·subst hqi
       have:q<listed.size:=by omega
       simp [this]
      ·simpa [Array.getElem?_setIfInBounds_ne (Ne.symm hqi)] using hq
     apply hset
     by_cases hji:j=i
     ·subst hji; exact hpre o hoj e he hb
     ·refine hcl j o hoj ?_ e he hb
      simpa [Array.getElem?_setIfInBounds_ne (Ne.symm hji)] using hj
    ·rw [hleft',List.map_append]; exact hrest
 have hleft:left l.toArray (Array.replicate l.toArray.size false)=List.range l.length:=by
  unfold left
  rw [List.filter_eq_self.2]
  ·simp
  ·intro i hi
   simp at hi
   simp [hi]
 have hr':Rep N ⟨{ c.w with drawn:=c.w.drawn+1 },c.B,c.O⟩ e m a:=by
  obtain ⟨hm1,hs1⟩:=hr.mem.ext (pr:=pr) { c.w with drawn:=c.w.drawn+1 } rfl rfl rfl (Nat.le_succ _) (Nat.le_refl _) (fun _ _=>rfl)
  exact ⟨fun i=>hs1.repV (hr.env i),hm1,hr.size,hr.defers⟩
 have hg':Grow pr c ⟨{ c.w with drawn:=c.w.drawn+1 },c.B,c.O⟩:=(hr.mem.ext (pr:=pr) { c.w with drawn:=c.w.drawn+1 } rfl rfl rfl (Nat.le_succ _) (Nat.le_refl _) (fun _ _=>rfl)).2.grow
 refine key l.toArray.size (Array.replicate l.toArray.size false) e m ⟨{ c.w with drawn:=c.w.drawn+1 },c.B,c.O⟩ a (by simp) (by rw [hleft]; simp) ?_ (by rw [hleft]; exact hc) hr' hg'
 intro i o ho hl
 have:i<l.toArray.size:=by
  rcases Nat.lt_or_ge i l.toArray.size with h' | h'
  ·exact h'
  ·simp at h'; simp [List.getElem?_eq_none h'] at ho
 simp at this
 simp [this] at hl

theorem zip_modes (l:List Oper) (mds:List Nat) (h:mds.length=l.length):((List.range l.length).map fun i=>(l.getD i default,mds.getD i 2))=l.zip mds:=by
 apply List.ext_getElem?
 intro i
 simp only [List.getElem?_map,List.zip,List.getElem?_zipWith]
 by_cases hi:i<l.length
 ·have hi':i<mds.length:=by omega
  simp [hi,hi']
 ·simp [hi]

theorem LH.seqJM {id:Nat} {l:List Oper} {y:Code} {Q:Exit→Env→Mem→Prop} {e:Env} {m:Mem} (hmix:P.follows .mixedOrders=true) (ro:List Nat) (mds:List Nat) (el:List (Nat × LV)) (ml:List (Nat × LE)) (hlen:mds.length=l.length) (hd:dstsOk N l=true) (hok:drawOk l.toArray mds=true)
  (h:LOpsM P pr ro l.toArray (l.zip mds) (fun e m=>Wk pr e m (Env.of el) (Mem.of ml)) e m) (hr:LH P N pr y Q (Env.of el) (Mem.of ml)):LH P N pr (.seq (.region id l.toArray true) y) Q e m:=by
  obtain ⟨e',m',hK,hc⟩:=LOpsM_chain _ h
  rw [← zip_modes l mds hlen] at hc
  exact LH.seq (LH.regionC hmix ro mds hd hok hc (LH.wk hK hr))

section
variable {e:Env} {m:Mem} {d:Option Nat} {ty:TypeId} {pos:String} {af:Array Edge} {K:Env→Mem→Prop}
theorem LStepM_g (op:Op) (md j:Nat) (want:Bool):LStepM P pr ro ops md ⟨d,op,ty,pos,af,some (j,want)⟩ K e m=match (ops[j]?).bind (·.dst) with
  | some q=>match e q with
   | .bool t=>if t=want then LStepM P pr ro ops md ⟨d,op,ty,pos,af,.none⟩ K e m else K (e.put? d (.tup [])) m
   | .tup []=>K (e.put? d (.tup [])) m
   | _=>False
  | .none=>False:=by
 unfold LStepM
 simp only [gd]
 cases hq:(ops[j]?).bind (·.dst) with
 | none=>rfl
 | some q =>
  simp only
  cases he:e q
  case tup vs=>cases vs <;> rfl
  case bool t =>
   simp only
   by_cases ht:t=want
   ·subst ht
    simp only [beq_self_eq_true,if_true]
    split <;> first | exact LOp_guard .. | rfl
   ·have:(t == want)=false:=by simpa using ht
    simp only [this,ht,if_false]
  all_goals rfl
where
 LOp_guard {P:Program} {pr:Nat→Prop} {ro:List Nat} {d:Option Nat} {op:Op} {ty:TypeId} {pos:String} {af:Array Edge} {g g':Option (Nat × Bool)} {ev:Operand→LV} {m:Mem} {K:LV→Mem→Prop}:LOp P pr ro ⟨d,op,ty,pos,af,g⟩ ev m K=LOp P pr ro ⟨d,op,ty,pos,af,g'⟩ ev m K:=rfl
end
attribute [go_sem] List.zip_cons_cons List.zip_nil_left List.getElem?_toArray Option.bind_some
end
end Go.L
