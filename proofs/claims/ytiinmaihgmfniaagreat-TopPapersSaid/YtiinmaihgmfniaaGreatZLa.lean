import Derived.Below
import Derived.Orders
import Derived.Deep.MidRow
import Derived.Laws.AppendOwn
import Derived.Laws.AppendOwnNone
import Derived.Laws.StructEq
import Derived.KernelRfl
import Derived.Laws.MakeOwn
import Derived.Laws.OwnMore
import Derived.Great.BuildSlice
import Derived.Deep.LoopGhost
set_option linter.unusedVariables false
set_option linter.unusedSimpArgs false
namespace Go.L
theorem rG (w:World) (o:Obj) (i:Nat) (h:i<w.heap.size):(w.alloc o).heap[i]?=w.heap[i]?:=by
 show (w.heap.push o)[i]?=_
 rw [Array.getElem?_push_lt h,Array.getElem?_eq_getElem h]
inductive LV where
 | fp
 | int (k:IntKind) (n:Int)
 | bool (b:Bool)
 | nil
 | nilp
 | lst (k:Nat) (xs:List LV)
 | sptr (cs:List LV)
 | arr (id n:Nat)
 | ptr (id o:Nat)
 | eptr (id n i o:Nat)
 | agg (cs:List LV)
 | tup (vs:List LV)
 | fn (f:Nat) (cap:List LV)
 /-- a slice of RS the length alone is known -/
 | slen (n:Nat)
 /-- a slice Zt reads as xs,with no room behind,never written -/
 | full (k:Nat) (xs:List LV)
 | str (s:ByteArray)
 /-- the address of an iterator -/
 | it (r:Nat)
 /-- no function -/
 | nilf
 /-- a function with its first arguments -/
 | bfn (f:Nat) (fs:List LV)
 | mp (id:Nat)
 deriving Inhabited
inductive LE where
 | box (cs:List LV)
 | arr (e k:Nat) (xs:List LV)
 | map (kt vt:Nat) (es:List (LV × LV))
 /-- a row ae7 elements own UH: os ahc at RS cells (and the element type and its cells of the UH there) -/
 | nest (e k:Nat) (os:List (Nat × Nat × Nat)) (xs:List LV)
 /-- ahf a row,of RS the slice at the cell o of the element i is the row id2 (of n2 elements) -/
 | dm (e k:Nat) (os:List (Nat × Nat × Nat)) (xs:List LV) (i o id2 n2:Nat)
 /-- a row Zt was given afi -/
 | dead
abbrev Mem:=Nat→Option LE
abbrev Env:=Nat→LV
def Mem.none:Mem:=fun _=>Option.none
def Mem.put (m:Mem) (id:Nat) (x:LE):Mem:=fun i=>if i=id then some x else m i
def Env.put (e:Env) (d:Nat) (v:LV):Env:=fun i=>if i=d then v else e i
def Env.gh (e:Env) (d:Option Nat) (v:LV):Env:=match d with | some d=>e.put d v | .none=>e
def Env.of:List (Nat × LV)→Env
 | []=>fun _=>.fp
 | (d,v) :: r=>fun i=>if i=d then v else Env.of r i
def Mem.of:List (Nat × LE)→Mem
 | []=>fun _=>Option.none
 | (d,v) :: r=>fun i=>if i=d then some v else Mem.of r i
mutual
def LV.pure:LV→Bool
 | .sptr cs=>LV.bf cs
 | .arr _ _=>false
 | .ptr _ _=>false
 | .eptr _ _ _ _=>false
 | .mp _=>false
 | .agg cs=>LV.bf cs
 | .tup cs=>LV.bf cs
 | .fn _ cs=>LV.bf cs
 | .bfn _ cs=>LV.bf cs
 | _=>true
def LV.bf:List LV→Bool
 | []=>true
 | x :: xs=>x.pure && LV.bf xs
end
mutual
/-- aaB the value not Zm of id? -/
def LV.bg (id:Nat):LV→Bool
 | .sptr cs=>LV.cz id cs
 | .arr i _=>i != id
 | .ptr i _=>i != id
 | .eptr i _ _ _=>i != id
 | .mp i=>i != id
 | .agg cs=>LV.cz id cs
 | .tup cs=>LV.cz id cs
 | .fn _ cs=>LV.cz id cs
 | .bfn _ cs=>LV.cz id cs
 | _=>true
def LV.cz (id:Nat):List LV→Bool
 | []=>true
 | x :: xs=>x.bg id && LV.cz id xs
end
def LE.jh (id:Nat):LE→Bool
 | .box cs=>LV.cz id cs
 | .dm _ _ _ _ _ _ id2 _=>id2 != id
 | _=>true
def LV.cells:LV→List LV
 | .agg cs=>cs
 | x=>[x]
def LV.scalar:LV→Bool
 | .fp=>false
 | .agg _=>false
 | .tup _=>false
 | _=>true
inductive BE where
 | box (b n:Nat)
 | arr (v:Value) (k len:Nat) (ins:List Nat)
 | mp (b:Nat)
def BE.has:BE→Nat→Prop
 | .box b' _,b=>b'=b
 | .arr v _ _ ins,b=>v.ownBlock=some b ∨ b ∈ ins
 | .mp b',b=>b'=b
def BE.jX:BE→BE→Prop
 | .box b n,y=>y=.box b n
 | .arr u k len _,y=>∃ u' nh ins,y=.arr u' k nh ins∧len≤nh∧(len=nh→u'=u)
 | .mp b,y=>y=.mp b
theorem BE.jX.refl (x:BE):x.jX x:=by
 cases x with
 | box _ _=>rfl
 | arr u k len ins=>exact ⟨_,_,_,rfl,Nat.le_refl _,fun _=>rfl⟩
 | mp _=>rfl
theorem BE.jX.trans {x y z:BE} (h:x.jX y) (h':y.jX z):x.jX z:=by
 cases x with
 | box b n=>simp only [BE.jX] at h; subst h; exact h'
 | arr u k len ins=>simp only [BE.jX] at h; obtain ⟨u',nh,nf,rfl,h1,h2⟩:=h; obtain ⟨u2,ag1,agV,rfl,h3,h4⟩:=h'; exact ⟨_,_,_,rfl,by omega,fun he=>by rw [h4 (by omega),h2 (by omega)]⟩
 | mp b=>simp only [BE.jX] at h; subst h; exact h'
structure Cx where
 w:World
 B:Nat→Option BE
 O:Nat→Prop
def Cx.own (c:Cx) (b:Nat):Prop:=∃ id be,c.B id=some be∧be.has b
def Cx.X (c:Cx) (b:Nat):Prop:=c.O b ∨ c.own b
def flat (vs:List Value):List Value:=vs.flatMap fun v=>v.cells.toList
mutual
def ao (c:Cx):LV→Value→Prop
 | .fp,_=>True
 | .int k n,v=>v=.int k n
 | .bool b,v=>v=.bool b
 | .nil,v=>v=.slice Option.none 0 0
 | .slen n,v=>∃ a cap,v=.slice a n cap
 | .nilf,v=>v=.nilFunc
 | .nilp,v=>v=.pointer Option.none
 | .lst k xs,v=>∃ a cap,v=.slice a xs.length cap∧xs.length≤cap∧(a=Option.none→cap=0)∧LV.bf xs=true ∧
   (xs=[] ∨ ∃ b off vs,a=some ⟨b,off,Option.none⟩∧b<c.w.heap.size∧¬ c.X b∧aD c xs vs∧(∀ u ∈ vs,u.cells.size=k∧∀ y ∈ u.cells,y.oneCell'=true)∧c.w.rangeAt b off (flat vs))
 | .full k xs,v=>∃ a,v=.slice a xs.length xs.length∧(a=Option.none→xs=[])∧LV.bf xs=true ∧
   (xs=[] ∨ ∃ b off vs,a=some ⟨b,off,Option.none⟩∧b<c.w.heap.size∧¬ c.X b∧aD c xs vs∧(∀ u ∈ vs,u.cells.size=k∧∀ y ∈ u.cells,y.oneCell'=true)∧c.w.rangeAt b off (flat vs))
 | .str s,v=>v=.string s
 | .it r,v=>v=.pointer (some ⟨r,0,Option.none⟩)
 | .sptr cs,v=>∃ b off vs,v=.pointer (some ⟨b,off,Option.none⟩)∧b<c.w.heap.size∧¬ c.X b∧aD c cs vs∧(∀ y ∈ vs,y.oneCell'=true)∧c.w.rangeAt b off vs
 | .arr id n,v=>v.oneCell'=true∧∃ u k len ins,c.B id=some (.arr u k len ins)∧n≤len∧(n=len→v=u)
 | .ptr id o,v=>∃ b n,c.B id=some (.box b n)∧v=.pointer (some ⟨b,o,Option.none⟩)
 | .eptr id n i o,v=>v.oneCell'=true∧∃ u k len ins,c.B id=some (.arr u k len ins)∧n≤len∧(n=len→∃ b,u.ownBlock=some b∧v=.pointer (some ⟨b,i * k+o,Option.none⟩))
 | .mp id,v=>∃ b,c.B id=some (.mp b)∧v=.map (some b)
 | .agg cs,v=>∃ vs,v=.agg vs.toArray∧aD c cs vs
 | .tup cs,v=>∃ vs,v=.tuple vs.toArray∧aD c cs vs
 | .fn f cs,v=>∃ vs,v=.func (.func f) #[] vs.toArray∧aD c cs vs
 | .bfn f cs,v=>∃ vs,v=.func (.func f) vs.toArray #[]∧aD c cs vs
def aD (c:Cx):List LV→List Value→Prop
 | [],vs=>vs=[]
 | x :: xs,vs=>∃ v fD,vs=v :: fD∧ao c x v∧aD c xs fD
end
theorem aD.length {c:Cx}:∀ {xs:List LV} {vs:List Value},aD c xs vs→xs.length=vs.length
 | [],vs,h=>by simp [aD] at h; simp [h]
 | x :: xs,vs,h=>by
  simp only [aD] at h
  obtain ⟨v,fD,rfl,_,h'⟩:=h
  simp [h'.length]
theorem aD.get {c:Cx}:∀ {xs:List LV} {vs:List Value},aD c xs vs→∀ {i:Nat} {x:LV},xs[i]?=some x→∃ v,vs[i]?=some v∧ao c x v
 | [],vs,h,i,x,hx=>by simp at hx
 | y :: xs,vs,h,i,x,hx=>by
  simp only [aD] at h
  obtain ⟨v,fD,rfl,hv,h'⟩:=h
  cases i with
  | zero=>simp at hx; subst hx; exact ⟨v,by simp,hv⟩
  | succ i=>simp at hx; obtain ⟨u,hu,hr⟩:=h'.get hx; exact ⟨u,by simpa using hu,hr⟩
theorem aD.of {c:Cx}:∀ {xs:List LV} {vs:List Value},xs.length=vs.length→(∀ (i:Nat) x v,xs[i]?=some x→vs[i]?=some v→ao c x v)→aD c xs vs
 | [],vs,h,_=>by simp [aD]; exact List.eq_nil_of_length_eq_zero (by simpa using h.symm)
 | x :: xs,[],h,_=>by simp at h
 | x :: xs,v :: vs,h,hr=>by
  simp only [aD]
  exact ⟨v,vs,rfl,hr 0 x v (by simp) (by simp),aD.of (by simpa using h) fun i y u hy hu=>hr (i+1) y u (by simpa using hy) (by simpa using hu)⟩
theorem aD.append {c:Cx} {xs ys:List LV} {vs us:List Value} (h:aD c xs vs) (h':aD c ys us):aD c (xs++ys) (vs++us):=by
 induction xs generalizing vs with
 | nil=>simp [aD] at h; subst h; simpa using h'
 | cons x xs ih =>
  simp only [aD] at h
  obtain ⟨v,fD,rfl,hv,h2⟩:=h
  simp only [List.cons_append,aD]
  exact ⟨v,fD++us,rfl,hv,ih h2⟩
theorem aD.drop {c:Cx} {xs:List LV} {vs:List Value} (h:aD c xs vs) (n:Nat):aD c (xs.drop n) (vs.drop n):=by
 induction n generalizing xs vs with
 | zero=>simpa using h
 | succ n ih =>
  cases xs with
  | nil=>simp [aD] at h; subst h; simp [aD]
  | cons x xs =>
   simp only [aD] at h
   obtain ⟨v,fD,rfl,hv,h2⟩:=h
   simpa using ih h2
theorem aD.take {c:Cx} {xs:List LV} {vs:List Value} (h:aD c xs vs) (n:Nat):aD c (xs.take n) (vs.take n):=by
 induction n generalizing xs vs with
 | zero=>simp [aD]
 | succ n ih =>
  cases xs with
  | nil=>simp [aD] at h; subst h; simp [aD]
  | cons x xs =>
   simp only [aD] at h
   obtain ⟨v,fD,rfl,hv,h2⟩:=h
   simp only [List.take_succ_cons,aD]
   exact ⟨v,_,rfl,hv,ih h2⟩
theorem dg:∀ {xs:List LV},LV.bf xs=true ↔ ∀ x ∈ xs,x.pure=true
 | []=>by simp [LV.bf]
 | x :: xs=>by simp [LV.bf,dg (xs:=xs)]
theorem wm {id:Nat}:∀ {xs:List LV},LV.cz id xs=true ↔ ∀ x ∈ xs,x.bg id=true
 | []=>by simp [LV.cz]
 | x :: xs=>by simp [LV.cz,wm (xs:=xs)]
mutual
theorem il {id:Nat}:∀ (x:LV),x.pure=true→x.bg id=true
 | .fp,_ | .int _ _,_ | .bool _,_ | .nil,_ | .slen _,_ | .full _ _,_ | .str _,_ | .it _,_ | .nilf,_ | .nilp,_ | .lst _ _,_=>by simp [LV.bg]
 | .sptr cs,h=>by simp only [LV.pure] at h; simp only [LV.bg]; exact az cs h
 | .arr _ _,h | .ptr _ _,h | .eptr _ _ _ _,h | .mp _,h=>by simp [LV.pure] at h
 | .agg cs,h=>by simp only [LV.pure] at h; simp only [LV.bg]; exact az cs h
 | .tup cs,h=>by simp only [LV.pure] at h; simp only [LV.bg]; exact az cs h
 | .fn _ cs,h=>by simp only [LV.pure] at h; simp only [LV.bg]; exact az cs h
 | .bfn _ cs,h=>by simp only [LV.pure] at h; simp only [LV.bg]; exact az cs h
theorem az {id:Nat}:∀ (xs:List LV),LV.bf xs=true→LV.cz id xs=true
 | [],_=>by simp [LV.cz]
 | x :: xs,h=>by
  simp only [LV.bf,Bool.and_eq_true] at h
  simp only [LV.cz,Bool.and_eq_true]
  exact ⟨il x h.1,az xs h.2⟩
end
def jy (x y:Option BE):Prop :=
 match x with
 | .none=>True
 | some (.box b n)=>y=some (.box b n)
 | some (.arr u k len _)=>∃ u' nh nf,y=some (.arr u' k nh nf)∧len≤nh∧(len=nh→u'=u)
 | some (.mp b)=>y=some (.mp b)
theorem jy.refl (x:Option BE):jy x x:=by
 unfold jy; split
 ·trivial
 ·rfl
 ·exact ⟨_,_,_,rfl,Nat.le_refl _,fun _=>rfl⟩
 ·rfl
structure Cx.Le (c c':Cx):Prop where
 size:c.w.heap.size≤c'.w.heap.size
 heap:∀ b,b<c.w.heap.size→¬ c.X b→c'.w.heap[b]?=c.w.heap[b]?∧¬ c'.X b
theorem nP {w w':World} {b off:Nat} {cs:List Value} (h:w.rangeAt b off cs) (hb:w'.heap[b]?=w.heap[b]?):w'.rangeAt b off cs:=by
 intro j v hv
 rw [World.cell?_of_block (w:=w) (a:=⟨b,off+j,Option.none⟩) hb]
 exact h j v hv
mutual
theorem ao.mono {c c':Cx} (h:c.Le c'):∀ (x:LV) (v:Value),(∀ id,x.bg id=false→jy (c.B id) (c'.B id))→ao c x v→ao c' x v
 | .fp,v,_,hr=>by simp only [ao]
 | .int _ _,v,_,hr=>by simpa only [ao] using hr
 | .bool _,v,_,hr=>by simpa only [ao] using hr
 | .nil,v,_,hr=>by simpa only [ao] using hr
 | .slen _,v,_,hr=>by simpa only [ao] using hr
 | .str _,v,_,hr=>by simpa only [ao] using hr
 | .it _,v,_,hr=>by simpa only [ao] using hr
 | .full k xs,v,_,hr=>by
  simp only [ao] at hr ⊢
  obtain ⟨a,rfl,hn,hp,hx⟩:=hr
  refine ⟨a,rfl,hn,hp,?_⟩
  rcases hx with hx | ⟨b,off,vs,rfl,hb,hX,hl,hk,hra⟩
  ·exact .inl hx
  ·obtain ⟨h1,h2⟩:=h.heap b hb hX
   exact .inr ⟨b,off,vs,rfl,Nat.lt_of_lt_of_le hb h.size,h2,aD.mono h xs vs (fun id bX=>by rw [az xs hp] at bX; cases bX) hl,hk,nP hra h1⟩
 | .nilf,v,_,hr=>by simpa only [ao] using hr
 | .nilp,v,_,hr=>by simpa only [ao] using hr
 | .lst k xs,v,_,hr=>by
  simp only [ao] at hr ⊢
  obtain ⟨a,cap,rfl,hcap,hn,hp,hx⟩:=hr
  refine ⟨a,cap,rfl,hcap,hn,hp,?_⟩
  rcases hx with hx | ⟨b,off,vs,rfl,hb,hX,hl,hk,hra⟩
  ·exact .inl hx
  ·obtain ⟨h1,h2⟩:=h.heap b hb hX
   exact .inr ⟨b,off,vs,rfl,Nat.lt_of_lt_of_le hb h.size,h2,aD.mono h xs vs (fun id bX=>by rw [az xs hp] at bX; cases bX) hl,hk,nP hra h1⟩
 | .sptr cs,v,hB,hr=>by
  simp only [ao] at hr ⊢
  obtain ⟨b,off,vs,rfl,hb,hX,hl,hk,hra⟩:=hr
  obtain ⟨h1,h2⟩:=h.heap b hb hX
  exact ⟨b,off,vs,rfl,Nat.lt_of_lt_of_le hb h.size,h2,aD.mono h cs vs (fun id bX=>hB id (by simpa only [LV.bg] using bX)) hl,hk,nP hra h1⟩
 | .arr id n,v,hB,hr=>by
  simp only [ao] at hr ⊢
  obtain ⟨h1,u,k,len,ins,hu,hn,hv⟩:=hr
  have:=hB id (by simp [LV.bg])
  rw [hu] at this
  obtain ⟨u',nh,nf,hu',hl,he⟩:=this
  refine ⟨h1,u',k,nh,nf,hu',Nat.le_trans hn hl,fun e=>?_⟩
  rw [he (by omega)]; exact hv (by omega)
 | .ptr id o,v,hB,hr=>by
  simp only [ao] at hr ⊢
  obtain ⟨b,n,hu,hv⟩:=hr
  have:=hB id (by simp [LV.bg])
  rw [hu] at this
  exact ⟨b,n,this,hv⟩
 | .eptr id n i o,v,hB,hr=>by
  simp only [ao] at hr ⊢
  obtain ⟨h1,u,k,len,ins,hu,hn,hv⟩:=hr
  have:=hB id (by simp [LV.bg])
  rw [hu] at this
  obtain ⟨u',nh,nf,hu',hl,he⟩:=this
  refine ⟨h1,u',k,nh,nf,hu',Nat.le_trans hn hl,fun e=>?_⟩
  rw [he (by omega)]; exact hv (by omega)
 | .mp id,v,hB,hr=>by
  simp only [ao] at hr ⊢
  obtain ⟨b,hu,hv⟩:=hr
  have:=hB id (by simp [LV.bg])
  rw [hu] at this
  exact ⟨b,this,hv⟩
 | .agg cs,v,hB,hr=>by
  simp only [ao] at hr ⊢
  obtain ⟨vs,rfl,hl⟩:=hr
  exact ⟨vs,rfl,aD.mono h cs vs (fun id bX=>hB id (by simpa only [LV.bg] using bX)) hl⟩
 | .tup cs,v,hB,hr=>by
  simp only [ao] at hr ⊢
  obtain ⟨vs,rfl,hl⟩:=hr
  exact ⟨vs,rfl,aD.mono h cs vs (fun id bX=>hB id (by simpa only [LV.bg] using bX)) hl⟩
 | .fn f cs,v,hB,hr=>by
  simp only [ao] at hr ⊢
  obtain ⟨vs,rfl,hl⟩:=hr
  exact ⟨vs,rfl,aD.mono h cs vs (fun id bX=>hB id (by simpa only [LV.bg] using bX)) hl⟩
 | .bfn f cs,v,hB,hr=>by
  simp only [ao] at hr ⊢
  obtain ⟨vs,rfl,hl⟩:=hr
  exact ⟨vs,rfl,aD.mono h cs vs (fun id bX=>hB id (by simpa only [LV.bg] using bX)) hl⟩
theorem aD.mono {c c':Cx} (h:c.Le c'):∀ (xs:List LV) (vs:List Value),(∀ id,LV.cz id xs=false→jy (c.B id) (c'.B id))→aD c xs vs→aD c' xs vs
 | [],vs,_,hr=>by simpa only [aD] using hr
 | x :: xs,vs,hB,hr=>by
  simp only [aD] at hr ⊢
  obtain ⟨v,fD,rfl,hv,hl⟩:=hr
  refine ⟨v,fD,rfl,ao.mono h x v (fun id bX=>hB id (by simp [LV.cz,bX])) hv,aD.mono h xs fD (fun id bX=>hB id (by simp [LV.cz,bX])) hl⟩
end
theorem fg {c:Cx} {x:LV} {v:Value} (hs:x.scalar=true) (h:ao c x v):v.oneCell'=true:=by
 cases x <;> simp only [LV.scalar,ao,Bool.false_eq_true] at hs h
 case int=>subst h; rfl
 case bool=>subst h; rfl
 case nil=>subst h; rfl
 case nilp=>subst h; rfl
 case lst=>obtain ⟨_,_,rfl,_⟩:=h; rfl
 case sptr=>obtain ⟨_,_,_,rfl,_⟩:=h; rfl
 case arr=>exact h.1
 case ptr=>obtain ⟨_,_,_,rfl⟩:=h; rfl
 case eptr=>exact h.1
 case fn=>obtain ⟨_,rfl,_⟩:=h; rfl
 case bfn=>obtain ⟨_,rfl,_⟩:=h; rfl
 case slen=>obtain ⟨_,_,rfl⟩:=h; rfl
 case full=>obtain ⟨_,rfl,_⟩:=h; rfl
 case str=>subst h; rfl
 case it=>subst h; rfl
 case nilf=>subst h; rfl
 case mp=>obtain ⟨_,_,rfl⟩:=h; rfl
theorem oj {x:LV} (hs:x.scalar=true):x.cells=[x]:=by
 cases x <;> simp_all [LV.scalar,LV.cells]
theorem dY {v:Value} (h:v.oneCell'=true):v.cells=#[v]:=by
 cases v <;> simp_all [Value.oneCell',Value.cells]
theorem ao.cellsOf {c:Cx} {x:LV} {v:Value} (h:ao c x v) (hs:x.cells.all LV.scalar=true):aD c x.cells v.cells.toList∧∀ y ∈ v.cells,y.oneCell'=true:=by
 by_cases hx:x.scalar=true
 ·have h1:=fg hx h
  rw [oj hx,dY h1]
  simp [aD,h,h1]
 ·cases x <;> simp [LV.scalar,LV.cells] at hx hs
  case agg cs =>
   simp only [ao] at h
   obtain ⟨vs,rfl,hl⟩:=h
   simp only [LV.cells,Value.cells]
   refine ⟨by simpa using hl,fun y hy=>?_⟩
   obtain ⟨i,hi⟩:=List.mem_iff_getElem?.1 (by simpa using hy:y ∈ vs)
   have hlen:=hl.length
   have hlt:i<cs.length:=by rw [hlen]; exact (List.getElem?_eq_some_iff.1 hi).1
   obtain ⟨u,hu,hru⟩:=hl.get (List.getElem?_eq_getElem hlt)
   rw [hi] at hu; cases hu
   exact fg (hs _ (List.getElem_mem hlt)) hru
end Go.L
namespace Go.L
def va (c:Cx) (e k:Nat) (x:LV) (v:Value) (bs:List Nat):Prop :=
 (x=.fp∧bs=[]) ∨ ∃ ys us,x=.lst k ys∧0<k∧c.w.ownsRow 0 e k v ys.length (flat us)∧aD c ys us∧(∀ u ∈ us,u.cells.size=k∧∀ y ∈ u.cells,y.oneCell'=true)∧LV.bf ys=true∧bs=v.ownBlock.toList
def fS (c:Cx) (os:List (Nat × Nat × Nat)) (o:Nat) (x:LV) (v:Value) (bs:List Nat):Prop :=
 match os.lookup o with
 | some (e,k)=>va c e k x v bs
 | .none=>ao c x v∧x.pure=true∧bs=[]
def je (c:Cx) (os:List (Nat × Nat × Nat)):Nat→List LV→List Value→List Nat→Prop
 | _,[],ws,bs=>ws=[]∧bs=[]
 | o,x :: xs,ws,bs=>∃ w Ko b1 b2,ws=w :: Ko∧bs=b1++b2∧fS c os o x w b1∧je c os (o+1) xs Ko b2
def Qe (c:Cx) (os:List (Nat × Nat × Nat)) (x:LV) (v:Value) (bs:List Nat):Prop:=∃ cs ws,x=.agg cs∧v=.agg ws.toArray∧je c os 0 cs ws bs
def ed (c:Cx) (os:List (Nat × Nat × Nat)):List LV→List Value→List Nat→Prop
 | [],vs,bs=>vs=[]∧bs=[]
 | x :: xs,vs,bs=>∃ v fD b1 b2,vs=v :: fD∧bs=b1++b2∧Qe c os x v b1∧ed c os xs fD b2
def E8 (es:Array MapEntry) (ck:Nat):Prop:=(es.toList.map (·.born)).Nodup∧∀ x ∈ es.toList,x.born<ck
def bo (c:Cx):Option LE→Option BE→Prop
 | .none,y=>y=.none
 | some (.box cs),y=>∃ b vs e,y=some (.box b cs.length)∧c.w.heap[b]?=some (.cells vs.toArray e (0,0))∧aD c cs vs∧∀ v ∈ vs,v.oneCell'=true
 | some (.arr e k xs),y=>∃ u vs,y=some (.arr u k xs.length [])∧0<k∧c.w.ownsRow 0 e k u xs.length (flat vs)∧aD c xs vs∧(∀ v ∈ vs,v.cells.size=k∧∀ y ∈ v.cells,y.oneCell'=true)∧LV.bf xs=true
 | some (.map kt vt es),y=>∃ b kP clock,y=some (.mp b)∧c.w.heap[b]?=some (.map kP clock)∧aD c (es.map (·.1)) (kP.toList.map (·.key))∧aD c (es.map (·.2)) (kP.toList.map (·.val))∧LV.bf (es.map (·.1))=true∧LV.bf (es.map (·.2))=true∧(es.map (·.1)).Nodup∧E8 kP clock
 | some (.nest e k os xs),y=>∃ u vs bs,y=some (.arr u k xs.length bs)∧0<k∧c.w.ownsRow 0 e k u xs.length (flat vs)∧ed c os xs vs bs∧(∀ v ∈ vs,v.cells.size=k∧∀ y ∈ v.cells,y.oneCell'=true)∧bs.Nodup∧∀ b,u.ownBlock=some b→b ∉ bs
 | some (.dm e k os xs i o id2 n2),y=>∃ u vs bs,y=some (.arr u k xs.length bs)∧0<k∧c.w.ownsRow 0 e k u xs.length (flat vs)∧ed c os xs vs bs∧(∃ g v,u.ownBlock=some g∧c.w.cell? ⟨g,i * k+o,Option.none⟩=some v∧ao c (.arr id2 n2) v)∧(∀ v ∈ vs,v.cells.size=k∧∀ y ∈ v.cells,y.oneCell'=true)∧bs.Nodup∧∀ b,u.ownBlock=some b→b ∉ bs
 | some .dead,y=>∃ u k len,y=some (.arr u k len [])∧u.ownBlock=Option.none
theorem c9 {w w':World} {base e k n:Nat} {u:Value} {vs:List Value} (h:w.ownsRow base e k u n vs) (hb:∀ b,u.ownBlock=some b→w'.heap[b]?=w.heap[b]?):w'.ownsRow base e k u n vs:=by
 refine ⟨h.1,?_⟩
 rcases h.2 with hn | ⟨g,cap,cur,rfl,h1,h2,rest⟩
 ·exact .inl hn
 ·exact .inr ⟨g,cap,cur,rfl,h1,(hb g rfl).trans h2,rest⟩
theorem sQ {w w':World} {g:Nat} (h:w'.heap[g]?=w.heap[g]?) (o:Nat):w'.cell? ⟨g,o,Option.none⟩=w.cell? ⟨g,o,Option.none⟩:=by simp [World.cell?,h]
theorem va.mono {c c':Cx} (hle:c.Le c') {e k:Nat} {x:LV} {v:Value} {bs:List Nat} (hh:∀ b ∈ bs,c'.w.heap[b]?=c.w.heap[b]?) (h:va c e k x v bs):va c' e k x v bs:=by
 rcases h with h | ⟨ys,us,h1,h0,h2,h3,h4,h5,h6⟩
 ·exact .inl h
 ·refine .inr ⟨ys,us,h1,h0,c9 h2 (fun b hb=>hh b (by rw [h6,hb]; simp)),aD.mono hle ys us (fun id bX=>by rw [az ys h5] at bX; cases bX) h3,h4,h5,h6⟩
theorem va.lt {c:Cx} {e k:Nat} {x:LV} {v:Value} {bs:List Nat} (h:va c e k x v bs):∀ b ∈ bs,b<c.w.heap.size:=by
 rcases h with ⟨_,rfl⟩ | ⟨ys,us,h1,h0,h2,h3,h4,h5,rfl⟩
 ·simp
 ·intro b hb
  have:v.ownBlock=some b:=by simpa using hb
  exact (h2.lt b this).2
theorem fS.mono {c c':Cx} (hle:c.Le c') {os:List (Nat × Nat × Nat)} {o:Nat} {x:LV} {v:Value} {bs:List Nat} (hh:∀ b ∈ bs,c'.w.heap[b]?=c.w.heap[b]?) (h:fS c os o x v bs):fS c' os o x v bs:=by
 unfold fS at *
 split
 ·rename_i e k he
  rw [he] at h
  exact va.mono hle hh h
 ·rename_i he
  rw [he] at h
  exact ⟨ao.mono hle x v (fun id bX=>by rw [il x h.2.1] at bX; cases bX) h.1,h.2⟩
theorem fS.lt {c:Cx} {os:List (Nat × Nat × Nat)} {o:Nat} {x:LV} {v:Value} {bs:List Nat} (h:fS c os o x v bs):∀ b ∈ bs,b<c.w.heap.size:=by
 unfold fS at h
 split at h
 ·exact va.lt h
 ·rw [h.2.2]; simp
theorem je.mono {c c':Cx} (hle:c.Le c') {os:List (Nat × Nat × Nat)}:∀ {o:Nat} {xs:List LV} {ws:List Value} {bs:List Nat},(∀ b ∈ bs,c'.w.heap[b]?=c.w.heap[b]?)→je c os o xs ws bs→je c' os o xs ws bs
 | _,[],_,_,_,h=>by simpa only [je] using h
 | o,x :: xs,ws,bs,hh,h=>by
  simp only [je] at h ⊢
  obtain ⟨w,Ko,b1,b2,rfl,rfl,h1,h2⟩:=h
  exact ⟨w,Ko,b1,b2,rfl,rfl,h1.mono hle (fun b hb=>hh b (by simp [hb])),je.mono hle (fun b hb=>hh b (by simp [hb])) h2⟩
theorem je.lt {c:Cx} {os:List (Nat × Nat × Nat)}:∀ {o:Nat} {xs:List LV} {ws:List Value} {bs:List Nat},je c os o xs ws bs→∀ b ∈ bs,b<c.w.heap.size
 | _,[],_,_,h=>by simp only [je] at h; rw [h.2]; simp
 | o,x :: xs,ws,bs,h=>by
  simp only [je] at h
  obtain ⟨w,Ko,b1,b2,rfl,rfl,h1,h2⟩:=h
  intro b hb
  rcases List.mem_append.1 hb with hb | hb
  ·exact h1.lt b hb
  ·exact je.lt h2 b hb
theorem ed.mono {c c':Cx} (hle:c.Le c') {os:List (Nat × Nat × Nat)}:∀ {xs:List LV} {vs:List Value} {bs:List Nat},(∀ b ∈ bs,c'.w.heap[b]?=c.w.heap[b]?)→ed c os xs vs bs→ed c' os xs vs bs
 | [],_,_,_,h=>by simpa only [ed] using h
 | x :: xs,vs,bs,hh,h=>by
  simp only [ed] at h ⊢
  obtain ⟨v,fD,b1,b2,rfl,rfl,⟨cs,ws,rfl,hv,h1⟩,h2⟩:=h
  exact ⟨v,fD,b1,b2,rfl,rfl,⟨cs,ws,rfl,hv,h1.mono hle (fun b hb=>hh b (by simp [hb]))⟩,ed.mono hle (fun b hb=>hh b (by simp [hb])) h2⟩
theorem ed.lt {c:Cx} {os:List (Nat × Nat × Nat)}:∀ {xs:List LV} {vs:List Value} {bs:List Nat},ed c os xs vs bs→∀ b ∈ bs,b<c.w.heap.size
 | [],_,_,h=>by simp only [ed] at h; rw [h.2]; simp
 | x :: xs,vs,bs,h=>by
  simp only [ed] at h
  obtain ⟨v,fD,b1,b2,rfl,rfl,⟨cs,ws,rfl,hv,h1⟩,h2⟩:=h
  intro b hb
  rcases List.mem_append.1 hb with hb | hb
  ·exact h1.lt b hb
  ·exact ed.lt h2 b hb
theorem ed.length {c:Cx} {os:List (Nat × Nat × Nat)}:∀ {xs:List LV} {vs:List Value} {bs:List Nat},ed c os xs vs bs→xs.length=vs.length
 | [],_,_,h=>by simp only [ed] at h; simp [h.1]
 | x :: xs,vs,bs,h=>by
  simp only [ed] at h
  obtain ⟨v,fD,b1,b2,rfl,rfl,_,h2⟩:=h
  simp [ed.length h2]
structure cA (c:Cx) (m:Mem):Prop where
 gY:∀ id,bo c (m id) (c.B id)
 inj:∀ id id' be ef b,c.B id=some be→c.B id'=some ef→be.has b→ef.has b→id=id'
 kB:∀ b,c.own b→¬ c.O b
 xR:∀ b,c.O b→b<c.w.heap.size
theorem bo.lt {c:Cx} {x:Option LE} {y:Option BE} (h:bo c x y) {be:BE} {b:Nat} (hy:y=some be) (hb:be.has b):b<c.w.heap.size:=by
 match x with
 | .none=>simp [bo] at h; rw [h] at hy; cases hy
 | some (.box cs) =>
  simp only [bo] at h
  obtain ⟨b',vs,e,rfl,hh,_⟩:=h
  cases hy
  simp only [BE.has] at hb
  subst hb
  exact (Array.getElem?_eq_some_iff.1 hh).1
 | some (.arr e k xs) =>
  simp only [bo] at h
  obtain ⟨u,vs,rfl,hk,bt,_⟩:=h
  cases hy
  have jP:u.ownBlock=some b:=by simpa [BE.has] using hb
  exact (bt.lt b jP).2
 | some (.nest e k os xs) =>
  simp only [bo] at h
  obtain ⟨u,vs,bs,rfl,hk,bt,hn,_⟩:=h
  cases hy
  rcases hb with hb | hb
  ·exact (bt.lt b hb).2
  ·exact hn.lt b hb
 | some (.dm e k os xs i o id2 n2) =>
  simp only [bo] at h
  obtain ⟨u,vs,bs,rfl,hk,bt,hn,_⟩:=h
  cases hy
  rcases hb with hb | hb
  ·exact (bt.lt b hb).2
  ·exact hn.lt b hb
 | some .dead =>
  simp only [bo] at h
  obtain ⟨u,k,len,rfl,hu⟩:=h
  cases hy
  rcases hb with hb | hb
  ·rw [hu] at hb; cases hb
  ·cases hb
 | some (.map kt vt es) =>
  simp only [bo] at h
  obtain ⟨b',kP,ck,rfl,hh,_⟩:=h
  cases hy
  simp only [BE.has] at hb
  subst hb
  exact (Array.getElem?_eq_some_iff.1 hh).1
theorem cA.AQ {c:Cx} {m:Mem} (h:cA c m) {b:Nat} (ho:c.own b):b<c.w.heap.size:=by
 obtain ⟨id,be,h1,h2⟩:=ho
 exact (h.gY id).lt h1 h2
theorem cA.fresh {c:Cx} {m:Mem} (h:cA c m) {id:Nat} (hm:m id=.none):c.B id=.none:=by
 have:=h.gY id
 rw [hm] at this
 exact this
structure Grow (pr:Nat→Prop) (c c':Cx):Prop where
 O:c'.O=c.O
 os:c'.w.os=c.w.os
 tape:c'.w.tape=c.w.tape
 output:c'.w.output=c.w.output
 drawn:c.w.drawn≤c'.w.drawn
 size:c.w.heap.size≤c'.w.heap.size
 keep:∀ b,b<c.w.heap.size→¬ c.own b→c'.w.heap[b]?=c.w.heap[b]?
 own:∀ b,c'.own b→c.own b ∨ c.w.heap.size≤b
 Gg:∀ id be,pr id→c.B id=some be→∃ ef,c'.B id=some ef∧be.jX ef
theorem Grow.refl (pr:Nat→Prop) (c:Cx):Grow pr c c :=
 ⟨rfl,rfl,rfl,rfl,Nat.le_refl _,Nat.le_refl _,fun _ _ _=>rfl,fun _ h=>.inl h,fun _ be _ h=>⟨be,h,.refl be⟩⟩
theorem Grow.trans {pr:Nat→Prop} {a b c:Cx} (h:Grow pr a b) (k:Grow pr b c):Grow pr a c where
 O:=k.O.trans h.O
 os:=k.os.trans h.os
 tape:=k.tape.trans h.tape
 output:=k.output.trans h.output
 drawn:=Nat.le_trans h.drawn k.drawn
 size:=Nat.le_trans h.size k.size
 keep:=fun x hx ho=>(k.keep x (Nat.lt_of_lt_of_le hx h.size) (fun hb=>(h.own x hb).elim ho (fun hs=>absurd hx (by omega)))).trans (h.keep x hx ho)
 own:=fun x hx=>(k.own x hx).elim (h.own x) (fun hs=>.inr (Nat.le_trans h.size hs))
 Gg:=fun id be hp hb=>by
  obtain ⟨VL,h1,h2⟩:=h.Gg id be hp hb
  obtain ⟨Hh,h3,h4⟩:=k.Gg id VL hp h1
  exact ⟨Hh,h3,h2.trans h4⟩
theorem Grow.le {pr:Nat→Prop} {c c':Cx} (h:Grow pr c c'):c.Le c' where
 size:=h.size
 heap:=fun b hb hX=>⟨h.keep b hb (fun ho=>hX (.inr ho)),fun OP=>by
  rcases OP with hO | ho
  ·rw [h.O] at hO; exact hX (.inl hO)
  ·rcases h.own b ho with ho | hs
   ·exact hX (.inr ho)
   ·omega⟩
structure Step (pr:Nat→Prop) (c c':Cx):Prop where
 grow:Grow pr c c'
 ble:∀ id,jy (c.B id) (c'.B id)
theorem Step.refl (pr:Nat→Prop) (c:Cx):Step pr c c:=⟨.refl pr c,fun _=>.refl _⟩
theorem Step.A4 {pr:Nat→Prop} {c c':Cx} (h:Step pr c c') {x:LV} {v:Value} (hr:ao c x v):ao c' x v:=ao.mono h.grow.le x v (fun id _=>h.ble id) hr
theorem Step.Zg {pr:Nat→Prop} {c c':Cx} (h:Step pr c c') {x:List LV} {v:List Value} (hr:aD c x v):aD c' x v:=aD.mono h.grow.le x v (fun id _=>h.ble id) hr
theorem bo.mono {c c':Cx} (hle:c.Le c') (hB:∀ id,jy (c.B id) (c'.B id)) {x:Option LE} {y:Option BE} (hh:∀ be b,y=some be→be.has b→c'.w.heap[b]?=c.w.heap[b]?) (h:bo c x y):bo c' x y:=by
 match x with
 | .none=>simpa only [bo] using h
 | some (.box cs) =>
  simp only [bo] at h ⊢
  obtain ⟨b,vs,e,rfl,h1,h2,h3⟩:=h
  exact ⟨b,vs,e,rfl,(hh _ b rfl rfl).trans h1,aD.mono hle cs vs (fun id _=>hB id) h2,h3⟩
 | some (.arr e k xs) =>
  simp only [bo] at h ⊢
  obtain ⟨u,vs,rfl,h0,h1,h2,h3⟩:=h
  exact ⟨u,vs,rfl,h0,c9 h1 (fun b hb=>hh _ b rfl (.inl hb)),aD.mono hle xs vs (fun id _=>hB id) h2,h3⟩
 | some (.nest e k os xs) =>
  simp only [bo] at h ⊢
  obtain ⟨u,vs,bs,rfl,h0,h1,h2,h3⟩:=h
  exact ⟨u,vs,bs,rfl,h0,c9 h1 (fun b hb=>hh _ b rfl (.inl hb)),h2.mono hle (fun b hb=>hh _ b rfl (.inr hb)),h3⟩
 | some (.dm e k os xs i o id2 n2) =>
  simp only [bo] at h ⊢
  obtain ⟨u,vs,bs,rfl,h0,h1,h2,⟨g,v,q1,q2,q3⟩,h3⟩:=h
  exact ⟨u,vs,bs,rfl,h0,c9 h1 (fun b hb=>hh _ b rfl (.inl hb)),h2.mono hle (fun b hb=>hh _ b rfl (.inr hb)),⟨g,v,q1,(sQ (hh _ g rfl (.inl q1)) _).trans q2,ao.mono hle (.arr id2 n2) v (fun id _=>hB id) q3⟩,h3⟩
 | some .dead=>simpa only [bo] using h
 | some (.map kt vt es) =>
  simp only [bo] at h ⊢
  obtain ⟨b,kP,ck,rfl,h1,h2,h3,h4⟩:=h
  exact ⟨b,kP,ck,rfl,(hh _ b rfl rfl).trans h1,aD.mono hle _ _ (fun id _=>hB id) h2,aD.mono hle _ _ (fun id _=>hB id) h3,h4⟩
theorem cA.Bw {pr:Nat→Prop} {c:Cx} {m:Mem} (h:cA c m) (id:Nat) (le:LE) (be:BE) (w':World)
  (Ka:w'.os=c.w.os) (rI:w'.tape=c.w.tape) (pa:w'.output=c.w.output) (B5:c.w.drawn≤w'.drawn) (iM:c.w.heap.size≤w'.heap.size)
  (iX:∀ b,b<c.w.heap.size→(∀ dA,c.B id=some dA→¬ dA.has b)→w'.heap[b]?=c.w.heap[b]?)
  (hblk:∀ b,be.has b→(∃ dA,c.B id=some dA∧dA.has b) ∨ c.w.heap.size≤b)
  (hle:jy (c.B id) (some be)) (kA:pr id→∀ dA,c.B id=some dA→dA.jX be)
  (iQ:∀ c':Cx,c'.w=w'→c.Le c'→(∀ i,jy (c.B i) (c'.B i))→bo c' (some le) (some be)) :
  ∃ c':Cx,c'.w=w'∧c'.B id=some be∧cA c' (m.put id le)∧Step pr c c':=by
 let c':Cx:=⟨w',fun i=>if i=id then some be else c.B i,c.O⟩
 have bt:∀ b,c'.own b→c.own b ∨ c.w.heap.size≤b:=by
  rintro b ⟨i,ef,h1,h2⟩
  by_cases hi:i=id
  ·simp only [c',hi,if_true] at h1
   cases h1
   rcases hblk b h2 with ⟨dA,h3,h4⟩ | hs
   ·exact .inl ⟨id,dA,h3,h4⟩
   ·exact .inr hs
  ·simp only [c',hi,if_false] at h1
   exact .inl ⟨i,ef,h1,h2⟩
 have eW:Grow pr c c':=by
  refine ⟨rfl,Ka,rI,pa,B5,iM,fun b hb ho=>iX b hb (fun dA h0 h1=>ho ⟨id,dA,h0,h1⟩),bt,fun i ef hp hb=>?_⟩
  by_cases hi:i=id
  ·subst hi; exact ⟨be,by simp only [c',if_true],kA hp ef hb⟩
  ·exact ⟨ef,by simp only [c',hi,if_false]; exact hb,.refl ef⟩
 have hble:∀ i,jy (c.B i) (c'.B i):=by
  intro i
  by_cases hi:i=id
  ·subst hi; simpa only [c',if_true] using hle
  ·simp only [c',hi,if_false]; exact jy.refl _
 refine ⟨c',rfl,by simp [c'],⟨fun i=>?_,?_,?_,?_⟩,eW,hble⟩
 ·by_cases hi:i=id
  ·subst hi; simp only [c',Mem.put,if_true]; exact iQ c' rfl eW.le hble
  ·simp only [Mem.put,hi,if_false]
   have:c'.B i=c.B i:=by simp [c',hi]
   rw [this]
   refine (h.gY i).mono eW.le hble fun ef b hb vH=>?_
   refine iX b ((h.gY i).lt hb vH) fun dA h0 h1=>?_
   exact hi (h.inj i id ef dA b hb h0 vH h1)
 ·intro i i' b1 b2 b h1 h2 h3 h4
  by_cases hi:i=id <;> by_cases fQ:i'=id
  ·rw [hi,fQ]
  ·simp only [c',hi,if_true] at h1
   simp only [c',fQ,if_false] at h2
   cases h1
   rcases hblk b h3 with ⟨dA,h5,h6⟩ | hs
   ·rw [hi]; exact h.inj id i' dA b2 b h5 h2 h6 h4
   ·have:=(h.gY i').lt h2 h4; omega
  ·simp only [c',hi,if_false] at h1
   simp only [c',fQ,if_true] at h2
   cases h2
   rcases hblk b h4 with ⟨dA,h5,h6⟩ | hs
   ·rw [fQ]; exact h.inj i id b1 dA b h1 h5 h3 h6
   ·have:=(h.gY i).lt h1 h3; omega
  ·simp only [c',hi,if_false] at h1
   simp only [c',fQ,if_false] at h2
   exact h.inj i i' b1 b2 b h1 h2 h3 h4
 ·intro b ho hO
  rcases bt b ho with ho | hs
  ·exact h.kB b ho hO
  ·have:=h.xR b hO; omega
 ·intro b hO; exact Nat.lt_of_lt_of_le (h.xR b hO) iM
theorem cA.ext {pr:Nat→Prop} {c:Cx} {m:Mem} (h:cA c m) (w':World)
  (Ka:w'.os=c.w.os) (rI:w'.tape=c.w.tape) (pa:w'.output=c.w.output) (B5:c.w.drawn≤w'.drawn) (iM:c.w.heap.size≤w'.heap.size)
  (iX:∀ b,b<c.w.heap.size→w'.heap[b]?=c.w.heap[b]?) :
  cA ⟨w',c.B,c.O⟩ m∧Step pr c ⟨w',c.B,c.O⟩:=by
 have eW:Grow pr c ⟨w',c.B,c.O⟩:=⟨rfl,Ka,rI,pa,B5,iM,fun b hb _=>iX b hb,fun b ho=>.inl ho,fun _ be _ hb=>⟨be,hb,.refl be⟩⟩
 refine ⟨⟨fun i=>?_,h.inj,h.kB,fun b hO=>Nat.lt_of_lt_of_le (h.xR b hO) iM⟩,eW,fun i=>jy.refl _⟩
 exact (h.gY i).mono eW.le (fun i=>jy.refl _) fun be b hb vH=>iX b ((h.gY i).lt hb vH)
theorem cA.XU {c:Cx} {m:Mem} (h:cA c m) {b:Nat} (hb:c.w.heap.size≤b):¬ c.X b:=by
 rintro (hO | ho)
 ·have:=h.xR b hO; omega
 ·have:=h.AQ ho; omega
def aF (P:Program) (f:Nat) (args:List LV) (m:Mem) (lv:LV) (m':Mem):Prop :=
 ∀ (c:Cx) (vs:List Value),cA c m→aD c args vs →
  Calls P f vs.toArray c.w fun en w'=>∃ v c',en=.returned v∧c'.w=w'∧cA c' m'∧ao c' lv v∧Grow (fun id=>m id ≠ .none) c c'
def Mem.over (m mc:Mem):Mem:=fun i=>match mc i with | some x=>some x | .none=>m i
theorem aF.frame {P:Program} {f:Nat} {args:List LV} {mc jb m:Mem} {lv:LV} (h:aF P f args mc lv jb)
  (pe:∀ id,mc id ≠ .none→m id=mc id) (oG:∀ id,mc id=.none→jb id ≠ .none→m id=.none)
  (hargs:∀ id,LV.cz id args=false→mc id ≠ .none) (j3:∀ id le,mc id=some le→∀ j,le.jh j=false→mc j ≠ .none)
  (pr:Nat→Prop) (c:Cx) (vs:List Value) (hm:cA c m) (ha:aD c args vs) :
  Calls P f vs.toArray c.w fun en w'=>∃ v c',en=.returned v∧c'.w=w'∧cA c' (m.over jb)∧ao c' lv v∧Step pr c c':=by
 classical
 let c0:Cx:=⟨c.w,fun id=>if mc id=.none then .none else c.B id,fun b=>c.O b ∨ ∃ id be,mc id=.none∧c.B id=some be∧be.has b⟩
 have hX:∀ b,c0.X b ↔ c.X b:=by
  intro b
  constructor
  ·rintro ((hO | ⟨id,be,_,h2,h3⟩) | ⟨id,be,h2,h3⟩)
   ·exact .inl hO
   ·exact .inr ⟨id,be,h2,h3⟩
   ·by_cases hi:mc id=.none
    ·simp [c0,hi] at h2
    ·simp only [c0,hi,if_false] at h2; exact .inr ⟨id,be,h2,h3⟩
  ·rintro (hO | ⟨id,be,h2,h3⟩)
   ·exact .inl (.inl hO)
   ·by_cases hi:mc id=.none
    ·exact .inl (.inr ⟨id,be,hi,h2,h3⟩)
    ·exact .inr ⟨id,be,by simp [c0,hi,h2],h3⟩
 have o9:c.Le c0:=⟨Nat.le_refl _,fun b _ hx=>⟨rfl,fun pR=>hx ((hX b).1 pR)⟩⟩
 have N8:∀ id,mc id ≠ .none→jy (c.B id) (c0.B id):=fun id hi=>by simp only [c0,hi,if_false]; exact jy.refl _
 have qG : cA c0 mc := by
  refine ⟨fun id=>?_,?_,?_,?_⟩
  ·by_cases hi:mc id=.none
   ·rw [hi]; simp [bo,c0,hi]
   ·have he:=hm.gY id
    rw [pe id hi] at he
    have hb:c0.B id=c.B id:=by simp [c0,hi]
    rw [hb]
    cases hx:mc id with
    | none=>exact absurd hx hi
    | some le =>
     rw [hx] at he
     cases le with
     | box cs =>
      simp only [bo] at he ⊢
      obtain ⟨b,us,e,h1,h2,h3,h4⟩:=he
      exact ⟨b,us,e,h1,h2,aD.mono o9 cs us (fun j hj=>N8 j (j3 id _ hx j hj)) h3,h4⟩
     | arr e k xs =>
      simp only [bo] at he ⊢
      obtain ⟨u,us,h1,h0,h2,h3,h4,h5⟩:=he
      exact ⟨u,us,h1,h0,h2,aD.mono o9 xs us (fun j hj=>by rw [az xs h5] at hj; cases hj) h3,h4,h5⟩
     | nest e k os xs =>
      simp only [bo] at he ⊢
      obtain ⟨u,us,bs,h1,h0,h2,h3,h4⟩:=he
      exact ⟨u,us,bs,h1,h0,h2,h3.mono o9 (fun b _=>rfl),h4⟩
     | dm e k os xs i o id2 n2 =>
      simp only [bo] at he ⊢
      obtain ⟨u,us,bs,h1,h0,h2,h3,⟨ws,v,q1,q2,q3⟩,h4⟩:=he
      exact ⟨u,us,bs,h1,h0,h2,h3.mono o9 (fun b _=>rfl),⟨ws,v,q1,q2,ao.mono o9 (.arr id2 n2) v (fun j hj=>N8 j (j3 id _ hx j hj)) q3⟩,h4⟩
     | dead=>simpa only [bo] using he
     | map kt vt es =>
      simp only [bo] at he ⊢
      obtain ⟨b,kP,ck,h1,h2,h3,h4,h5,h6,h7⟩:=he
      exact ⟨b,kP,ck,h1,h2,aD.mono o9 _ _ (fun j hj=>by rw [az _ h5] at hj; cases hj) h3,aD.mono o9 _ _ (fun j hj=>by rw [az _ h6] at hj; cases hj) h4,h5,h6,h7⟩
  ·intro i i' be ef b h1 h2 h3 h4
   by_cases hi:mc i=.none
   ·simp [c0,hi] at h1
   ·by_cases fQ:mc i'=.none
    ·simp [c0,fQ] at h2
    ·simp only [c0,hi,fQ,if_false] at h1 h2; exact hm.inj i i' be ef b h1 h2 h3 h4
  ·rintro b ⟨id,be,h1,h2⟩ hO
   by_cases hi:mc id=.none
   ·simp [c0,hi] at h1
   ·simp only [c0,hi,if_false] at h1
    rcases hO with hO | ⟨j,ef,h3,h4,h5⟩
    ·exact hm.kB b ⟨id,be,h1,h2⟩ hO
    ·have:=hm.inj id j be ef b h1 h4 h2 h5
     subst this; exact hi h3
  ·rintro b (hO | ⟨j,ef,h3,h4,h5⟩)
   ·exact hm.xR b hO
   ·exact hm.AQ ⟨j,ef,h4,h5⟩
 have ha0:aD c0 args vs:=aD.mono o9 args vs (fun id bX=>N8 id (hargs id bX)) ha
 refine (h c0 vs qG ha0).mono ?_
 rintro en w' ⟨v,c1,rfl,rfl,mr,jj,hg⟩
 have vK:∀ id,mc id ≠ .none→∃ be ef,c.B id=some be∧c1.B id=some ef∧be.jX ef:=by
  intro id hi
  have he:=qG.gY id
  cases hx:mc id with
  | none=>exact absurd hx hi
  | some le =>
   have hb:c0.B id=c.B id:=by simp [c0,hi]
   cases OS:c0.B id with
   | none=>rw [hx,OS] at he; cases le <;> simp [bo] at he
   | some be =>
    obtain ⟨ef,h1,h2⟩:=hg.Gg id be hi OS
    exact ⟨be,ef,by rw [← hb]; exact OS,h1,h2⟩
 have mq:∀ id,mc id ≠ .none→jb id ≠ .none:=by
  intro id hi fQ
  have he:=mr.gY id
  rw [fQ] at he
  simp only [bo] at he
  obtain ⟨be,ef,_,h2,_⟩:=vK id hi
  rw [he] at h2; cases h2
 have OW:∀ id be,c.B id=some be→mc id=.none→jb id=.none:=by
  intro id be hb hi
  by_cases fQ:jb id=.none
  ·exact fQ
  ·have:=hm.fresh (oG id hi fQ); rw [this] at hb; cases hb
 let c':Cx:=⟨c1.w,fun id=>if jb id=.none then c.B id else c1.B id,c.O⟩
 have OP : ∀ b, c'.X b ↔ c1.X b := by
  intro b
  constructor
  ·rintro (hO | ⟨id,be,h2,h3⟩)
   ·exact .inl (by rw [hg.O]; exact .inl hO)
   ·by_cases hi:jb id=.none
    ·simp only [c',hi,if_true] at h2
     have hn:mc id=.none:=by
      cases hx:mc id with
      | none=>rfl
      | some le=>exact absurd hi (mq id (by simp [hx]))
     exact .inl (by rw [hg.O]; exact .inr ⟨id,be,hn,h2,h3⟩)
    ·simp only [c',hi,if_false] at h2; exact .inr ⟨id,be,h2,h3⟩
  ·rintro (hO | ⟨id,be,h2,h3⟩)
   ·rw [hg.O] at hO
    rcases hO with hO | ⟨id,be,h1,h2,h3⟩
    ·exact .inl hO
    ·exact .inr ⟨id,be,by simp [c',OW id be h2 h1,h2],h3⟩
   ·refine .inr ⟨id,be,?_,h3⟩
    have:jb id ≠ .none:=fun hn=>by have:=mr.fresh hn; rw [this] at h2; cases h2
    simp [c',this,h2]
 have FG:c1.Le c':=⟨Nat.le_refl _,fun b _ hx=>⟨rfl,fun pR=>hx ((OP b).1 pR)⟩⟩
 have ON:∀ id,jy (c1.B id) (c'.B id):=by
  intro id
  by_cases hi:jb id=.none
  ·rw [mr.fresh hi]; trivial
  ·simp only [c',hi,if_false]; exact jy.refl _
 have V0:∀ id be,c.B id=some be→∃ ef,c'.B id=some ef∧be.jX ef:=by
  intro id be hb
  by_cases hi:jb id=.none
  ·exact ⟨be,by simp [c',hi,hb],.refl be⟩
  ·simp only [c',hi,if_false]
   by_cases hc:mc id=.none
   ·have:=OW id be hb hc; exact absurd this hi
   ·obtain ⟨VL,ef,h1,h2,h3⟩:=vK id hc
    rw [hb] at h1; cases h1
    exact ⟨ef,h2,h3⟩
 have eW:Grow pr c c':=by
  refine ⟨rfl,hg.os,hg.tape,hg.output,hg.drawn,hg.size,fun b hb ho=>hg.keep b hb ?_,?_,fun id be _ hb=>V0 id be hb⟩
  ·rintro ⟨id,be,h1,h2⟩
   by_cases hi:mc id=.none
   ·simp [c0,hi] at h1
   ·simp only [c0,hi,if_false] at h1; exact ho ⟨id,be,h1,h2⟩
  ·rintro b ⟨id,be,h1,h2⟩
   by_cases hi:jb id=.none
   ·simp only [c',hi,if_true] at h1; exact .inl ⟨id,be,h1,h2⟩
   ·simp only [c',hi,if_false] at h1
    rcases hg.own b ⟨id,be,h1,h2⟩ with ⟨j,ef,h3,h4⟩ | hs
    ·by_cases hj:mc j=.none
     ·simp [c0,hj] at h3
     ·simp only [c0,hj,if_false] at h3; exact .inl ⟨j,ef,h3,h4⟩
    ·exact .inr hs
 have hble:∀ id,jy (c.B id) (c'.B id):=by
  intro id
  cases hb:c.B id with
  | none=>trivial
  | some be =>
   obtain ⟨ef,h1,h2⟩:=V0 id be hb
   rw [h1]
   cases be with
   | box b n=>simp only [BE.jX] at h2; subst h2; exact jy.refl _
   | arr u k len ins=>simp only [BE.jX] at h2; obtain ⟨u',nh,nf,rfl,h3,h4⟩:=h2; exact ⟨_,_,_,rfl,h3,h4⟩
   | mp b=>simp only [BE.jX] at h2; subst h2; exact jy.refl _
 refine ⟨v,c',rfl,rfl,⟨fun id=>?_,?_,?_,?_⟩,ao.mono FG lv v (fun id _=>ON id) jj,eW,hble⟩
 ·by_cases hi:jb id=.none
  ·have hb:c'.B id=c.B id:=by simp [c',hi]
   have SC:m.over jb id=m id:=by simp [Mem.over,hi]
   rw [SC,hb]
   refine (hm.gY id).mono eW.le hble fun be b h1 h2=>?_
   refine hg.keep b ((hm.gY id).lt h1 h2) ?_
   rintro ⟨j,ef,h3,h4⟩
   by_cases hj:mc j=.none
   ·simp [c0,hj] at h3
   ·simp only [c0,hj,if_false] at h3
    have:=hm.inj id j be ef b h1 h3 h2 h4
    subst this
    exact absurd hi (mq id hj)
  ·have hb:c'.B id=c1.B id:=by simp [c',hi]
   cases hx:jb id with
   | none=>exact absurd hx hi
   | some le =>
    have SC:m.over jb id=jb id:=by simp [Mem.over,hx]
    rw [SC,hb]
    exact (mr.gY id).mono FG ON fun _ _ _ _=>rfl
 ·intro i i' be ef b h1 h2 h3 h4
  by_cases hi:jb i=.none <;> by_cases fQ:jb i'=.none
  ·simp only [c',hi,fQ,if_true] at h1 h2; exact hm.inj i i' be ef b h1 h2 h3 h4
  ·simp only [c',hi,if_true] at h1
   simp only [c',fQ,if_false] at h2
   refine absurd ?_ (mr.kB b ⟨i',ef,h2,h4⟩)
   rw [hg.O]
   refine .inr ⟨i,be,?_,h1,h3⟩
   cases hx:mc i with
   | none=>rfl
   | some le=>exact absurd hi (mq i (by simp [hx]))
  ·simp only [c',hi,if_false] at h1
   simp only [c',fQ,if_true] at h2
   refine absurd ?_ (mr.kB b ⟨i,be,h1,h3⟩)
   rw [hg.O]
   refine .inr ⟨i',ef,?_,h2,h4⟩
   cases hx:mc i' with
   | none=>rfl
   | some le=>exact absurd fQ (mq i' (by simp [hx]))
  ·simp only [c',hi,fQ,if_false] at h1 h2; exact mr.inj i i' be ef b h1 h2 h3 h4
 ·rintro b ⟨id,be,h1,h2⟩ hO
  by_cases hi:jb id=.none
  ·simp only [c',hi,if_true] at h1; exact hm.kB b ⟨id,be,h1,h2⟩ hO
  ·simp only [c',hi,if_false] at h1; exact mr.kB b ⟨id,be,h1,h2⟩ (by rw [hg.O]; exact .inl hO)
 ·intro b hO; exact Nat.lt_of_lt_of_le (hm.xR b hO) hg.size
end Go.L
namespace Go.L
def tsize (P:Program) (t:TypeId):Nat:=((P.info? t).map (·.size)).getD 0
def tagg (P:Program) (t:TypeId):Bool:=match P.underlying t with | some (.struct _)=>true | some (.array _ _)=>true | _=>false
def tok (P:Program) (t:TypeId):Bool:=(P.info? t).isSome && (P.underlying t).isSome
def telem (P:Program) (t:TypeId):Option Nat:=match P.underlying t with | some (.slice e)=>some e | _=>.none
def tfield (P:Program) (t:TypeId) (f:Nat):Option (Nat × Nat):=match P.underlying t with | some (.struct fs)=>(fs[f]?).map fun x=>(x.offset,x.type) | _=>.none
def EL (P:Program) (t:TypeId):Bool:=match P.underlying t with | some .bool=>true | _=>false
def tint (P:Program) (t:TypeId):Option IntKind:=match P.underlying t with | some (.int k)=>some k | _=>.none
def fP (P:Program) (t:TypeId):Bool:=match P.info? t with
 | some i=>(match i.zero with | some z=>z.cells.size == i.size && z.cells.all (·.oneCell') | .none=>false) && decide (0<i.size) && decide (i.bytes≤256)
 | .none=>false
def AJ:Value→LV
 | .int k n=>.int k n
 | .bool b=>.bool b
 | .slice .none 0 0=>.nil
 | .pointer .none=>.nilp
 | .nilFunc=>.nilf
 | .string s=>.str s
 | _=>.fp
def Ki:Value→LV
 | .agg cs=>.agg (cs.toList.map AJ)
 | v=>AJ v
def tzero (P:Program) (t:TypeId):Option LV:=match P.info? t with
 | some i=>(match i.zero with | some z=>if z.cells.all (·.oneCell') then some (Ki z) else .none | .none=>.none)
 | .none=>.none
def tbuild (P:Program) (t:TypeId):Bool:=match P.underlying t with
 | some (.struct fields)=>(fields.toList.mapM (fun f=>(P.info? f.type).map fun i=>(f.offset,i.size))).isSome
 | _=>false
def dZ (e:Env):Operand→LV
 | .tmp t=>e t
 | .const v=>Ki v
 | .global _=>.fp
 | .func f=>.fn f []
def rep (cs:List LV) (o:Nat) (ns:List LV):List LV:=cs.take o++ns++cs.drop (o+ns.length)
def kX:LV→Option Value
 | .int k n=>some (.int k n)
 | .bool b=>some (.bool b)
 | _=>.none
def eV:List LV→Option (List Value)
 | []=>some []
 | x :: xs=>match kX x,eV xs with | some v,some vs=>some (v :: vs) | _,_=>.none
def rk (P:Program) (t:TypeId) (xs ys:List LV) (b:Bool):Prop :=
 P.eqGuardType P.depth t=false∧∃ vs us,eV xs=some vs∧eV ys=some us∧∀ w,(Op.equal t (.agg vs.toArray) (.agg us.toArray)).run P w=.ok b w
def loadC (P:Program) (t:TypeId) (cs:List LV) (K:LV→Prop):Prop :=
 tok P t=true∧if tagg P t=true then tsize P t≤cs.length∧K (.agg (cs.take (tsize P t))) else match cs with | x :: _=>K x | []=>False
def qM (op:BinOp) (k:IntKind) (a b:Int) (K:LV→Prop):Prop :=
 match op with
 | .add=>K (.int k (k.wrap (a+b)))
 | .sub=>K (.int k (k.wrap (a - b)))
 | .mul=>K (.int k (k.wrap (a * b)))
 | .quo=>b ≠ 0∧K (.int k (k.wrap (a.tdiv b)))
 | .rem=>b ≠ 0∧K (.int k (a.tmod b))
 | .eql=>K (.bool (a == b))
 | .neq=>K (.bool (a != b))
 | .lss=>K (.bool (decide (a<b)))
 | .leq=>K (.bool (decide (a≤b)))
 | .gtr=>K (.bool (decide (a > b)))
 | .geq=>K (.bool (decide (a ≥ b)))
 | _=>False
def oo (P:Program) (t:TypeId):List LV→List (Nat × LV)→Option (List LV)
 | cs,[]=>some cs
 | cs,(i,x) :: r=>match tfield P t i with
  | some (off,ft)=>if x.cells.length=tsize P ft∧off+x.cells.length≤cs.length∧tok P ft=true∧x.cells.all LV.scalar=true then oo P t (rep cs off x.cells) r else .none
  | .none=>.none
def Ex (y:LV) (o:Nat) (x:LV):Option LV :=
 match y with
 | .agg cs=>if o+x.cells.length≤cs.length∧cs.all LV.scalar=true then some (.agg (rep cs o x.cells)) else .none
 | _=>if o=0∧x.scalar=true∧y.scalar=true then some x else .none
def Hd (P:Program) (f:Nat) (args:List LV) (m:Mem) (K:LV→Mem→Prop):Prop :=
 ∃ lv mc jb,aF P f args mc lv jb∧(∀ id,mc id ≠ .none→m id=mc id)∧(∀ id,mc id=.none→jb id ≠ .none→m id=.none) ∧
  (∀ id,LV.cz id args=false→mc id ≠ .none)∧(∀ id le,mc id=some le→∀ j,le.jh j=false→mc j ≠ .none)∧K lv (m.over jb)
def tO (k:Nat) (xs:List LV):Prop:=∀ x ∈ xs,x.pure=true∧x.cells.length=k∧x.cells.all LV.scalar=true
def LOp (P:Program) (pr:Nat→Prop) (ro:List Nat) (o:Oper) (ev:Operand→LV) (m:Mem) (K:LV→Mem→Prop):Prop :=
 match o.op with
 | .move x=>K (ev x) m
 | .assign x=>K (ev x) m
 | .pick c a b=>match ev c with | .bool t=>K (if t then ev a else ev b) m | _=>False
 | .alloc t=>match tzero P t,o.dst with
  | some z,some d=>m (100+d)=.none∧K (.ptr (100+d) 0) (m.put (100+d) (.box z.cells))
  | _,_=>False
 | .box _ x=>match o.dst with
  | some d=>(ev x).cells.all LV.scalar=true ∧
   if ro.contains d=true then K (.sptr (ev x).cells) m
   else m (100+d)=.none∧K (.ptr (100+d) 0) (m.put (100+d) (.box (ev x).cells))
  | .none=>False
 | .build t parts=>tbuild P t=true∧match tzero P t with
  | some (.agg z)=>match oo P t z (parts.toList.map fun p=>(p.1,ev p.2)) with
   | some cs=>K (.agg cs) m
   | .none=>False
  | _=>False
 | .buildSlice t len parts=>match telem P t with
  | some e=>fP P e=true∧len * tsize P e≤16777216∧parts.toList.map (·.1)=List.range len∧tO (tsize P e) (parts.toList.map fun p=>ev p.2)∧K (.lst (tsize P e) (parts.toList.map fun p=>ev p.2)) m
  | .none=>False
 | .load t a=>match ev a with
  | .sptr cs=>loadC P t cs fun lv=>K lv m
  | .ptr id o=>match m id with
   | some (.box cs)=>o≤cs.length∧loadC P t (cs.drop o) fun lv=>K lv m
   | _=>False
  | .eptr id n i o=>match m id with
   | some (.arr _ _ xs)=>n=xs.length∧∃ x,xs[i]?=some x∧x.cells.all LV.scalar=true∧o≤x.cells.length∧loadC P t (x.cells.drop o) fun lv=>K lv m
   | _=>False
  | _=>False
 | .store t a x=>(ev x).cells.all LV.scalar=true∧tok P t=true∧tsize P t=(ev x).cells.length∧match ev a with
  | .ptr id o=>match m id with
   | some (.box cs)=>o+(ev x).cells.length≤cs.length∧K .fp (m.put id (.box (rep cs o (ev x).cells)))
   | _=>False
  | .eptr id n i o=>match m id with
   | some (.arr e k xs)=>n=xs.length∧LV.bf (ev x).cells=true∧∃ y z,xs[i]?=some y∧Ex y o (ev x)=some z∧K .fp (m.put id (.arr e k (xs.set i z)))
   | _=>False
  | _=>False
 | .nilCheck x=>match ev x with
  | .ptr _ _=>K (ev x) m
  | .sptr _=>K (ev x) m
  | .eptr id n _ _=>(match m id with | some (.arr _ _ xs)=>n=xs.length | _=>False)∧K (ev x) m
  | .fn _ _=>K (ev x) m
  | _=>False
 | .binOp op t x y _=>match ev x,ev y with
  | .int k a,.int k' b=>k=k'∧qM op k a b fun lv=>K lv m
  | .bool a,.bool b=>EL P t=true∧(match op with | .eql=>K (.bool (a == b)) m | .neq=>K (.bool (!(a == b))) m | _=>False)
  | .agg xs,.agg ys=>∃ b,rk P t xs ys b∧(match op with | .eql=>K (.bool b) m | .neq=>K (.bool (!b)) m | _=>False)
  | _,_=>False
 | .unOp op _ x=>match op,ev x with
  | .not,.bool b=>K (.bool (!b)) m
  | .neg,.int k n=>K (.int k (k.wrap (0 - n))) m
  | _,_=>False
 | .convert s t x=>tok P s=true∧match tint P t,ev x with
  | some k,.int _ n=>K (.int k (k.wrap n)) m
  | _,_=>False
 | .slice t x lo hi mx=>(telem P t).isSome=true∧tok P ((telem P t).getD 0)=true∧mx=.none∧match ev x with
  | .lst k xs=>some k=(telem P t).map (tsize P)∧∃ l h:Nat,(match lo with | .none=>l=0 | some y=>ev y=.int .i64 l)∧(match hi with | .none=>h=xs.length | some y=>ev y=.int .i64 h) ∧
    l≤h∧h≤xs.length∧K (.lst k ((xs.take h).drop l)) m
  | .nil=>(match lo with | .none=>True | some y=>ev y=.int .i64 0)∧(match hi with | .none=>True | some y=>ev y=.int .i64 0)∧K .nil m
  | _=>False
 | .fieldAddr t x f=>match tfield P t f with
  | some (off,ft)=>tok P ft=true∧tsize P ft ≠ 0∧match ev x with
   | .sptr cs=>off≤cs.length∧K (.sptr (cs.drop off)) m
   | .ptr id o=>K (.ptr id (o+off)) m
   | .eptr id n i o=>(match m id with | some (.arr _ _ xs)=>n=xs.length | _=>False)∧K (.eptr id n i (o+off)) m
   | _=>False
  | .none=>False
 | .field t x f=>match tfield P t f,ev x with
  | some (off,ft),.agg cs=>off≤cs.length∧loadC P ft (cs.drop off) fun lv=>K lv m
  | _,_=>False
 | .indexAddr t x i=>match telem P t,ev x,ev i with
  | some e,.lst k xs,.int _ n=>tok P e=true∧k=tsize P e∧0≤n∧∃ y,xs[n.toNat]?=some y∧y.cells.all LV.scalar=true∧K (.sptr y.cells) m
  | some e,.arr id l,.int _ n=>match m id with
   | some (.arr _ k xs)=>tok P e=true∧l=xs.length∧k=tsize P e∧0≤n∧n<l∧K (.eptr id l n.toNat 0) m
   | _=>False
  | _,_,_=>False
 | .extract t i=>match ev t with
  | .tup vs=>∃ v,vs[i]?=some v∧K v m
  | _=>False
 | .makeFunc f first cap=>match f with
  | .func f=>first=#[]∧K (.fn f (cap.toList.map ev)) m
  | _=>False
 | .makeSlice t l c=>match telem P t,tzero P ((telem P t).getD 0),ev l,ev c,o.dst with
  | some e,some z,.int .i64 n,.int .i64 n',some d=>n=n'∧0≤n∧n≤549755813888∧fP P e=true∧z.pure=true∧m (100+d)=.none ∧
    K (.arr (100+d) n.toNat) (m.put (100+d) (.arr e (tsize P e) (List.replicate n.toNat z)))
  | _,_,_,_,_=>False
 | .call c=>match c.callee with
  | .builtin .len=>match c.args.toList,c.argTypes.toList with
   | [x],[t]=>(telem P t).isSome=true∧match ev x with
    | .lst _ xs=>K (.int .i64 xs.length) m
    | .nil=>K (.int .i64 0) m
    | .arr id n=>(match m id with | some (.arr _ _ xs)=>n=xs.length | _=>False)∧K (.int .i64 n) m
    | _=>False
   | _,_=>False
  | .builtin .append=>match c.args.toList,c.argTypes.toList with
   | [x, y], [t, t'] => t = t' ∧ match telem P t with
    | some e=>fP P e=true∧∃ ys,(ev y=.lst (tsize P e) ys ∨ (ev y=.nil∧ys=[]))∧match ev x with
     | .arr id n=>¬ pr id∧match m id with
      | some (.arr e' k xs)=>e'=e∧k=tsize P e∧n=xs.length∧xs.length+ys.length≤549755813888∧K (.arr id (n+ys.length)) (m.put id (.arr e k (xs++ys)))
      | _=>False
     | .nil=>match o.dst with
      | some d=>m (100+d)=.none∧ys.length≤549755813888∧K (.arr (100+d) ys.length) (m.put (100+d) (.arr e (tsize P e) ys))
      | .none=>False
     | _=>False
    | .none=>False
   | _,_=>False
  | .value x=>match ev x with
   | .fn f cap => (∃ fn, P.funcs[f]? = some fn ∧ (fn.name == "runtime.NumGoroutine") = false ∧ fn.body.isNone = false) ∧ Hd P f (c.args.toList.map ev ++ cap) m K
   | _=>False
  | _=>False
 | _=>False
def He (P:Program) (pr:Nat→Prop) (ro:List Nat) (ops:Array Oper) (o:Oper) (K:Env→Mem→Prop) (e:Env) (m:Mem):Prop :=
 match o.guard with
 | .none=>LOp P pr ro o (dZ e) m fun lv m'=>K (e.gh o.dst lv) m'
 | some (j,want)=>match (ops[j]?).bind (·.dst) with
  | some g=>match e g with
   | .bool t=>if t=want then LOp P pr ro o (dZ e) m fun lv m'=>K (e.gh o.dst lv) m' else K (e.gh o.dst (.tup [])) m
   | .tup []=>K (e.gh o.dst (.tup [])) m
   | _=>False
  | .none=>False
def cj (P:Program) (pr:Nat→Prop) (o:Oper) (ev:Operand→LV) (m:Mem) (lv:LV) (m':Mem):Prop :=
 ∀ (c:Cx) (a:Act) (Q:Exit→Act→World→Prop),(∀ x,ao c (ev x) (a.eval x))→cA c m →
  o.wp P a c.w (fun a' w'=>∃ v c',a'=a.put o.dst v∧c'.w=w'∧ao c' lv v∧cA c' m'∧Step pr c c') Q
end Go.L
namespace Go.L
section lists
theorem gO (v:Value) (vs:List Value):flat (v :: vs)=v.cells.toList++flat vs:=rfl
theorem fI (vs us:List Value):flat (vs++us)=flat vs++flat us:=by simp [flat]
theorem eS {k:Nat}:∀ {vs:List Value},(∀ v ∈ vs,v.cells.size=k)→(flat vs).length=vs.length * k
 | [],_=>by simp [flat]
 | v :: vs,h=>by
  rw [gO,List.length_append,eS (k:=k) (fun u hu=>h u (by simp [hu])),List.length_cons,Array.length_toList,h v (by simp),Nat.add_mul,Nat.one_mul,Nat.add_comm]
theorem js {k:Nat} {vs:List Value} (h:∀ v ∈ vs,v.cells.size=k) {i:Nat} {u:Value} (hu:vs[i]?=some u) :
  flat vs=flat (vs.take i)++(u.cells.toList++flat (vs.drop (i+1)))∧(flat (vs.take i)).length=i * k:=by
 have hi:i<vs.length:=(List.getElem?_eq_some_iff.1 hu).1
 have he:vs[i]=u:=(List.getElem?_eq_some_iff.1 hu).2
 constructor
 ·rw [← gO,← he,← List.drop_eq_getElem_cons hi,← fI,List.take_append_drop]
 ·rw [eS (k:=k) (fun v hv=>h v (List.mem_of_mem_take hv)),List.length_take,Nat.min_eq_left (by omega)]
theorem nO {w:World} {b off:Nat} {l1 l2 l3:List Value} (h:w.rangeAt b off (l1++(l2++l3))):w.rangeAt b (off+l1.length) l2:=by
 intro j v hv
 have hj:j<l2.length:=(List.getElem?_eq_some_iff.1 hv).1
 have:=h (l1.length+j) v (by rw [List.getElem?_append_right (by omega)]; simp [List.getElem?_append_left hj,hv])
 rw [Nat.add_assoc]; exact this
theorem iZ {w:World} {b off:Nat} {l:List Value} (h:w.rangeAt b off l) (n:Nat):w.rangeAt b (off+n) (l.drop n):=by
 intro j v hv
 rw [List.getElem?_drop] at hv
 rw [Nat.add_assoc]; exact h (n+j) v hv
theorem A0 {w:World} {b off:Nat} {l:List Value} (h:w.rangeAt b off l) (n:Nat):w.rangeAt b off (l.take n):=by
 intro j v hv
 refine h j v ?_
 rw [List.getElem?_take] at hv
 split at hv
 ·exact hv
 ·cases hv
theorem tU (w:World) (vs:List Value) (t:TypeId):(w.alloc (.cells vs.toArray t)).rangeAt w.heap.size 0 vs:=by
 intro j v hv
 rw [World.cell?_alloc_new]
 simpa using hv
theorem px {w:World} {b:Nat} {vs:List Value} {e:TypeId} {fr:Nat × Nat} (h:w.heap[b]?=some (.cells vs.toArray e fr)):w.rangeAt b 0 vs:=by
 intro j v hv
 simp [World.cell?,h,hv]
theorem gC {w:World} {e k n:Nat} {u:Value} {vs:List Value} (h:w.ownsRow 0 e k u n vs) {b:Nat} (hb:u.ownBlock=some b):w.rangeAt b 0 vs:=by
 intro j v hv
 have:=h.cells hb j v hv
 rw [Addr.add_mid] at this
 exact this
end lists
theorem wC {xs:List LV} (h:LV.bf xs=true) (n:Nat):LV.bf (xs.drop n)=true :=
 dg.2 fun x hx=>dg.1 h x (List.mem_of_mem_drop hx)
theorem wD {xs:List LV} (h:LV.bf xs=true) (n:Nat):LV.bf (xs.take n)=true :=
 dg.2 fun x hx=>dg.1 h x (List.mem_of_mem_take hx)
theorem kD {xs ys:List LV} (h:LV.bf xs=true) (h':LV.bf ys=true):LV.bf (xs++ys)=true :=
 dg.2 fun x hx=>(List.mem_append.1 hx).elim (dg.1 h x) (dg.1 h' x)
theorem tj (c:Cx) (v:Value):ao c (AJ v) v:=by
 unfold AJ
 split <;> simp [ao]
theorem ti (c:Cx):∀ (vs:List Value),aD c (vs.map AJ) vs
 | []=>by simp [aD]
 | v :: vs=>by simp only [List.map_cons,aD]; exact ⟨v,vs,rfl,tj c v,ti c vs⟩
theorem pz (c:Cx) (v:Value):ao c (Ki v) v:=by
 unfold Ki
 split
 ·rename_i cs; simp only [ao]; exact ⟨cs.toList,by simp,ti c _⟩
 ·exact tj c v
theorem F7 (v:Value):(AJ v).cells=[AJ v]:=by
 unfold AJ
 split <;> rfl
theorem py (c:Cx) (z:Value):aD c (Ki z).cells z.cells.toList:=by
 unfold Ki
 split
 ·rename_i cs; simp only [LV.cells,Value.cells]; exact ti c _
 ·rename_i h
  rw [F7]
  have:z.cells=#[z]:=by cases z <;> simp_all [Value.cells]
  rw [this]
  simp only [aD]
  exact ⟨z,[],rfl,tj c z,rfl⟩
section ops
variable {P:Program} {pr:Nat→Prop} {o:Oper} {ev:Operand→LV} {m m':Mem} {lv:LV}
theorem cj.value (h:∀ (c:Cx) (a:Act),(∀ x,ao c (ev x) (a.eval x))→cA c m→∃ v c',(execOp a.eval o).run P c.w=.ok (.value v) c'.w∧ao c' lv v∧cA c' m'∧Step pr c c'):cj P pr o ev m lv m':=by
 intro c a Q bG hm
 obtain ⟨v,c',hr,h1,h2,h3⟩:=h c a bG hm
 unfold Oper.wp
 rw [hr]
 exact ⟨v,c',rfl,rfl,h1,h2,h3⟩
theorem cj.same (h:∀ (c:Cx) (a:Act),(∀ x,ao c (ev x) (a.eval x))→cA c m→∃ v,(execOp a.eval o).run P c.w=.ok (.value v) c.w∧ao c lv v):cj P pr o ev m lv m :=
 cj.value fun c a bG hm=>let ⟨v,hr,h1⟩:=h c a bG hm; ⟨v,c,hr,h1,hm,Step.refl pr c⟩
theorem HN (x:Operand) (ho:o.op=.move x ∨ o.op=.assign x):cj P pr o ev m (ev x) m :=
 cj.same fun c a bG _=>⟨a.eval x,by rcases ho with ho | ho <;> simp [execOp,ho],bG x⟩
theorem Pu (x y z:Operand) (t:Bool) (ho:o.op=.pick x y z) (hx:ev x=.bool t):cj P pr o ev m (if t then ev y else ev z) m :=
 cj.same fun c a bG _=>by
  have h:=bG x
  rw [hx] at h
  simp only [ao] at h
  refine ⟨if t then a.eval y else a.eval z,?_,?_⟩
  ·simp [execOp,ho,h,asBool]
  ·cases t
   ·exact bG z
   ·exact bG y
theorem HK {c:Cx} {m:Mem} (hm:cA c m) (id:Nat) (bX:m id=.none) (cs:List LV) (vs:List Value) (t:TypeId) (hl:aD c cs vs) (h1:∀ v ∈ vs,v.oneCell'=true) :
  ∃ c':Cx,c'.w=c.w.alloc (.cells vs.toArray t)∧ao c' (.ptr id 0) (.pointer (some ⟨c.w.heap.size,0,.none⟩))∧cA c' (m.put id (.box cs))∧Step pr c c':=by
 have hB:=hm.fresh bX
 obtain ⟨c',hw,hb,h2,h3⟩:=hm.Bw (pr:=pr) id (.box cs) (.box c.w.heap.size cs.length) (c.w.alloc (.cells vs.toArray t)) rfl rfl rfl (Nat.le_refl _) (by simp)
  (fun b hb _=>rG c.w _ b hb) (fun b hb=>by simp [BE.has] at hb; exact .inr (by omega)) (by rw [hB]; trivial) (fun _ dA h0=>by rw [hB] at h0; cases h0)
  (fun c' hw hle hble=>by
   simp only [bo]
   exact ⟨c.w.heap.size,vs,t,rfl,by rw [hw]; exact heap_alloc_new c.w _,aD.mono hle cs vs (fun id _=>hble id) hl,h1⟩)
 exact ⟨c',hw,by simp only [ao]; exact ⟨_,_,hb,rfl⟩,h2,h3⟩
theorem Cv (t:TypeId) (d:Nat) (z:LV) (ho:o.op=.alloc t) (hz:tzero P t=some z) (bX:m (100+d)=.none):cj P pr o ev m (.ptr (100+d) 0) (m.put (100+d) (.box z.cells)) :=
 cj.value fun c a bG hm=>by
  unfold tzero at hz
  split at hz
  ·rename_i i hi
   split at hz
   ·rename_i zv FX
    split at hz
    ·rename_i oB
     cases hz
     have LB:∀ v ∈ zv.cells.toList,v.oneCell'=true:=fun v hv=>(Array.all_eq_true_iff_forall_mem.1 oB) v (by simpa using hv)
     obtain ⟨c',hw,hr,h2,h3⟩:=HK (pr:=pr) hm (100+d) bX (Ki zv).cells zv.cells.toList t (py c zv) LB
     refine ⟨_,c',?_,hr,h2,h3⟩
     rw [hw]
     simp [execOp,ho,Instr.alloc,zeroValue,typeInfo,hi,FX,newVar,newRow]
    ·cases hz
   ·cases hz
  ·cases hz
theorem Uh (t:TypeId) (x:Operand) (d:Nat) (ho:o.op=.box t x) (hs:(ev x).cells.all LV.scalar=true) (bX:m (100+d)=.none):cj P pr o ev m (.ptr (100+d) 0) (m.put (100+d) (.box (ev x).cells)) :=
 cj.value fun c a bG hm=>by
  obtain ⟨hl,h1⟩:=(bG x).cellsOf hs
  obtain ⟨c',hw,hr,h2,h3⟩:=HK (pr:=pr) hm (100+d) bX (ev x).cells (a.eval x).cells.toList t hl (fun v hv=>h1 v (by simpa using hv))
  refine ⟨_,c',?_,hr,h2,h3⟩
  rw [hw]
  simp [execOp,ho,Instr.box,newVar,newRow]
theorem Js (t:TypeId) (x:Operand) (ho:o.op=.box t x) (hs:(ev x).cells.all LV.scalar=true):cj P pr o ev m (.sptr (ev x).cells) m :=
 cj.value fun c a bG hm=>by
  obtain ⟨hl,h1⟩:=(bG x).cellsOf hs
  obtain ⟨h2,h3⟩:=hm.ext (pr:=pr) (c.w.alloc (.cells (a.eval x).cells.toList.toArray t)) rfl rfl rfl (Nat.le_refl _) (by simp) (fun b hb=>rG c.w _ b hb)
  refine ⟨.pointer (some ⟨c.w.heap.size,0,.none⟩),_,by simp [execOp,ho,Instr.box,newVar,newRow],?_,h2,h3⟩
  simp only [ao]
  refine ⟨c.w.heap.size,0,(a.eval x).cells.toList,rfl,by simp,?_,h3.Zg hl,fun v hv=>h1 v (by simpa using hv),tU c.w _ t⟩
  exact hm.XU (Nat.le_refl _)
theorem gE {w:World} {t:TypeId} {b off:Nat} {cs:List LV} {vs:List Value} {c:Cx} (ht:tok P t=true) (hl:aD c cs vs) (hr:w.rangeAt b off vs) :
  (tagg P t=true→tsize P t≤cs.length→(Instr.loadAt t (.pointer (some ⟨b,off,.none⟩))).run P w=.ok (.agg (vs.take (tsize P t)).toArray) w) ∧
  (tagg P t=false→∀ v fD,vs=v :: fD→(Instr.loadAt t (.pointer (some ⟨b,off,.none⟩))).run P w=.ok v w):=by
 unfold tok at ht
 cases hi:P.info? t with
 | none=>simp [hi] at ht
 | some i =>
  cases hu:P.underlying t with
  | none=>simp [hu] at ht
  | some d =>
   constructor
   ·intro hg hs
    have fE:tsize P t=i.size:=by simp [tsize,hi]
    refine run_loadAt_mid w b off t _ d (A0 hr _) hu ?_ ?_
    ·simp only [tagg,hu] at hg
     cases d <;> simp_all
    ·simp only [hi,Option.map_some,List.length_take,fE]
     rw [fE,hl.length] at hs
     rw [Nat.min_eq_left hs]
   ·intro hg v fD he
    subst he
    have hc:w.cell? ⟨b,off,.none⟩=some v:=by simpa using hr 0 v (by simp)
    have Ld:(isAgg t).run P w=.ok false w:=by
     unfold isAgg
     rw [Sem.run_bind,run_underlying hu w]
     simp only [tagg,hu] at hg
     cases d <;> simp_all
    simp [Instr.loadAt,Instr.sureAddr,loadVar,Sem.run_bind,Ld,hc]
theorem lK {t:TypeId} {cs:List LV} {K:LV→Prop} (h:loadC P t cs K) :
  ∃ lv,K lv∧∀ (c:Cx) (b off:Nat) (vs:List Value),aD c cs vs→c.w.rangeAt b off vs→∃ v,(Instr.loadAt t (.pointer (some ⟨b,off,.none⟩))).run P c.w=.ok v c.w∧ao c lv v:=by
 obtain ⟨ht,h⟩:=h
 by_cases hg:tagg P t=true
 ·rw [if_pos hg] at h
  refine ⟨_,h.2,fun c b off vs hl hr=>?_⟩
  refine ⟨_,(gE ht hl hr).1 hg h.1,?_⟩
  simp only [ao]
  exact ⟨_,rfl,hl.take _⟩
 ·rw [if_neg hg] at h
  match cs,h with
  | x :: cs,h =>
   refine ⟨x,h,fun c b off vs hl hr=>?_⟩
   have pP:=hl
   simp only [aD] at pP
   obtain ⟨v,fD,rfl,hv,_⟩:=pP
   exact ⟨v,(gE ht hl hr).2 (by simpa using hg) v fD rfl,hv⟩
theorem qS {t:TypeId} {x:Operand} (ho:o.op=.load t x)
  (h:∀ (c:Cx) (a:Act),(∀ x,ao c (ev x) (a.eval x))→cA c m→∃ b off,a.eval x=.pointer (some ⟨b,off,.none⟩)∧∃ v,(Instr.loadAt t (.pointer (some ⟨b,off,.none⟩))).run P c.w=.ok v c.w∧ao c lv v):cj P pr o ev m lv m :=
 cj.same fun c a bG hm=>by
  obtain ⟨b,off,hx,v,hr,hv⟩:=h c a bG hm
  exact ⟨v,by simp [execOp,ho,hx,hr],hv⟩
end ops
end Go.L
namespace Go.L
section ops
variable {P:Program} {pr:Nat→Prop} {o:Oper} {ev:Operand→LV} {m m':Mem} {lv:LV}
theorem kV {c:Cx} {m:Mem} (hm:cA c m) {id:Nat} {cs:List LV} (h:m id=some (.box cs)):∃ b vs e,c.B id=some (.box b cs.length)∧c.w.heap[b]?=some (.cells vs.toArray e (0,0))∧aD c cs vs∧∀ v ∈ vs,v.oneCell'=true:=by
 have:=hm.gY id
 rw [h] at this
 simp only [bo] at this
 exact this
theorem mL {c:Cx} {m:Mem} (hm:cA c m) {id:Nat} {e k:Nat} {xs:List LV} (h:m id=some (.arr e k xs)):∃ u vs,c.B id=some (.arr u k xs.length [])∧0<k∧c.w.ownsRow 0 e k u xs.length (flat vs)∧aD c xs vs∧(∀ v ∈ vs,v.cells.size=k∧∀ y ∈ v.cells,y.oneCell'=true)∧LV.bf xs=true:=by
 have:=hm.gY id
 rw [h] at this
 simp only [bo] at this
 exact this
theorem OJ {c:Cx} {m:Mem} (hm:cA c m) {id n i off e k:Nat} {xs:List LV} {v:Value} (hv:ao c (.eptr id n i off) v) (bX:m id=some (.arr e k xs)) (hn:n=xs.length) {x:LV} (hx:xs[i]?=some x) (hs:x.cells.all LV.scalar=true) (ho:off≤x.cells.length) :
  ∃ b vs,v=.pointer (some ⟨b,i * k+off,.none⟩)∧aD c (x.cells.drop off) vs∧c.w.rangeAt b (i * k+off) vs:=by
 obtain ⟨u,vs,hB,hk,bt,hl,hc,hp⟩:=mL hm bX
 simp only [ao] at hv
 obtain ⟨_,u',k',len,nf,kY,hle,hv⟩:=hv
 rw [hB] at kY
 cases kY
 obtain ⟨b,hb,rfl⟩:=hv hn
 obtain ⟨y,hy,WJ⟩:=hl.get hx
 obtain ⟨h1,h2⟩:=js (k:=k) (fun v hv=>(hc v hv).1) hy
 have hra:=gC bt hb
 rw [h1] at hra
 have:=nO hra
 rw [h2] at this
 simp only [Nat.zero_add] at this
 exact ⟨b,_,rfl,(WJ.cellsOf hs).1.drop off,iZ this off⟩
theorem G2 {t:TypeId} {x:Operand} {K:LV→Mem→Prop} (ho:o.op=.load t x) (h:LOp P pr [] o ev m K):∃ lv m',K lv m'∧cj P pr o ev m lv m':=by
 simp only [LOp,ho] at h
 cases hx:ev x <;> simp only [hx] at h
 case sptr cs =>
  obtain ⟨lv,hK,hr⟩:=lK h
  refine ⟨lv,m,hK,qS ho fun c a bG hm=>?_⟩
  have hv:=bG x
  rw [hx] at hv
  simp only [ao] at hv
  obtain ⟨b,off,vs,he,_,_,hl,_,hra⟩:=hv
  exact ⟨b,off,he,hr c b off vs hl hra⟩
 case ptr id off =>
  cases hm:m id with
  | none=>simp [hm] at h
  | some le =>
   cases le with
   | map _ _ _=>simp [hm] at h
   | nest _ _ _ _=>simp [hm] at h
   | dm _ _ _ _ _ _ _ _=>simp [hm] at h
   | dead=>simp [hm] at h
   | arr e k xs=>simp [hm] at h
   | box cs =>
    simp only [hm] at h
    obtain ⟨lv,hK,hr⟩:=lK h.2
    refine ⟨lv,m,hK,qS ho fun c a bG hM=>?_⟩
    obtain ⟨b,vs,e,hB,hh,hl,h1⟩:=kV hM hm
    have hv:=bG x
    rw [hx] at hv
    simp only [ao] at hv
    obtain ⟨b',n,kY,he⟩:=hv
    rw [hB] at kY
    cases kY
    have hra:=iZ (px hh) off
    simp only [Nat.zero_add] at hra
    exact ⟨b,off,he,hr c b off _ (hl.drop off) hra⟩
 case eptr id n i off =>
  cases hm:m id with
  | none=>simp [hm] at h
  | some le =>
   cases le with
   | map _ _ _=>simp [hm] at h
   | nest _ _ _ _=>simp [hm] at h
   | dm _ _ _ _ _ _ _ _=>simp [hm] at h
   | dead=>simp [hm] at h
   | box cs=>simp [hm] at h
   | arr e k xs =>
    simp only [hm] at h
    obtain ⟨hn,y,hy,hs,O1,h⟩:=h
    obtain ⟨lv,hK,hr⟩:=lK h
    refine ⟨lv,m,hK,qS ho fun c a bG hM=>?_⟩
    have hv:=bG x
    rw [hx] at hv
    obtain ⟨b,vs,he,hl,hra⟩:=OJ hM hv hm hn hy hs O1
    exact ⟨b,_,he,hr c b _ vs hl hra⟩
theorem jD {w:World} {t:TypeId} {b off:Nat} {cur:Array Value} {e:TypeId} {v:Value} (ht:tok P t=true) (hs:tsize P t=v.cells.size) (hh:w.heap[b]?=some (.cells cur e (0,0))) (hl:off+v.cells.size≤cur.size) (h1:∀ y ∈ v.cells,y.oneCell'=true) :
  (Instr.storeAt t (.pointer (some ⟨b,off,.none⟩)) v).run P w=.ok () (w.setRow b (cur.toList.take off++v.cells.toList++cur.toList.drop (off+v.cells.toList.length)).toArray):=by
 unfold tok at ht
 cases hi:P.info? t with
 | none=>simp [hi] at ht
 | some i =>
  have fE:v.cells.size=i.size:=by rw [← hs]; simp [tsize,hi]
  have oH:=run_storeCells_at (P:=P) b off e v.cells.toList 0 cur w hh (by simpa using hl) (fun y hy=>h1 y (by simpa using hy))
  simp only [Nat.add_zero] at oH
  simp [Instr.storeAt,Instr.sureAddr,storeVar,sizeOf,typeInfo,hi,fE,oH]
theorem cj.skip (h:∀ (c:Cx) (a:Act),(∀ x,ao c (ev x) (a.eval x))→cA c m→∃ c',(execOp a.eval o).run P c.w=.ok .skip c'.w∧cA c' m'∧Step pr c c'):cj P pr o ev m .fp m':=by
 intro c a Q bG hm
 obtain ⟨c',hr,h2,h3⟩:=h c a bG hm
 unfold Oper.wp
 rw [hr]
 exact ⟨undef,c',rfl,rfl,by simp [ao],h2,h3⟩
theorem GU {cs ns:List LV} {off:Nat} (h:off+ns.length≤cs.length):(rep cs off ns).length=cs.length:=by
 simp [rep]; omega
theorem EH {t:TypeId} {x y:Operand} {K:LV→Mem→Prop} (ho:o.op=.store t x y) (h:LOp P pr [] o ev m K):∃ lv m',K lv m'∧cj P pr o ev m lv m':=by
 simp only [LOp,ho] at h
 obtain ⟨Bk,WO,WR,h⟩:=h
 cases hx:ev x <;> simp only [hx] at h
 case ptr id off =>
  cases hm:m id with
  | none=>simp [hm] at h
  | some le =>
   cases le with
   | map _ _ _=>simp [hm] at h
   | nest _ _ _ _=>simp [hm] at h
   | dm _ _ _ _ _ _ _ _=>simp [hm] at h
   | dead=>simp [hm] at h
   | arr e k xs=>simp [hm] at h
   | box cs =>
    simp only [hm] at h
    obtain ⟨O1,hK⟩:=h
    refine ⟨_,_,hK,cj.skip fun c a bG hM=>?_⟩
    obtain ⟨b,vs,e,hB,hh,hl,h1⟩:=kV hM hm
    have hv:=bG x
    rw [hx] at hv
    simp only [ao] at hv
    obtain ⟨b',n,kY,he⟩:=hv
    rw [hB] at kY
    cases kY
    obtain ⟨E1,yh⟩:=(bG y).cellsOf Bk
    have hlen:(ev y).cells.length=(a.eval y).cells.size:=by rw [E1.length]; simp
    have hcl:=hl.length
    have dD:=jD (P:=P) (t:=t) (v:=a.eval y) (off:=off) WO (by rw [WR,hlen]) hh (by simp; omega) yh
    obtain ⟨c',hw,hb,h2,h3⟩:=hM.Bw (pr:=pr) id (.box (rep cs off (ev y).cells)) (.box b cs.length)
     (c.w.setRow b (vs.toArray.toList.take off++(a.eval y).cells.toList++vs.toArray.toList.drop (off+(a.eval y).cells.toList.length)).toArray) rfl rfl rfl (Nat.le_refl _) (by simp)
     (fun b' jP eO=>setRow_other _ _ _ _ (fun e=>eO _ hB (by rw [e]; exact rfl)))
     (fun b' jP=>.inl ⟨_,hB,jP⟩) (by rw [hB]; exact jy.refl _) (fun _ dA h0=>by rw [hB] at h0; cases h0; exact .refl _)
     (fun c' hw hle hble=>by
      simp only [bo]
      refine ⟨b,_,e,by rw [GU O1],by rw [hw]; exact setRow_heap c.w b _ _ e _ hh,?_,?_⟩
      ·refine aD.mono hle _ _ (fun id _=>hble id) ?_
       unfold rep
       rw [E1.length]
       simp only [List.toList_toArray]
       exact ((hl.take off).append E1).append (hl.drop _)
      ·intro v hv
       simp only [List.toList_toArray,List.mem_append] at hv
       rcases hv with (hv | hv) | hv
       ·exact h1 v (List.mem_of_mem_take hv)
       ·exact yh v (by simpa using hv)
       ·exact h1 v (List.mem_of_mem_drop hv))
    refine ⟨c',?_,h2,h3⟩
    rw [hw]
    simp [execOp,ho,he,dD]
 case eptr id n i off =>
  cases hm:m id with
  | none=>simp [hm] at h
  | some le =>
   cases le with
   | map _ _ _=>simp [hm] at h
   | nest _ _ _ _=>simp [hm] at h
   | dm _ _ _ _ _ _ _ _=>simp [hm] at h
   | dead=>simp [hm] at h
   | box cs=>simp [hm] at h
   | arr e k xs =>
    simp only [hm] at h
    obtain ⟨hn,hp,z,z',hz,ju,hK⟩:=h
    refine ⟨_,_,hK,cj.skip fun c a bG hM=>?_⟩
    obtain ⟨u,vs,hB,hk,bt,hl,hc,QF⟩:=mL hM hm
    have hv:=bG x
    rw [hx] at hv
    simp only [ao] at hv
    obtain ⟨_,u',k',len,nf,kY,Ca,hv⟩:=hv
    rw [hB] at kY
    cases kY
    obtain ⟨b,hb,he⟩:=hv hn
    obtain ⟨y',Z5,WJ⟩:=hl.get hz
    have hi:i<xs.length:=(List.getElem?_eq_some_iff.1 hz).1
    have hyk:y'.cells.size=k:=(hc y' (List.mem_of_getElem? Z5)).1
    obtain ⟨E1,yh⟩:=(bG y).cellsOf Bk
    have hlen:(ev y).cells.length=(a.eval y).cells.size:=by rw [E1.length]; simp
    obtain ⟨v',acx,S0,aes,ac1⟩:∃ v',ao c z' v'∧v'.cells.toList=y'.cells.toList.take off++(a.eval y).cells.toList++y'.cells.toList.drop (off+(a.eval y).cells.toList.length)∧off+(a.eval y).cells.size≤y'.cells.size∧z'.pure=true:=by
     unfold Ex at ju
     split at ju
     ·rename_i cs
      split at ju
      ·rename_i Ll
       cases ju
       simp only [ao] at WJ ⊢
       obtain ⟨zs,rfl,hzr⟩:=WJ
       refine ⟨.agg (zs.take off++(a.eval y).cells.toList++zs.drop (off+(a.eval y).cells.toList.length)).toArray,⟨_,rfl,?_⟩,by simp [Value.cells],?_,?_⟩
       ·unfold rep
        rw [E1.length]
        exact ((hzr.take off).append E1).append (hzr.drop _)
       ·have h5:=hzr.length
        have h6:=Ll.1
        show off+(a.eval y).cells.size≤zs.toArray.size
        simp only [List.size_toArray]; omega
       ·have hpz:LV.bf cs=true:=by have:=dg.1 QF _ (List.mem_of_getElem? hz); simpa [LV.pure] using this
        simp only [LV.pure,rep]
        exact kD (kD (wD hpz _) hp) (wC hpz _)
      ·cases ju
     ·split at ju
      ·rename_i Ll
       obtain ⟨rfl,Bm,Vj⟩:=Ll
       cases ju
       have h1:=fg Bm (bG y)
       have h2:=fg Vj WJ
       refine ⟨a.eval y,bG y,?_,?_,?_⟩
       ·rw [dY h1,dY h2]; simp
       ·rw [dY h1,dY h2]; simp
       ·rw [oj Bm] at hp; simpa [LV.bf] using hp
      ·cases ju
    obtain ⟨Wt,nI⟩:=bt
    rcases nI with ⟨rfl,h0⟩ | ⟨g,cap,cur,rfl,Aw,hg,mG,hcm,hcs,uP⟩
    ·omega
    ·simp only [Value.ownBlock,Option.some.injEq] at hb
     subst hb
     have Ls:i * k+k≤xs.length * k:=by
      have:=Nat.mul_le_mul_right k (show i+1≤xs.length by omega)
      rw [Nat.add_mul,Nat.one_mul] at this; exact this
     have V9:xs.length * k≤cap * k:=Nat.mul_le_mul_right k mG
     have hfit:i * k+off+(a.eval y).cells.size≤cur.size:=by omega
     have dD:=jD (P:=P) (t:=t) (v:=a.eval y) (off:=i * k+off) WO (by rw [WR,hlen]) hg hfit yh
     obtain ⟨f1,f2⟩:=js (k:=k) (fun v hv=>(hc v hv).1) Z5
     have pg:=hl.length
     have Wp:i<vs.length:=by omega
     have oG:flat (vs.set i v')=(flat vs).take (i * k+off)++(a.eval y).cells.toList++(flat vs).drop (i * k+off+(a.eval y).cells.toList.length):=by
      have e1:vs.set i v'=vs.take i++v' :: vs.drop (i+1):=by rw [List.set_eq_take_append_cons_drop,if_pos Wp]
      rw [e1,fI,gO,S0,f1,← f2]
      have e2:(a.eval y).cells.toList.length=(a.eval y).cells.size:=by simp
      have e3:y'.cells.toList.length=y'.cells.size:=by simp
      rw [List.take_length_add_append,Nat.add_assoc (flat (vs.take i)).length,List.drop_length_add_append,List.take_append_of_le_length (by omega),List.drop_append_of_le_length (by omega)]
      simp
     have FA:(cur.toList.take (i * k+off)++(a.eval y).cells.toList++cur.toList.drop (i * k+off+(a.eval y).cells.toList.length)).take (xs.length * k)=flat (vs.set i v'):=by
      rw [oG,← uP]
      have e2:(a.eval y).cells.toList.length=(a.eval y).cells.size:=by simp
      have e4:cur.toList.length=cur.size:=by simp
      apply List.ext_getElem?
      intro j
      simp only [List.getElem?_take,List.getElem?_append,List.length_append,List.length_take,List.getElem?_drop,e2,e4]
      repeat' split
      all_goals first | rfl | omega | (congr 1; omega) | skip
     obtain ⟨c',hw,jP,h2,h3⟩:=hM.Bw (pr:=pr) id (.arr e k (xs.set i z')) (.arr (.slice (some ⟨g,0,.none⟩) xs.length cap) k xs.length [])
      (c.w.setRow g (cur.toList.take (i * k+off)++(a.eval y).cells.toList++cur.toList.drop (i * k+off+(a.eval y).cells.toList.length)).toArray) rfl rfl rfl (Nat.le_refl _) (by simp)
      (fun b' jP eO=>setRow_other _ _ _ _ (fun e=>eO _ hB (.inl (by rw [e]; rfl))))
      (fun b' jP=>.inl ⟨_,hB,jP⟩) (by rw [hB]; exact jy.refl _) (fun _ dA h0=>by rw [hB] at h0; cases h0; exact .refl _)
      (fun c' hw hle hble=>by
       simp only [bo,List.length_set]
       refine ⟨.slice (some ⟨g,0,.none⟩) xs.length cap,vs.set i v',rfl,hk,⟨?_,.inr ⟨g,cap,_,rfl,Aw,by rw [hw]; exact setRow_heap c.w g _ _ e _ hg,mG,hcm,?_,?_⟩⟩,?_,?_,?_⟩
       ·rw [oG]
        have e2:(a.eval y).cells.toList.length=(a.eval y).cells.size:=by simp
        simp only [List.length_append,List.length_take,List.length_drop,List.length_set,Wt,e2]
        omega
       ·have e2:(a.eval y).cells.toList.length=(a.eval y).cells.size:=by simp
        simp only [List.size_toArray,List.length_append,List.length_take,List.length_drop,Array.length_toList]
        omega
       ·exact FA
       ·refine aD.mono hle _ _ (fun id _=>hble id) (aD.of (by simpa using pg) fun j x' w' pR Kc=>?_)
        by_cases hj:j=i
        ·subst hj
         simp only [List.getElem?_set_self hi,Option.some.injEq] at pR
         simp only [List.getElem?_set_self Wp,Option.some.injEq] at Kc
         subst pR; subst Kc; exact acx
        ·rw [List.getElem?_set_ne (Ne.symm hj)] at pR Kc
         obtain ⟨UT,WU,abO⟩:=hl.get pR
         rw [Kc] at WU; cases WU; exact abO
       ·intro v hv
        rcases List.mem_or_eq_of_mem_set hv with hv | hv
        ·exact hc v hv
        ·subst hv
         have fE:v.cells.size=k:=by
          have:=congrArg List.length S0
          have e2:(a.eval y).cells.toList.length=(a.eval y).cells.size:=by simp
          simp only [List.length_append,List.length_take,List.length_drop,Array.length_toList] at this
          omega
         refine ⟨fE,fun y0 Xf=>?_⟩
         have Tg:y0 ∈ v.cells.toList:=by simpa using Xf
         rw [S0] at Tg
         simp only [List.mem_append] at Tg
         rcases Tg with (hq | hq) | hq
         ·exact (hc y' (List.mem_of_getElem? Z5)).2 y0 (by simpa using List.mem_of_mem_take hq)
         ·exact yh y0 (by simpa using hq)
         ·exact (hc y' (List.mem_of_getElem? Z5)).2 y0 (by simpa using List.mem_of_mem_drop hq)
       ·refine dg.2 fun x' pR=>?_
        rcases List.mem_or_eq_of_mem_set pR with pR | pR
        ·exact dg.1 QF x' pR
        ·subst pR; exact ac1)
     refine ⟨c',?_,h2,h3⟩
     rw [hw]
     simp [execOp,ho,he,dD]
end ops
end Go.L
namespace Go.L
section ops
variable {P:Program} {pr:Nat→Prop} {o:Oper} {ev:Operand→LV} {m m':Mem} {lv:LV} {K:LV→Mem→Prop}
theorem gi {c:Cx} {m:Mem} (hm:cA c m) {id n e k:Nat} {xs:List LV} {v:Value} (hv:ao c (.arr id n) v) (bX:m id=some (.arr e k xs)) (hn:n=xs.length) :
  ∃ vs,c.B id=some (.arr v k xs.length [])∧0<k∧c.w.ownsRow 0 e k v xs.length (flat vs)∧aD c xs vs∧(∀ v ∈ vs,v.cells.size=k∧∀ y ∈ v.cells,y.oneCell'=true)∧LV.bf xs=true:=by
 obtain ⟨u,vs,hB,hk,bt,hl,hc,QF⟩:=mL hm bX
 simp only [ao] at hv
 obtain ⟨_,u',k',len,nf,kY,Ca,hv⟩:=hv
 rw [hB] at kY
 cases kY
 have:=hv hn
 subst this
 exact ⟨vs,hB,hk,bt,hl,hc,QF⟩
theorem ea {w:World} {e k n:Nat} {v:Value} {vs:List Value} (h:w.ownsRow 0 e k v n vs):∃ a cap,v=.slice a n cap:=by
 rcases h.2 with ⟨rfl,rfl⟩ | ⟨g,cap,cur,rfl,_⟩
 ·exact ⟨_,_,rfl⟩
 ·exact ⟨_,_,rfl⟩
theorem xo {x:Operand} (ho:o.op=.nilCheck x) (h:LOp P pr [] o ev m K):∃ lv m',K lv m'∧cj P pr o ev m lv m':=by
 simp only [LOp,ho] at h
 cases hx:ev x <;> simp only [hx] at h
 case ptr id off =>
  refine ⟨_,_,h,cj.same fun c a bG hm=>?_⟩
  have hv:=bG x
  rw [hx] at hv
  have uR:=hv
  simp only [ao] at uR
  obtain ⟨b,n,_,he⟩:=uR
  exact ⟨a.eval x,by simp [execOp,ho,he],hv⟩
 case sptr cs =>
  refine ⟨_,_,h,cj.same fun c a bG hm=>?_⟩
  have hv:=bG x
  rw [hx] at hv
  have uR:=hv
  simp only [ao] at uR
  obtain ⟨b,off,vs,he,_⟩:=uR
  exact ⟨a.eval x,by simp [execOp,ho,he],hv⟩
 case eptr id n i off =>
  obtain ⟨hn,hK⟩:=h
  refine ⟨_,_,hK,cj.same fun c a bG hm=>?_⟩
  have hv:=bG x
  rw [hx] at hv
  cases bX:m id with
  | none=>simp [bX] at hn
  | some le =>
   cases le with
   | map _ _ _=>simp [bX] at hn
   | nest _ _ _ _=>simp [bX] at hn
   | dm _ _ _ _ _ _ _ _=>simp [bX] at hn
   | dead=>simp [bX] at hn
   | box cs=>simp [bX] at hn
   | arr e k xs =>
    simp only [bX] at hn
    obtain ⟨u,vs,hB,_⟩:=mL hm bX
    have uR:=hv
    simp only [ao] at uR
    obtain ⟨_,u',k',len,nf,kY,Ca,uR⟩:=uR
    rw [hB] at kY
    cases kY
    obtain ⟨b,_,he⟩:=uR hn
    exact ⟨a.eval x,by simp [execOp,ho,he],hv⟩
 case fn f cap =>
  refine ⟨_,_,h,cj.same fun c a bG hm=>?_⟩
  have hv:=bG x
  rw [hx] at hv
  have uR:=hv
  simp only [ao] at uR
  obtain ⟨vs,he,_⟩:=uR
  exact ⟨a.eval x,by simp [execOp,ho,he],hv⟩
theorem qA {c:Cx}:∀ {xs:List LV} {vs us:List Value},eV xs=some us→aD c xs vs→vs=us
 | [],vs,us,h,hr=>by simp [eV] at h; simp [aD] at hr; rw [hr,h]
 | x :: xs,vs,us,h,hr=>by
  simp only [aD] at hr
  obtain ⟨v,fD,rfl,hv,om⟩:=hr
  simp only [eV] at h
  split at h
  ·rename_i v0 ZH h1 h2
   cases h
   rw [qA h2 om]
   cases x <;> simp [kX] at h1 <;> simp only [ao] at hv <;> subst h1 <;> subst hv <;> rfl
  ·cases h
theorem ED {op:BinOp} {t t':TypeId} {x y:Operand} (ho:o.op=.binOp op t x y t') (h:LOp P pr [] o ev m K):∃ lv m',K lv m'∧cj P pr o ev m lv m':=by
 simp only [LOp,ho] at h
 cases hx:ev x <;> simp only [hx] at h
 case int k a =>
  cases hy:ev y <;> simp only [hy] at h
  case int k' b =>
   obtain ⟨rfl,h⟩:=h
   have guard:∀ w,(eqGuard op t x y (.int k a) (.int k b)).run P w=.ok () w:=by
    intro w; unfold eqGuard; cases op <;> simp
   have key:∀ lv,(∀ w,(binOp op t (.int k a) (.int k b)).run P w=.ok lv w)→∀ l:LV,(∀ c,ao c l lv)→cj P pr o ev m l m:=by
    intro lv hr l hl
    refine cj.same fun c ac bG hm=>?_
    have rK:=bG x
    have qL:=bG y
    rw [hx] at rK
    rw [hy] at qL
    simp only [ao] at rK qL
    refine ⟨lv,?_,hl c⟩
    simp [execOp,ho,rK,qL,guard,hr]
   cases op <;> simp only [qM] at h
   case add=>exact ⟨_,_,h,key (.int k (k.wrap (a+b))) (fun w=>by simp [binOp,Op.intArith]) _ (fun c=>by simp [ao])⟩
   case sub=>exact ⟨_,_,h,key (.int k (k.wrap (a - b))) (fun w=>by simp [binOp,Op.intArith]) _ (fun c=>by simp [ao])⟩
   case mul=>exact ⟨_,_,h,key (.int k (k.wrap (a * b))) (fun w=>by simp [binOp,Op.intArith]) _ (fun c=>by simp [ao])⟩
   case quo=>exact ⟨_,_,h.2,key (.int k (k.wrap (a.tdiv b))) (fun w=>by simp [binOp,Op.intDiv,h.1]) _ (fun c=>by simp [ao])⟩
   case rem=>exact ⟨_,_,h.2,key (.int k (a.tmod b)) (fun w=>by simp [binOp,Op.intDiv,h.1]) _ (fun c=>by simp [ao])⟩
   case eql=>exact ⟨_,_,h,key (.bool (a == b)) (fun w=>by simp [binOp,Op.intCmp]) _ (fun c=>by simp [ao])⟩
   case neq=>exact ⟨_,_,h,key (.bool (a != b)) (fun w=>by simp [binOp,Op.intCmp]) _ (fun c=>by simp [ao])⟩
   case lss=>exact ⟨_,_,h,key (.bool (decide (a<b))) (fun w=>by simp [binOp,Op.intCmp]) _ (fun c=>by simp [ao])⟩
   case leq=>exact ⟨_,_,h,key (.bool (decide (a≤b))) (fun w=>by simp [binOp,Op.intCmp]) _ (fun c=>by simp [ao])⟩
   case gtr=>exact ⟨_,_,h,key (.bool (decide (a > b))) (fun w=>by simp [binOp,Op.intCmp]) _ (fun c=>by simp [ao])⟩
   case geq=>exact ⟨_,_,h,key (.bool (decide (a ≥ b))) (fun w=>by simp [binOp,Op.intCmp]) _ (fun c=>by simp [ao])⟩
 case bool a =>
  cases hy:ev y <;> simp only [hy] at h
  case bool b =>
   obtain ⟨ht,h⟩:=h
   have hu:P.underlying t=some .bool:=by
    unfold EL at ht
    split at ht
    ·assumption
    ·cases ht
   have guard:∀ w,(eqGuard op t x y (.bool a) (.bool b)).run P w=.ok () w:=by
    intro w; unfold eqGuard; cases op <;> simp
   have key:∀ lv,(∀ w,(binOp op t (.bool a) (.bool b)).run P w=.ok lv w)→∀ l:LV,(∀ c,ao c l lv)→cj P pr o ev m l m:=by
    intro lv hr l hl
    refine cj.same fun c ac bG hm=>?_
    have rK:=bG x
    have qL:=bG y
    rw [hx] at rK
    rw [hy] at qL
    simp only [ao] at rK qL
    refine ⟨lv,?_,hl c⟩
    simp [execOp,ho,rK,qL,guard,hr]
   have heq:∀ w,(Op.equal t (.bool a) (.bool b)).run P w=.ok (a == b) w:=fun w=>run_equalIn_bool' w 9999 t a b hu
   cases op <;> simp only [] at h
   case eql=>exact ⟨_,_,h,key (.bool (a == b)) (fun w=>by simp [binOp,heq]) _ (fun c=>by simp [ao])⟩
   case neq=>exact ⟨_,_,h,key (.bool (!(a == b))) (fun w=>by simp [binOp,heq]) _ (fun c=>by simp [ao])⟩
 case agg xs =>
  cases hy:ev y <;> simp only [hy] at h
  case agg ys =>
   obtain ⟨b,⟨hgd,us,ws,E0,hws,heq⟩,h⟩:=h
   have guard:∀ w,(eqGuard op t x y (.agg us.toArray) (.agg ws.toArray)).run P w=.ok () w:=by
    intro w; unfold eqGuard; cases op <;> simp [hgd]
   have key:∀ lv,(∀ w,(binOp op t (.agg us.toArray) (.agg ws.toArray)).run P w=.ok lv w)→∀ l:LV,(∀ c,ao c l lv)→cj P pr o ev m l m:=by
    intro lv hr l hl
    refine cj.same fun c ac bG hm=>?_
    have rK:=bG x
    have qL:=bG y
    rw [hx] at rK
    rw [hy] at qL
    simp only [ao] at rK qL
    obtain ⟨vs1,rK,dI⟩:=rK
    obtain ⟨vs2,qL,hr2⟩:=qL
    rw [qA E0 dI] at rK
    rw [qA hws hr2] at qL
    refine ⟨lv,?_,hl c⟩
    simp [execOp,ho,rK,qL,guard,hr]
   cases op <;> simp only [] at h
   case eql=>exact ⟨_,_,h,key (.bool b) (fun w=>by simp [binOp,heq]) _ (fun c=>by simp [ao])⟩
   case neq=>exact ⟨_,_,h,key (.bool (!b)) (fun w=>by simp [binOp,heq]) _ (fun c=>by simp [ao])⟩
theorem G3 {op:UnOp} {t:TypeId} {x:Operand} (ho:o.op=.unOp op t x) (h:LOp P pr [] o ev m K):∃ lv m',K lv m'∧cj P pr o ev m lv m':=by
 simp only [LOp,ho] at h
 cases op <;> cases hx:ev x <;> simp only [hx] at h
 case neg.int k n =>
   refine ⟨_,_,h,cj.same fun c a bG hm=>?_⟩
   have hv:=bG x
   rw [hx] at hv
   simp only [ao] at hv
   exact ⟨_,by simp [execOp,ho,hv,Op.unary,Op.intArith]; rfl,by simp [ao]⟩
 case not.bool b =>
   refine ⟨_,_,h,cj.same fun c a bG hm=>?_⟩
   have hv:=bG x
   rw [hx] at hv
   simp only [ao] at hv
   exact ⟨_,by simp [execOp,ho,hv,Op.unary]; rfl,by simp [ao]⟩
theorem yy {s t:TypeId} {x:Operand} (ho:o.op=.convert s t x) (h:LOp P pr [] o ev m K):∃ lv m',K lv m'∧cj P pr o ev m lv m':=by
 simp only [LOp,ho] at h
 obtain ⟨hs,h⟩:=h
 cases ht:tint P t <;> simp only [ht] at h
 case some k =>
  cases hx:ev x <;> simp only [hx] at h
  case int k' n =>
   refine ⟨_,_,h,cj.same fun c a bG hm=>?_⟩
   have hv:=bG x
   rw [hx] at hv
   simp only [ao] at hv
   have hu:P.underlying t=some (.int k):=by
    unfold tint at ht
    split at ht
    ·cases ht; assumption
    ·cases ht
   unfold tok at hs
   cases E0:P.underlying s with
   | none=>simp [E0] at hs
   | some d =>
    refine ⟨.int k (k.wrap n),?_,by simp [ao]⟩
    simp [execOp,ho,hv,convert,run_underlying hu,run_underlying E0,Conv.intToInt]
theorem uD {t:TypeId} {x:Operand} {f:Nat} (ho:o.op=.fieldAddr t x f) (h:LOp P pr [] o ev m K):∃ lv m',K lv m'∧cj P pr o ev m lv m':=by
 simp only [LOp,ho] at h
 cases pQ:tfield P t f <;> simp only [pQ] at h
 case some q =>
  obtain ⟨off,ft⟩:=q
  simp only at h
  obtain ⟨iD,fE,h⟩:=h
  obtain ⟨fs,fd,hu,J6,rfl,rfl⟩:∃ fs fd,P.underlying t=some (.struct fs)∧fs[f]?=some fd∧fd.offset=off∧fd.type=ft:=by
   unfold tfield at pQ
   split at pQ
   ·rename_i fs hu
    cases hf:fs[f]? with
    | none=>simp [hf] at pQ
    | some fd=>simp [hf] at pQ; exact ⟨fs,fd,hu,hf,pQ.1,pQ.2⟩
   ·cases pQ
  have dD:∀ (w:World) (b q:Nat),(Instr.fieldAt t (.pointer (some ⟨b,q,.none⟩)) f).run P w=.ok (.pointer (some ⟨b,q+fd.offset,.none⟩)) w:=by
   intro w b q
   have hi:∃ i,P.info? fd.type=some i∧i.size ≠ 0:=by
    unfold tok at iD
    cases hi:P.info? fd.type with
    | none=>simp [hi] at iD
    | some i=>exact ⟨i,rfl,by simpa [tsize,hi] using fE⟩
   obtain ⟨i,hi,hi0⟩:=hi
   simp [Instr.fieldAt,run_underlying hu,J6,Instr.sureAddr,fieldPlace,sizeOf,typeInfo,hi,hi0,Addr.add_mid]
  cases hx:ev x <;> simp only [hx] at h
  case sptr cs =>
   refine ⟨_,_,h.2,cj.same fun c a bG hm=>?_⟩
   have hv:=bG x
   rw [hx] at hv
   simp only [ao] at hv
   obtain ⟨b,q,vs,he,hb,hX,hl,h1,hra⟩:=hv
   refine ⟨_,by simp [execOp,ho,he,dD]; rfl,?_⟩
   simp only [ao]
   exact ⟨b,q+fd.offset,vs.drop fd.offset,rfl,hb,hX,hl.drop _,fun y hy=>h1 y (List.mem_of_mem_drop hy),iZ hra _⟩
  case ptr id q =>
   refine ⟨_,_,h,cj.same fun c a bG hm=>?_⟩
   have hv:=bG x
   rw [hx] at hv
   simp only [ao] at hv
   obtain ⟨b,n,hB,he⟩:=hv
   refine ⟨_,by simp [execOp,ho,he,dD]; rfl,?_⟩
   simp only [ao]
   exact ⟨b,n,hB,rfl⟩
  case eptr id n i q =>
   obtain ⟨hn,hK⟩:=h
   refine ⟨_,_,hK,cj.same fun c a bG hm=>?_⟩
   have hv:=bG x
   rw [hx] at hv
   cases bX:m id with
   | none=>simp [bX] at hn
   | some le =>
    cases le with
    | map _ _ _=>simp [bX] at hn
    | nest _ _ _ _=>simp [bX] at hn
    | dm _ _ _ _ _ _ _ _=>simp [bX] at hn
    | dead=>simp [bX] at hn
    | box cs=>simp [bX] at hn
    | arr e k xs =>
     simp only [bX] at hn
     obtain ⟨u,vs,hB,_⟩:=mL hm bX
     simp only [ao] at hv
     obtain ⟨_,u',k',len,nf,kY,Ca,hv⟩:=hv
     rw [hB] at kY
     cases kY
     obtain ⟨b,hb,he⟩:=hv hn
     refine ⟨_,by simp [execOp,ho,he,dD]; rfl,?_⟩
     simp only [ao]
     exact ⟨rfl,u,k,xs.length,_,hB,Ca,fun _=>⟨b,hb,by rw [Nat.add_assoc]⟩⟩
theorem Nz {t:TypeId} {cs:List LV} {off:Nat} (h:loadC P t (cs.drop off) fun lv=>K lv m) (O1:off≤cs.length) :
  ∃ lv,K lv m∧∀ (c:Cx) (vs:List Value),aD c cs vs→∃ v,(part t vs.toArray off).run P c.w=.ok v c.w∧ao c lv v:=by
 obtain ⟨ht,h⟩:=h
 unfold tok at ht
 cases hi:P.info? t with
 | none=>simp [hi] at ht
 | some i =>
  cases hu:P.underlying t with
  | none=>simp [hu] at ht
  | some d =>
   have fE:tsize P t=i.size:=by simp [tsize,hi]
   by_cases hg:tagg P t=true
   ·rw [if_pos hg] at h
    refine ⟨_,h.2,fun c vs hl=>?_⟩
    have Ld:(isAgg t).run P c.w=.ok true c.w:=by
     unfold isAgg
     rw [Sem.run_bind,run_underlying hu c.w]
     simp only [tagg,hu] at hg
     cases d <;> simp_all
    refine ⟨.agg ((vs.drop off).take (tsize P t)).toArray,?_,?_⟩
    ·simp only [part,Sem.run_bind,Ld,Result.andThen_ok,if_true,sizeOf,typeInfo,run_program,hi,Sem.run_pure,fE]
     congr 2
     simp [List.extract_eq_take_drop]
    ·simp only [ao]
     exact ⟨_,rfl,(hl.drop off).take _⟩
   ·rw [if_neg hg] at h
    cases hcs:cs.drop off with
    | nil=>simp [hcs] at h
    | cons x r =>
     simp only [hcs] at h
     refine ⟨x,h,fun c vs hl=>?_⟩
     have Ld:(isAgg t).run P c.w=.ok false c.w:=by
      unfold isAgg
      rw [Sem.run_bind,run_underlying hu c.w]
      simp only [tagg,hu] at hg
      cases d <;> simp_all
     have pP:=hl.drop off
     rw [hcs] at pP
     simp only [aD] at pP
     obtain ⟨v,fD,he,hv,_⟩:=pP
     have Lq:vs[off]?=some v:=by
      have:=congrArg (fun l=>l[0]?) he
      simpa using this
     exact ⟨v,by simp [part,Ld,Lq],hv⟩
theorem EF {t:TypeId} {x:Operand} {f:Nat} (ho:o.op=.field t x f) (h:LOp P pr [] o ev m K):∃ lv m',K lv m'∧cj P pr o ev m lv m':=by
 simp only [LOp,ho] at h
 cases pQ:tfield P t f <;> simp only [pQ] at h
 case some q =>
  obtain ⟨off,ft⟩:=q
  cases hx:ev x <;> simp only [hx] at h
  case agg cs =>
   obtain ⟨lv,hK,hr⟩:=Nz h.2 h.1
   refine ⟨lv,m,hK,cj.same fun c a bG hm=>?_⟩
   obtain ⟨fs,fd,hu,J6,rfl,rfl⟩:∃ fs fd,P.underlying t=some (.struct fs)∧fs[f]?=some fd∧fd.offset=off∧fd.type=ft:=by
    unfold tfield at pQ
    split at pQ
    ·rename_i fs hu
     cases hf:fs[f]? with
     | none=>simp [hf] at pQ
     | some fd=>simp [hf] at pQ; exact ⟨fs,fd,hu,hf,pQ.1,pQ.2⟩
    ·cases pQ
   have hv:=bG x
   rw [hx] at hv
   simp only [ao] at hv
   obtain ⟨vs,he,hl⟩:=hv
   obtain ⟨v,dI,hr2⟩:=hr c vs hl
   exact ⟨v,by simp [execOp,ho,he,Instr.field,run_underlying hu,J6,asAgg,dI],hr2⟩
theorem yz {t:Operand} {i:Nat} (ho:o.op=.extract t i) (h:LOp P pr [] o ev m K):∃ lv m',K lv m'∧cj P pr o ev m lv m':=by
 simp only [LOp,ho] at h
 cases hx:ev t <;> simp only [hx] at h
 case tup vs =>
  obtain ⟨x,pR,hK⟩:=h
  refine ⟨_,_,hK,cj.same fun c a bG hm=>?_⟩
  have hv:=bG t
  rw [hx] at hv
  simp only [ao] at hv
  obtain ⟨us,he,hl⟩:=hv
  obtain ⟨v,jj,hv2⟩:=hl.get pR
  exact ⟨v,by simp [execOp,ho,he,Instr.extract,jj],hv2⟩
theorem xj {c:Cx} {ev:Operand→LV} {a:Act} (bG:∀ x,ao c (ev x) (a.eval x)):∀ (xs:List Operand),aD c (xs.map ev) (xs.map a.eval)
 | []=>by simp [aD]
 | x :: xs=>by simp only [List.map_cons,aD]; exact ⟨_,_,rfl,bG x,xj bG xs⟩
theorem xn {f:Fn} {first cap:Array Operand} (ho:o.op=.makeFunc f first cap) (h:LOp P pr [] o ev m K):∃ lv m',K lv m'∧cj P pr o ev m lv m':=by
 simp only [LOp,ho] at h
 cases f <;> simp only [] at h
 case func f =>
  obtain ⟨rfl,hK⟩:=h
  refine ⟨_,_,hK,cj.same fun c a bG hm=>?_⟩
  refine ⟨.func (.func f) #[] (cap.toList.map a.eval).toArray,by simp [execOp,ho,Instr.makeFunc]; rw [← Array.toList_map,Array.toArray_toList],?_⟩
  simp only [ao]
  exact ⟨_,rfl,xj bG _⟩
theorem uE {t:TypeId} {x i:Operand} (ho:o.op=.indexAddr t x i) (h:LOp P pr [] o ev m K):∃ lv m',K lv m'∧cj P pr o ev m lv m':=by
 simp only [LOp,ho] at h
 cases mH:telem P t <;> simp only [mH] at h
 case some e =>
  have hu:P.underlying t=some (.slice e):=by
   unfold telem at mH
   split at mH
   ·cases mH; assumption
   ·cases mH
  cases hx:ev x <;> simp only [hx] at h
  case lst k xs =>
   cases hi:ev i <;> simp only [hi] at h
   case int ki n =>
    obtain ⟨iD,hk,h0,y,hy,Vj,hK⟩:=h
    refine ⟨_,_,hK,cj.same fun c a bG hm=>?_⟩
    have L4:=bG i
    rw [hi] at L4
    simp only [ao] at L4
    have hv:=bG x
    rw [hx] at hv
    simp only [ao] at hv
    obtain ⟨ad,cap,he,hcap,hn,hp,hr⟩:=hv
    have hlt:n.toNat<xs.length:=(List.getElem?_eq_some_iff.1 hy).1
    rcases hr with rfl | ⟨b,off,vs,rfl,hb,hX,hl,hc,hra⟩
    ·simp at hlt
    ·obtain ⟨u,hu1,hu2⟩:=hl.get hy
     obtain ⟨f1,f2⟩:=js (k:=k) (fun v hv=>(hc v hv).1) hu1
     rw [f1] at hra
     have WE:=nO hra
     rw [f2] at WE
     obtain ⟨rJ,acw⟩:=hu2.cellsOf Vj
     refine ⟨.pointer (some ⟨b,off+n.toNat * k,.none⟩),?_,?_⟩
     ·unfold tok at iD
      cases Ax:P.info? e with
      | none=>simp [Ax] at iD
      | some ie =>
       have Hz:k=ie.size:=by rw [hk]; simp [tsize,Ax]
       have Ly:n<(xs.length:Int):=by omega
       simp [execOp,ho,he,L4,Instr.indexAt,asIntOf,run_underlying hu,h0,Ly,sizeOf,typeInfo,Ax,Addr.add_mid,Hz]
     ·simp only [ao]
      exact ⟨b,_,u.cells.toList,rfl,hb,hX,rJ,fun y hy=>acw y (by simpa using hy),WE⟩
  case arr id l =>
   cases hi:ev i <;> simp only [hi] at h
   case int ki n =>
    cases bX:m id with
    | none=>simp [bX] at h
    | some le =>
     cases le with
     | map _ _ _=>simp [bX] at h
     | nest _ _ _ _=>simp [bX] at h
     | dm _ _ _ _ _ _ _ _=>simp [bX] at h
     | dead=>simp [bX] at h
     | box cs=>simp [bX] at h
     | arr e' k xs =>
      simp only [bX] at h
      obtain ⟨iD,pP,hk,h0,hlt,hK⟩:=h
      refine ⟨_,_,hK,cj.same fun c a bG hm=>?_⟩
      have L4:=bG i
      rw [hi] at L4
      simp only [ao] at L4
      have hv:=bG x
      rw [hx] at hv
      obtain ⟨vs,hB,Lu,bt,hl,hc,hp⟩:=gi hm hv bX pP
      rcases bt.2 with ⟨_,h00⟩ | ⟨g,cap,cur,Ta,_⟩
      ·omega
      ·refine ⟨.pointer (some ⟨g,n.toNat * k,.none⟩),?_,?_⟩
       ·unfold tok at iD
        cases Ax:P.info? e with
        | none=>simp [Ax] at iD
        | some ie =>
         have Hz:k=ie.size:=by rw [hk]; simp [tsize,Ax]
         have Ly:n<(xs.length:Int):=by omega
         simp [execOp,ho,Ta,L4,Instr.indexAt,asIntOf,run_underlying hu,h0,Ly,sizeOf,typeInfo,Ax,Addr.add_mid,Hz]
       ·simp only [ao]
        exact ⟨rfl,_,k,xs.length,_,hB,by omega,fun _=>⟨g,by rw [Ta]; rfl,by simp⟩⟩
end ops
end Go.L
namespace Go.L
section ops
variable {P:Program} {pr:Nat→Prop} {o:Oper} {ev:Operand→LV} {m m':Mem} {lv:LV} {K:LV→Mem→Prop}
theorem gN {t e:TypeId} (h:telem P t=some e):P.underlying t=some (.slice e):=by
 unfold telem at h
 split at h
 ·cases h; assumption
 ·cases h
theorem EG {t:TypeId} {x:Operand} {lo hi mx:Option Operand} (ho:o.op=.slice t x lo hi mx) (h:LOp P pr [] o ev m K):∃ lv m',K lv m'∧cj P pr o ev m lv m':=by
 simp only [LOp,ho] at h
 obtain ⟨mH,uP,rfl,h⟩:=h
 obtain ⟨e,mH⟩:=Option.isSome_iff_exists.1 mH
 have hu:=gN mH
 have QA:∃ ie,P.info? e=some ie:=by
  simp only [mH,Option.getD_some] at uP
  unfold tok at uP
  cases hi:P.info? e with
  | none=>simp [hi] at uP
  | some ie=>exact ⟨ie,rfl⟩
 cases hx:ev x <;> simp only [hx] at h
 case nil =>
  obtain ⟨Jc,Oa,hK⟩:=h
  refine ⟨_,_,hK,cj.same fun c a bG hm=>?_⟩
  have hv:=bG x
  rw [hx] at hv
  simp only [ao] at hv
  refine ⟨.slice .none 0 0,?_,by simp [ao]⟩
  have h1:∀ y,lo=some y→a.eval y=.int .i64 0:=fun y hy=>by
   subst hy; simp only at Jc; have:=bG y; rw [Jc] at this; simpa only [ao] using this
  have h2:∀ y,hi=some y→a.eval y=.int .i64 0:=fun y hy=>by
   subst hy; simp only at Oa; have:=bG y; rw [Oa] at this; simpa only [ao] using this
  obtain ⟨ie,Ax⟩:=QA
  cases lo <;> cases hi <;> simp_all [execOp,Instr.sliceAt,run_underlying hu,Instr.slice,Instr.sliceBounds,Instr.sliceBound,asIntOf,sizeOf,typeInfo]
 case lst k xs =>
  obtain ⟨hk,l,h',Jc,Oa,hlh,hhx,hK⟩:=h
  refine ⟨_,_,hK,cj.same fun c a bG hm=>?_⟩
  have hv:=bG x
  rw [hx] at hv
  simp only [ao] at hv
  obtain ⟨ad,cap,he,hcap,hn,hp,hr⟩:=hv
  have h1:∀ y,lo=some y→a.eval y=.int .i64 l:=fun y hy=>by
   subst hy; simp only at Jc; have:=bG y; rw [Jc] at this; simpa only [ao] using this
  have h2:∀ y,hi=some y→a.eval y=.int .i64 h':=fun y hy=>by
   subst hy; simp only at Oa; have:=bG y; rw [Oa] at this; simpa only [ao] using this
  obtain ⟨ie,Ax⟩:=QA
  have Hz:k=ie.size:=by simpa [mH,tsize,Ax] using hk
  have dD:(execOp a.eval o).run P c.w=.ok (.value (.slice (if cap=l then ad else ad.map (·.add (l * ie.size))) (h' - l) (cap - l))) c.w:=by
   have g1:(Instr.sliceBounds true xs.length cap (lo.map a.eval) (hi.map a.eval) .none).run P c.w=.ok (l,h',cap) c.w:=by
    have b2:(h':Int)≤cap:=by omega
    have b1:(l:Int)≤h':=by omega
    cases lo <;> cases hi <;> simp_all [Instr.sliceBounds,Instr.sliceBound,asIntOf]
   simp [execOp,ho,he,Instr.sliceAt,run_underlying hu,Instr.slice,g1,sizeOf,typeInfo,Ax]
  refine ⟨_,dD,?_⟩
  simp only [ao]
  have hlen:((xs.take h').drop l).length=h' - l:=by simp; omega
  refine ⟨_,cap - l,by rw [hlen],by rw [hlen]; omega,fun h0=>?_,wC (wD hp _) _,?_⟩
  ·have:ad=.none:=by
    split at h0
    ·exact h0
    ·simpa using h0
   have:=hn this; omega
  ·by_cases hem:(xs.take h').drop l=[]
   ·exact .inl hem
   ·right
    have LG:0<h' - l:=by rw [← hlen]; exact List.length_pos_iff.2 hem
    rcases hr with rfl | ⟨b,off,vs,rfl,hb,hX,hl,hc,hra⟩
    ·simp at hem
    ·refine ⟨b,off+l * k,(vs.take h').drop l,?_,hb,hX,(hl.take h').drop l,fun u hu=>hc u (List.mem_of_mem_take (List.mem_of_mem_drop hu)),?_⟩
     ·rw [if_neg (by omega)]; simp [Addr.add_mid,Hz]
     ·have e1:vs=vs.take l++((vs.take h').drop l++vs.drop h'):=by
       rw [← List.append_assoc]
       have:vs.take l=(vs.take h').take l:=by rw [List.take_take,Nat.min_eq_left hlh]
       rw [this,List.take_append_drop,List.take_append_drop]
      rw [e1,fI,fI] at hra
      have:=nO hra
      rwa [eS (k:=k) (fun v hv=>(hc v (List.mem_of_mem_take hv)).1),List.length_take,Nat.min_eq_left (by have:=hl.length; omega)] at this
theorem JS {c0:Call} (ho:o.op=.call c0) (hc:c0.callee=.builtin .len) (h:LOp P pr [] o ev m K):∃ lv m',K lv m'∧cj P pr o ev m lv m':=by
 obtain ⟨cl,args,UQ⟩:=c0
 simp only at hc
 subst hc
 simp only [LOp,ho] at h
 split at h
 ·rename_i x t hargs yg
  obtain rfl:args=#[x]:=by apply Array.ext'; simpa using hargs
  obtain rfl:UQ=#[t]:=by apply Array.ext'; simpa using yg
  obtain ⟨mH,h⟩:=h
  obtain ⟨e,mH⟩:=Option.isSome_iff_exists.1 mH
  have hu:=gN mH
  have run:∀ (a:Act) (w:World) ad n cap,a.eval x=.slice ad n cap→(execOp a.eval o).run P w=.ok (.value (.int .i64 n)) w:=by
   intro a w ad n cap he
   simp [execOp,ho,resolve,invoke,builtin,Builtin.len_,he,run_underlying hu,goInt]
  cases hx:ev x <;> simp only [hx] at h
  case nil =>
   refine ⟨_,_,h,cj.same fun c a bG hm=>?_⟩
   have hv:=bG x
   rw [hx] at hv
   simp only [ao] at hv
   exact ⟨_,run a c.w _ _ _ hv,by simp [ao]⟩
  case lst k xs =>
   refine ⟨_,_,h,cj.same fun c a bG hm=>?_⟩
   have hv:=bG x
   rw [hx] at hv
   simp only [ao] at hv
   obtain ⟨ad,cap,he,_⟩:=hv
   exact ⟨_,run a c.w _ _ _ he,by simp [ao]⟩
  case arr id n =>
   obtain ⟨hn,hK⟩:=h
   refine ⟨_,_,hK,cj.same fun c a bG hm=>?_⟩
   have hv:=bG x
   rw [hx] at hv
   cases bX:m id with
   | none=>simp [bX] at hn
   | some le =>
    cases le with
    | map _ _ _=>simp [bX] at hn
    | nest _ _ _ _=>simp [bX] at hn
    | dm _ _ _ _ _ _ _ _=>simp [bX] at hn
    | dead=>simp [bX] at hn
    | box cs=>simp [bX] at hn
    | arr e' k xs =>
     simp only [bX] at hn
     obtain ⟨vs,hB,Lu,bt,hl,hc,hp⟩:=gi hm hv bX hn
     obtain ⟨ad,cap,he⟩:=ea bt
     exact ⟨_,run a c.w _ _ _ he,by simp [ao,hn]⟩
 ·cases h
theorem G1 {c0:Call} {x:Operand} (ho:o.op=.call c0) (hc:c0.callee=.value x) (h:LOp P pr [] o ev m K):∃ lv m',K lv m'∧cj P pr o ev m lv m':=by
 obtain ⟨cl,args,UQ⟩:=c0
 simp only at hc
 subst hc
 simp only [LOp,ho] at h
 cases hx:ev x <;> simp only [hx] at h
 case fn f cap =>
  obtain ⟨⟨fn,hf,vN,o7⟩,lv,mc,jb,lI,h1,h2,h3,h4,hK⟩:=h
  refine ⟨lv,_,hK,fun c a Q bG hm=>?_⟩
  have hv:=bG x
  rw [hx] at hv
  simp only [ao] at hv
  obtain ⟨us,he,hl⟩:=hv
  have dD:(execOp a.eval o).run P c.w=.ok (.enter f ((args.toList.map a.eval)++us).toArray) c.w:=by
   have e1:Array.map a.eval args++us.toArray=((args.toList.map a.eval)++us).toArray:=by
    apply Array.ext'; simp
   have qH : ¬ fn.name = "runtime.NumGoroutine" := by simpa using vN
   have qD:¬ fn.body=.none:=fun hn=>by rw [hn] at o7; cases o7
   simp [execOp,ho,resolve,Deferred.ofValue,he,invoke,callFunc,hf,qH,qD,e1]
  unfold Oper.wp
  rw [dD]
  simp only [Oper.upon]
  refine (lI.frame (m:=m) h1 h2 h3 h4 pr c _ hm ((xj bG _).append hl)).mono ?_
  rintro en w' ⟨v,c',rfl,rfl,kh,uR,hs⟩
  exact ⟨v,c',rfl,rfl,uR,kh,hs⟩
end ops
end Go.L
namespace Go.L
section ops
variable {P:Program} {pr:Nat→Prop} {o:Oper} {ev:Operand→LV} {m m':Mem} {lv:LV} {K:LV→Mem→Prop}
theorem tm {e:TypeId} (h:fP P e=true):∃ i z,P.info? e=some i∧i.zero=some z∧z.cells.size=i.size∧(∀ v ∈ z.cells,v.oneCell'=true)∧0<i.size∧i.bytes≤256∧tsize P e=i.size:=by
 unfold fP at h
 split at h
 ·rename_i i hi
  split at h
  ·rename_i z hz
   simp only [Bool.and_eq_true,decide_eq_true_eq,beq_iff_eq] at h
   exact ⟨i,z,hi,hz,h.1.1.1,fun v hv=>(Array.all_eq_true_iff_forall_mem.1 h.1.1.2) v hv,h.1.2,h.2,by simp [tsize,hi]⟩
  ·simp at h
 ·cases h
theorem UI {c:Cx} {y:LV} {ys:List LV} {k:Nat} {v:Value} (hy:y=.lst k ys ∨ (y=.nil∧ys=[])) (hv:ao c y v) :
  (ys=[]∧v=.slice .none 0 0) ∨ ∃ ad cap us,v=.slice (some ad) ys.length cap∧aD c ys us∧(∀ u ∈ us,u.cells.size=k∧∀ y ∈ u.cells,y.oneCell'=true)∧LV.bf ys=true∧∀ j u,(flat us)[j]?=some u→c.w.cell? (ad.add j)=some u:=by
 rcases hy with rfl | ⟨rfl,rfl⟩
 ·simp only [ao] at hv
  obtain ⟨a,cap,rfl,hcap,hn,hp,hr⟩:=hv
  rcases hr with rfl | ⟨b,off,vs,rfl,hb,hX,hl,hc,hra⟩
  ·cases a with
   | none=>left; have:=hn rfl; subst this; exact ⟨rfl,rfl⟩
   | some ad=>right; exact ⟨ad,cap,[],rfl,by simp [aD],by simp,by simp [LV.bf],by simp [flat]⟩
  ·right
   exact ⟨_,cap,vs,rfl,hl,hc,hp,fun j u hu=>by rw [Addr.add_mid]; exact hra j u hu⟩
 ·simp only [ao] at hv
  exact .inl ⟨rfl,hv⟩
theorem ja {w:World} {t ty e:TypeId} {i:TypeInfo} {z:Value} (ht:P.underlying t=some (.slice e)) (hi:P.info? e=some i) (hz:i.zero=some z) (Bo:z.cells.size=i.size) (fE:0<i.size) (Qr:i.bytes≤256)
  {v:Value} {n:Nat} {xs:List Value} (bt:w.ownsRow 0 e i.size v n xs) {a:Addr} {q cap:Nat} {news:List Value} (hl:news.length=q * i.size) (tK:∀ j u,news[j]?=some u→w.cell? (a.add j)=some u) (h1:∀ u ∈ news,u.oneCell'=true)
  (hb:n+q≤549755813888) :
  ∃ v' w',(Builtin.append_ #[t,t] ty #[v,.slice (some a) q cap]).run P w=.ok v' w'∧w'.ownsRow 0 e i.size v' (n+q) (xs++news)∧w.grownBy w' v.ownBlock∧(∀ b,v'.ownBlock=some b→v.ownBlock=some b ∨ w.heap.size≤b)∧(q=0→v'=v)∧w.drawn≤w'.drawn:=by
 have hmul:(n+q) * i.bytes≤140737488355328:=by
  have:=Nat.mul_le_mul hb Qr
  omega
 have h63:n+q≤maxLen:=by simp only [maxLen]; omega
 obtain ⟨v',w',hr,h2,h3,h4⟩:=run_append_own (P:=P) w 0 t ty e i z i.size i.bytes ht hi hz rfl rfl Bo fE v n xs bt a q cap news hl tK h1 h63 hmul (Nat.zero_le _)
 refine ⟨v',w',hr,h2,h3,?_⟩
 rcases bt.2 with ⟨rfl,rfl⟩ | ⟨g,R1,cur,rfl,J5,hg,mG,hcm,hcs,aeG⟩
 ·by_cases hq:q=0
  ·have uR:v'=.slice .none 0 0:=h4.2 ⟨rfl,hq⟩
   subst uR
   subst hq
   have hn:news=[]:=List.eq_nil_of_length_eq_zero (by simpa using hl)
   have hr3:(Builtin.append_ #[t,t] ty #[.slice .none 0 0,.slice (some a) 0 cap]).run P w=.ok (.slice .none 0 0) w:=by
    simp [Builtin.append_,run_underlying ht,sizeOf,typeInfo,hi,Builtin.lenOf,Builtin.firstCells,loadCells,loadCellsFrom]
   rw [hr] at hr3
   cases hr3
   exact ⟨fun b hb=>by simp [Value.ownBlock] at hb,fun _=>rfl,Nat.le_refl _⟩
  ·have hr2:=run_append_nil (P:=P) w t ty e i z ht hi hz a q cap news hl tK (by omega) (by omega) (by have jP:=hmul; simp only [Nat.zero_add] at jP; omega)
   rw [hr] at hr2
   cases hr2
   exact ⟨fun b hb=>by simp [Value.ownBlock] at hb; exact .inr (by omega),fun h=>absurd h hq,by simp⟩
 ·by_cases vX:n+q≤R1
  ·have hfit:n * i.size+news.length≤cur.size:=by rw [hl,hcs,← Nat.add_mul]; exact Nat.mul_le_mul_right _ vX
   have hr2:=run_append_room (P:=P) w t ty e i ht hi g n R1 cur hg a q cap news hl tK h1 vX hfit
   rw [hr] at hr2
   cases hr2
   exact ⟨fun b hb=>.inl (by simpa [Value.ownBlock] using hb),(fun h=>by subst h; rfl),Nat.le_refl _⟩
  ·have holds:∀ j u,xs[j]?=some u→w.cell? ((⟨g,0,.none⟩:Addr).add j)=some u:=bt.cells (g:=g) rfl
   have hr2:=run_append_grow (P:=P) w t ty e i z ht hi hz ⟨g,0,.none⟩ n R1 xs bt.1 holds a q cap news hl tK (by omega) (by simp only [maxLen] at h63; omega) (growslice_fits (by omega) hmul)
   rw [hr] at hr2
   cases hr2
   exact ⟨fun b hb=>by simp [Value.ownBlock] at hb; exact .inr (by omega),(fun h=>by omega),by simp⟩
theorem A6 {c0:Call} (ho:o.op=.call c0) (hc:c0.callee=.builtin .append) (h:LOp P pr [] o ev m K):∃ lv m',K lv m'∧cj P pr o ev m lv m':=by
 obtain ⟨cl,args,UQ⟩:=c0
 simp only at hc
 subst hc
 simp only [LOp,ho] at h
 split at h
 ·rename_i x y t t' hargs yg
  obtain rfl:args=#[x,y]:=by apply Array.ext'; simpa using hargs
  obtain rfl:UQ=#[t,t']:=by apply Array.ext'; simpa using yg
  obtain ⟨rfl,h⟩:=h
  cases mH:telem P t <;> simp only [mH] at h
  case some e =>
   have hu:=gN mH
   obtain ⟨nI,ys,hy,h⟩:=h
   obtain ⟨i,z,hi,hz,Bo,Bn,fE,Qr,uQ⟩:=tm nI
   have Qv:∀ (a:Act) (w:World),(execOp a.eval o).run P w=((Builtin.append_ #[t,t] o.type #[a.eval x,a.eval y]).run P w).andThen fun v w'=>.ok (.value v) w':=by
    intro a w
    simp [execOp,ho,resolve,invoke,builtin]
   have main:∀ (c:Cx) (a:Act),(∀ x,ao c (ev x) (a.eval x))→cA c m→∀ (u:Value) (n:Nat) (xs:List LV) (vs:List Value),a.eval x=u→c.w.ownsRow 0 e i.size u n (flat vs)→n=xs.length→aD c xs vs→(∀ v ∈ vs,v.cells.size=i.size∧∀ y ∈ v.cells,y.oneCell'=true)→LV.bf xs=true→n+ys.length≤549755813888 →
     ∃ v' w',(execOp a.eval o).run P c.w=.ok (.value v') w'∧(∃ us,w'.ownsRow 0 e i.size v' (n+ys.length) (flat (vs++us))∧aD c (xs++ys) (vs++us)∧(∀ v ∈ vs++us,v.cells.size=i.size∧∀ y ∈ v.cells,y.oneCell'=true)∧LV.bf (xs++ys)=true) ∧
      c.w.grownBy w' u.ownBlock∧(∀ b,v'.ownBlock=some b→u.ownBlock=some b ∨ c.w.heap.size≤b)∧(ys.length=0→v'=u)∧c.w.drawn≤w'.drawn:=by
    intro c a bG hm u n xs vs hx bt hn hl hc hp hb
    rcases UI (k:=tsize P e) hy (bG y) with ⟨rfl,hv⟩ | ⟨ad,cap,us,hv,hlu,U8,hpu,hra⟩
    ·refine ⟨u,c.w,?_,⟨[],by simpa using bt,by simpa using hl,by simpa using hc,by simpa using hp⟩,⟨rfl,rfl,rfl,Nat.le_refl _,fun _ _ _=>rfl⟩,fun b hb=>.inl hb,fun _=>rfl,Nat.le_refl _⟩
     rw [Qv,hx,hv,run_append_owned_none (P:=P) (w:=c.w) 0 t o.type e i i.size hu hi u n _ bt]
     rfl
    ·have abH:=hlu.length
     rw [uQ] at U8
     have Bf:(flat us).length=ys.length * i.size:=by rw [eS (k:=i.size) (fun v hv=>(U8 v hv).1),abH]
     obtain ⟨v',w',hr,h2,h3,h4,h5,h6⟩:=ja (P:=P) (ty:=o.type) hu hi hz Bo fE Qr bt (cap:=cap) Bf hra (fun q hq=>by
      simp only [flat,List.mem_flatMap] at hq
      obtain ⟨v,hv,hq⟩:=hq
      exact (U8 v hv).2 q (by simpa using hq)) hb
     refine ⟨v',w',?_,⟨us,by rw [fI]; exact h2,hl.append hlu,fun v hv=>(List.mem_append.1 hv).elim (hc v) (U8 v),kD hp hpu⟩,h3,h4,h5,h6⟩
     rw [Qv,hx,hv,hr]
     rfl
   cases hx:ev x <;> simp only [hx] at h
   case arr id n =>
    obtain ⟨hnp,h⟩:=h
    cases bX:m id with
    | none=>simp [bX] at h
    | some le =>
     cases le with
     | map _ _ _=>simp [bX] at h
     | nest _ _ _ _=>simp [bX] at h
     | dm _ _ _ _ _ _ _ _=>simp [bX] at h
     | dead=>simp [bX] at h
     | box cs=>simp [bX] at h
     | arr e' k xs =>
      simp only [bX] at h
      obtain ⟨rfl,hk,hn,hb,hK⟩:=h
      refine ⟨_,_,hK,cj.value fun c a bG hm=>?_⟩
      have hv:=bG x
      rw [hx] at hv
      obtain ⟨vs,hB,Lu,bt,hl,hc,hp⟩:=gi hm hv bX hn
      have xT:k=i.size:=by rw [hk,uQ]
      subst xT
      obtain ⟨v',w',hr,⟨us,q1,q2,q3,q4⟩,q5,q6,q7,q8⟩:=main c a bG hm _ _ xs vs rfl bt rfl hl hc hp hb
      obtain ⟨c',hw,jP,h2,h3⟩:=hm.Bw (pr:=pr) id (.arr e' i.size (xs++ys)) (.arr v' i.size (xs.length+ys.length) []) w' q5.os q5.tape q5.output q8 q5.size
       (fun b jP eO=>q5.block b jP (fun hh=>eO _ hB (.inl hh.symm)))
       (fun b jP=>jP.elim (fun jP=>(q6 b jP).imp (fun hh=>⟨_,hB,.inl hh⟩) (fun hh=>hh)) (fun hh=>by cases hh))
       (by rw [hB]; exact ⟨_,_,_,rfl,by omega,fun hh=>q7 (by omega)⟩) (fun kA=>absurd kA hnp)
       (fun c' hw hle hble=>by
        simp only [bo,List.length_append]
        exact ⟨v',vs++us,rfl,Lu,by rw [hw]; exact q1,aD.mono hle _ _ (fun id _=>hble id) q2,q3,q4⟩)
      refine ⟨v',c',by rw [hw]; exact hr,?_,h2,h3⟩
      simp only [ao]
      refine ⟨?_,v',_,_,_,jP,by omega,fun _=>rfl⟩
      obtain ⟨ad,cp,he⟩:=ea q1
      rw [he]; rfl
   case nil =>
    cases hd:o.dst <;> simp only [hd] at h
    case some d =>
     obtain ⟨bX,hb,hK⟩:=h
     refine ⟨_,_,hK,cj.value fun c a bG hm=>?_⟩
     have hv:=bG x
     rw [hx] at hv
     simp only [ao] at hv
     have hB:=hm.fresh bX
     obtain ⟨v',w',hr,⟨us,q1,q2,q3,q4⟩,q5,q6,q7,q8⟩:=main c a bG hm _ 0 [] [] hv (World.ownsRow_nil c.w 0 e i.size) rfl (by simp [aD]) (by simp) (by simp [LV.bf]) (by omega)
     simp only [Nat.zero_add,List.nil_append] at q1 q2 q3 q4
     obtain ⟨c',hw,jP,h2,h3⟩:=hm.Bw (pr:=pr) (100+d) (.arr e (tsize P e) ys) (.arr v' (tsize P e) ys.length []) w' q5.os q5.tape q5.output q8 q5.size
      (fun b jP _=>q5.block b jP (fun hh=>by simp [Value.ownBlock] at hh))
      (fun b jP=>jP.elim (fun jP=>(q6 b jP).elim (fun hh=>by simp [Value.ownBlock] at hh) .inr) (fun hh=>by cases hh))
      (by rw [hB]; trivial) (fun _ dA h0=>by rw [hB] at h0; cases h0)
      (fun c' hw hle hble=>by
       simp only [bo,uQ]
       exact ⟨v',us,rfl,fE,by rw [hw]; exact q1,aD.mono hle _ _ (fun id _=>hble id) q2,q3,q4⟩)
     refine ⟨v',c',by rw [hw]; exact hr,?_,h2,h3⟩
     simp only [ao]
     refine ⟨?_,v',_,_,_,jP,by omega,fun _=>rfl⟩
     obtain ⟨ad,cp,he⟩:=ea q1
     rw [he]; rfl
 ·cases h
theorem flat_get {k:Nat} (hk:0<k):∀ {vs:List Value},(∀ v ∈ vs,v.cells.size=k)→∀ j,(flat vs)[j]?=(vs[j / k]?).bind fun v=>v.cells[j % k]?
 | [],_,j=>by simp [flat]
 | v :: vs,h,j=>by
  have hv:v.cells.toList.length=k:=by simpa using h v (by simp)
  rw [gO]
  by_cases hj:j<k
  ·rw [List.getElem?_append_left (by omega),Nat.div_eq_of_lt hj,Nat.mod_eq_of_lt hj]
   simp
  ·rw [List.getElem?_append_right (by omega),flat_get hk (fun u hu=>h u (by simp [hu])),hv]
   have e1:j / k=(j - k) / k+1:=by
    rw [show j=(j - k)+k by omega,Nat.add_div_right _ hk]; simp
   have e2:j % k=(j - k) % k:=by
    conv=>lhs; rw [show j=(j - k)+k by omega,Nat.add_mod_right]
   rw [e1,e2,List.getElem?_cons_succ]
theorem uF {t:TypeId} {x y:Operand} (ho:o.op=.makeSlice t x y) (h:LOp P pr [] o ev m K):∃ lv m',K lv m'∧cj P pr o ev m lv m':=by
 simp only [LOp,ho] at h
 split at h
 ·rename_i e z n n' d mH hz hx hy hd
  obtain ⟨rfl,h0,hb,nI,hp,bX,hK⟩:=h
  have hu:=gN mH
  obtain ⟨i,zv,hi,FX,Bo,Bn,fE,Qr,uQ⟩:=tm nI
  refine ⟨_,_,hK,cj.value fun c a bG hm=>?_⟩
  have rK:=bG x
  have qL:=bG y
  rw [hx] at rK
  rw [hy] at qL
  simp only [ao] at rK qL
  have hzz:z=Ki zv:=by
   rw [mH] at hz
   simp only [Option.getD_some,tzero,hi,FX] at hz
   split at hz
   ·cases hz; rfl
   ·cases hz
  subst hzz
  have Fy:(i.bytes:Int) * n≤281474976710656:=by
   have h1:(i.bytes:Int) * n≤256 * n:=Int.mul_le_mul_of_nonneg_right (by omega) h0
   omega
  have dD:=run_make (P:=P) c.w t e i zv hu hi FX .i64 .i64 n n h0 (Int.le_refl _) Fy (by omega)
  have hB:=hm.fresh bX
  have nH:(madeCells zv.cells (n.toNat * i.size)).toList=flat (List.replicate n.toNat zv):=by
   apply List.ext_getElem?
   intro j
   rw [flat_get fE (fun v hv=>by rw [List.eq_of_mem_replicate hv]; exact Bo)]
   simp only [Array.getElem?_toList,madeCells,Array.getElem?_map,Array.getElem?_range,List.getElem?_replicate,Bo]
   by_cases hj:j<n.toNat * i.size
   ·have h1:j / i.size<n.toNat:=(Nat.div_lt_iff_lt_mul fE).2 hj
    have h2:j % i.size<zv.cells.size:=by rw [Bo]; exact Nat.mod_lt _ fE
    rw [if_pos hj,if_pos h1]
    simp [h2]
   ·have h1:¬ j / i.size<n.toNat:=fun hh=>hj ((Nat.div_lt_iff_lt_mul fE).1 hh)
    rw [if_neg hj,if_neg h1]
    rfl
  have iM:(madeCells zv.cells (n.toNat * i.size)).size=n.toNat * i.size:=size_madeCells _ _
  obtain ⟨c',hw,jP,h2,h3⟩:=hm.Bw (pr:=pr) (100+d) (.arr e (tsize P e) (List.replicate n.toNat (Ki zv))) (.arr (.slice (some ⟨c.w.heap.size,0,.none⟩) n.toNat n.toNat) (tsize P e) n.toNat [])
   (c.w.alloc (.cells (madeCells zv.cells (n.toNat * i.size)) e)) rfl rfl rfl (Nat.le_refl _) (by simp)
   (fun b jP _=>rG c.w _ b jP) (fun b jP=>by simp [BE.has,Value.ownBlock] at jP; exact .inr (by omega)) (by rw [hB]; trivial) (fun _ dA h0=>by rw [hB] at h0; cases h0)
   (fun c' hw hle hble=>by
    simp only [bo,uQ,List.length_replicate]
    refine ⟨_,List.replicate n.toNat zv,rfl,fE,⟨by rw [eS (k:=i.size) (fun v hv=>by rw [List.eq_of_mem_replicate hv]; exact Bo)]; simp,.inr ⟨c.w.heap.size,n.toNat,_,rfl,Nat.zero_le _,by rw [hw]; exact heap_alloc_new c.w _,Nat.le_refl _,by simp only [maxLen]; omega,iM,?_⟩⟩,?_,?_,?_⟩
    ·rw [List.take_of_length_le (by rw [Array.length_toList,iM]; exact Nat.le_refl _),nH]
    ·refine aD.of (by simp) fun j q r hq hr=>?_
     rw [List.getElem?_replicate] at hq hr
     split at hq
     ·rename_i hj
      rw [if_pos hj] at hr
      cases hq; cases hr; exact pz c' zv
     ·cases hq
    ·intro v hv
     rw [List.eq_of_mem_replicate hv]
     exact ⟨Bo,Bn⟩
    ·refine dg.2 fun q hq=>?_
     rw [List.eq_of_mem_replicate hq]; exact hp)
  refine ⟨.slice (some ⟨c.w.heap.size,0,.none⟩) n.toNat n.toNat,c',by rw [hw]; simp [execOp,ho,rK,qL,dD],?_,h2,h3⟩
  simp only [ao]
  exact ⟨rfl,_,_,_,_,jP,Nat.le_refl _,fun _=>rfl⟩
 ·cases h
theorem Lb {cells:Array Value} {off:Nat} {l:Array Value} (h:off+l.size≤cells.size) :
  (l.zipIdx.foldl (fun cs (x:Value × Nat)=>cs.setIfInBounds (off+x.2) x.1) cells).toList=cells.toList.take off++l.toList++cells.toList.drop (off+l.toList.length):=by
 obtain ⟨g1,g2⟩:=Great.foldl_set off l.toList 0 cells
 have e0:l.zipIdx.foldl (fun cs (x:Value × Nat)=>cs.setIfInBounds (off+x.2) x.1) cells=(l.toList.zipIdx 0).foldl (fun cs (x:Value × Nat)=>cs.setIfInBounds (off+x.2) x.1) cells:=by
  rw [← Array.foldl_toList]; simp
 rw [e0]
 apply List.ext_getElem?
 intro j
 rw [Array.getElem?_toList,g2 j]
 have e1:l.toList.length=l.size:=by simp
 have e2:cells.toList.length=cells.size:=by simp
 simp only [Nat.add_zero,List.getElem?_append,List.length_append,List.length_take,List.getElem?_take,List.getElem?_drop,e1,e2]
 by_cases h1:j<off
 ·rw [if_neg (by omega),if_pos (by omega),if_pos (by omega),if_pos h1]; simp
 ·by_cases h2:j<off+l.size
  ·rw [if_pos (by omega),if_pos (by omega),if_neg (by omega)]
   congr 1; omega
  ·rw [if_neg (by omega),if_neg (by omega)]
   rw [← Array.getElem?_toList]; congr 1; omega
theorem vC {t:TypeId} {fields:Array Field} {wB:List (Nat × Nat)} (hu:P.underlying t=some (.struct fields)) (yN:fields.toList.mapM (fun f=>(P.info? f.type).map fun i=>(f.offset,i.size))=some wB) {c:Cx} {a:Act} (bG:∀ x,ao c (ev x) (a.eval x)) :
  ∀ (parts:List (Nat × Operand)) (cs:List LV) (cells:Array Value) (r:List LV),aD c cs cells.toList→oo P t cs (parts.map fun p=>(p.1,ev p.2))=some r →
   ∃ rc,Instr.fill (wB.toArray[·]?) cells (parts.map fun p=>(p.1,a.eval p.2))=some rc∧aD c r rc.toList
 | [],cs,cells,r,hl,h=>by
  simp only [List.map_nil,oo,Option.some.injEq] at h
  subst h
  exact ⟨cells,rfl,hl⟩
 | (i, x) :: parts, cs, cells, r, hl, h => by
  simp only [List.map_cons,oo] at h
  cases pQ:tfield P t i with
  | none=>simp [pQ] at h
  | some q =>
   obtain ⟨off,ft⟩:=q
   simp only [pQ] at h
   split at h
   ·rename_i hc
    obtain ⟨h1,h2,h3,h4⟩:=hc
    obtain ⟨vZ,Z4⟩:=(bG x).cellsOf h4
    have aeK:(ev x).cells.length=(a.eval x).cells.size:=by rw [vZ.length]; simp
    have hcl:cs.length=cells.size:=by rw [hl.length]; simp
    have SG : wB.toArray[i]? = some (off, tsize P ft) := by
     unfold tfield at pQ
     rw [hu] at pQ
     simp only at pQ
     cases hf:fields[i]? with
     | none=>simp [hf] at pQ
     | some fd =>
      simp only [hf,Option.map_some,Option.some.injEq,Prod.mk.injEq] at pQ
      obtain ⟨rfl,rfl⟩:=pQ
      have abw:∀ (fs:List Field) (ps:List (Nat × Nat)),fs.mapM (fun f=>(P.info? f.type).map fun i=>(f.offset,i.size))=some ps→∀ (i:Nat) fd,fs[i]?=some fd→ps[i]?=some (fd.offset,tsize P fd.type):=by
       intro fs
       induction fs with
       | nil=>intro ps _ i fd J6; simp at J6
       | cons f fs ih =>
        intro ps s6 i fd J6
        simp only [List.mapM_cons,Option.bind_eq_bind,Option.pure_def] at s6
        cases hi:P.info? f.type with
        | none=>simp [hi] at s6
        | some inf =>
         cases hr:fs.mapM (fun f=>(P.info? f.type).map fun i=>(f.offset,i.size)) with
         | none=>simp [hi,hr] at s6
         | some rest =>
          simp [hi,hr] at s6
          subst s6
          cases i with
          | zero=>simp at J6; subst J6; simp [tsize,hi]
          | succ i=>simp at J6; simpa using ih rest hr i fd J6
      have:=abw fields.toList wB yN i fd (by simpa using hf)
      simpa using this
    have yM:=Lb (cells:=cells) (off:=off) (l:=(a.eval x).cells) (by omega)
    obtain ⟨rc,hrc,Cg⟩:=vC hu yN bG parts (rep cs off (ev x).cells) ((a.eval x).cells.zipIdx.foldl (fun cs (x:Value × Nat)=>cs.setIfInBounds (off+x.2) x.1) cells) r (by
     rw [yM]
     unfold rep
     rw [vZ.length]
     exact ((hl.take off).append vZ).append (hl.drop _)) h
    refine ⟨rc,?_,Cg⟩
    simp only [List.map_cons]
    unfold Instr.fill
    simp only [SG]
    rw [if_neg (by simp only [ne_eq,Bool.or_eq_true,decide_eq_true_eq,not_or,Decidable.not_not,Nat.not_lt,gt_iff_lt]; omega)]
    exact hrc
   ·cases h
theorem EE {t:TypeId} {parts:Array (Nat × Operand)} (ho:o.op=.build t parts) (h:LOp P pr [] o ev m K):∃ lv m',K lv m'∧cj P pr o ev m lv m':=by
 simp only [LOp,ho] at h
 obtain ⟨Vh,h⟩:=h
 split at h
 ·rename_i z hz
  split at h
  ·rename_i cs hf
   refine ⟨_,_,h,cj.same fun c a bG hm=>?_⟩
   unfold tbuild at Vh
   split at Vh
   ·rename_i fields hu
    obtain ⟨wB,yN⟩:=Option.isSome_iff_exists.1 Vh
    unfold tzero at hz
    split at hz
    ·rename_i i hi
     split at hz
     ·rename_i zv FX
      split at hz
      ·have Th:Ki zv=.agg z:=by simpa using hz
       have hzl:aD c z zv.cells.toList:=by have:=py c zv; rw [Th] at this; exact this
       obtain ⟨rc,hrc,Cg⟩:=vC hu yN bG parts.toList z zv.cells cs hzl hf
       have hb:P.built t (parts.map fun p=>(p.1,a.eval p.2)).toList=some rc:=by
        unfold Program.built
        simp only [hi,hu,FX,yN,Array.toList_map]
        exact hrc
       have dD:=run_build (P:=P) c.w t _ rc hb
       refine ⟨.agg rc,by simp [execOp,ho,dD],?_⟩
       simp only [ao]
       exact ⟨rc.toList,by simp,Cg⟩
      ·cases hz
     ·cases hz
    ·cases hz
   ·cases Vh
  ·cases h
 ·cases h
theorem tt {t:TypeId} {len:Nat} {parts:Array (Nat × Operand)} (ho:o.op=.buildSlice t len parts) (h:LOp P pr [] o ev m K):∃ lv m',K lv m'∧cj P pr o ev m lv m':=by
 simp only [LOp,ho] at h
 cases mH:telem P t <;> simp only [mH] at h
 case some e =>
  obtain ⟨nI,Oc,Lr,Lo,hK⟩:=h
  have hu:=gN mH
  obtain ⟨i,zv,hi,FX,Bo,Bn,fE,Qr,uQ⟩:=tm nI
  refine ⟨_,_,hK,cj.value fun c a bG hm=>?_⟩
  have pd:parts.toList.length=len:=by have:=congrArg List.length Lr; simpa using this
  let vs:=parts.toList.map fun p=>a.eval p.2
  have hl:aD c (parts.toList.map fun p=>ev p.2) vs:=aD.of (by simp [vs]) fun j x v hx hv=>by
   simp only [vs,List.getElem?_map,Option.map_eq_some_iff] at hx hv
   obtain ⟨p,hp,rfl⟩:=hx
   obtain ⟨p',FK,rfl⟩:=hv
   rw [hp] at FK; cases FK; exact bG _
  have hcell:∀ v ∈ vs,v.cells.size=i.size∧∀ y ∈ v.cells,y.oneCell'=true:=by
   intro v hv
   simp only [vs,List.mem_map] at hv
   obtain ⟨p,hp,rfl⟩:=hv
   obtain ⟨_,e1,e2⟩:=Lo (ev p.2) (List.mem_map.2 ⟨p,hp,rfl⟩)
   obtain ⟨e3,e4⟩:=(bG p.2).cellsOf e2
   refine ⟨?_,e4⟩
   have:=e3.length
   rw [e1,uQ] at this
   simpa using this.symm
  have LI:LV.bf (parts.toList.map fun p=>ev p.2)=true:=dg.2 fun x hx=>(Lo x hx).1
  have FL:(parts.map fun (p:Nat × Operand)=>(p.1,a.eval p.2)).toList=(vs.zipIdx 0).map fun x=>(x.2,x.1):=by
   apply List.ext_getElem?
   intro j
   have hj:=congrArg (fun l=>l[j]?) Lr
   simp only [List.getElem?_map,List.getElem?_range] at hj
   simp only [Array.toList_map,List.getElem?_map,List.getElem?_zipIdx,vs,Nat.zero_add]
   cases hp:parts.toList[j]? with
   | none=>simp
   | some p =>
    rw [hp] at hj
    have nz:j<len:=by
     rw [← pd]; exact (List.getElem?_eq_some_iff.1 hp).1
    rw [List.getElem?_range nz] at hj
    simp at hj
    simp [hj]
  obtain ⟨cells,B7,B8⟩:∃ cells,Instr.fill (fun i'=>some (i' * i.size,i.size)) ((Array.range (len * i.size)).map (zv.cells[· % zv.cells.size]!)) (parts.map fun (p:Nat × Operand)=>(p.1,a.eval p.2)).toList=some cells∧cells.toList=flat vs:=by
   have pg:vs.length=len:=by simp [vs,pd]
   obtain ⟨r,hr,hrs,WH⟩:=Great.fill_dense fE vs 0 ((Array.range (len * i.size)).map (zv.cells[· % zv.cells.size]!)) (fun v hv=>(hcell v hv).1) (by simp [pg])
   refine ⟨r,by rw [FL]; exact hr,?_⟩
   apply List.ext_getElem?
   intro j
   rw [flat_get fE (fun v hv=>(hcell v hv).1),Array.getElem?_toList,WH j]
   simp only [Nat.zero_mul,Nat.zero_le,true_and,Nat.zero_add,Nat.sub_zero,pg]
   by_cases hj:j<len * i.size
   ·rw [if_pos hj]
   ·rw [if_neg hj]
    have h1:¬ j / i.size<len:=fun hh=>hj ((Nat.div_lt_iff_lt_mul fE).1 hh)
    rw [List.getElem?_eq_none (by omega:vs.length≤j / i.size)]
    simp; omega
  have nH:cells=(flat vs).toArray:=by rw [← B8]
  subst nH
  have dD:(execOp a.eval o).run P c.w=.ok (.value (.slice (some ⟨c.w.heap.size,0,.none⟩) len len)) (c.w.alloc (.cells (flat vs).toArray e)):=by
   by_cases QB:len=0
   ·subst QB
    have O2:parts=#[]:=by apply Array.ext'; simpa using pd
    subst O2
    simp [execOp,ho,Instr.buildSlice,run_underlying hu,sizeOf,typeInfo,hi,Instr.fill,newRow,vs,flat,Array.range_zero']
   ·have LG:¬ len * i.size=0:=by
     intro h0
     rcases Nat.mul_eq_zero.1 h0 with h0 | h0 <;> omega
    have hb:=run_buildSlice (P:=P) c.w t e len (parts.map fun (p:Nat × Operand)=>(p.1,a.eval p.2)) (flat vs).toArray i zv hu hi FX (by rw [uQ] at Oc; omega) LG B7
    simp [execOp,ho,hb]
  obtain ⟨h2,h3⟩:=hm.ext (pr:=pr) (c.w.alloc (.cells (flat vs).toArray e)) rfl rfl rfl (Nat.le_refl _) (by simp) (fun b hb=>rG c.w _ b hb)
  refine ⟨_,_,dD,?_,h2,h3⟩
  simp only [ao]
  refine ⟨some ⟨c.w.heap.size,0,.none⟩,len,by simp [pd],by simp [pd],by simp,LI,.inr ⟨c.w.heap.size,0,vs,rfl,by simp,hm.XU (Nat.le_refl _),h3.Zg hl,fun u hu=>by rw [uQ]; exact hcell u hu,tU c.w _ e⟩⟩
theorem kM {ro:List Nat} (h:LOp P pr ro o ev m K):∃ lv m',K lv m'∧cj P pr o ev m lv m':=by
 have xU:∀ (ho:∀ t x,o.op ≠ .box t x),LOp P pr [] o ev m K:=by
  intro uO
  unfold LOp at h ⊢
  split at h <;> first | exact h | (rename_i t x ho; exact absurd ho (uO t x))
 cases ho:o.op
 case move x=>simp only [LOp,ho] at h; exact ⟨_,_,h,HN x (.inl ho)⟩
 case assign x=>simp only [LOp,ho] at h; exact ⟨_,_,h,HN x (.inr ho)⟩
 case pick x y z =>
  simp only [LOp,ho] at h
  cases hx:ev x <;> simp only [hx] at h
  case bool t=>exact ⟨_,_,h,Pu x y z t ho hx⟩
 case alloc t =>
  simp only [LOp,ho] at h
  split at h
  ·rename_i z d hz hd
   exact ⟨_,_,h.2,Cv t d z ho hz h.1⟩
  ·cases h
 case box t x =>
  simp only [LOp,ho] at h
  split at h
  ·rename_i d hd
   obtain ⟨hs,h⟩:=h
   split at h
   ·exact ⟨_,_,h,Js t x ho hs⟩
   ·exact ⟨_,_,h.2,Uh t x d ho hs h.1⟩
  ·cases h
 case build t parts=>exact EE ho (xU (by simp [ho]))
 case buildSlice t n parts=>exact tt ho (xU (by simp [ho]))
 case load t x=>exact G2 ho (xU (by simp [ho]))
 case store t x y=>exact EH ho (xU (by simp [ho]))
 case nilCheck x=>exact xo ho (xU (by simp [ho]))
 case binOp op t x y t'=>exact ED ho (xU (by simp [ho]))
 case unOp op t x=>exact G3 ho (xU (by simp [ho]))
 case convert s t x=>exact yy ho (xU (by simp [ho]))
 case slice t x lo hi mx=>exact EG ho (xU (by simp [ho]))
 case fieldAddr t x f=>exact uD ho (xU (by simp [ho]))
 case field t x f=>exact EF ho (xU (by simp [ho]))
 case indexAddr t x i=>exact uE ho (xU (by simp [ho]))
 case extract t i=>exact yz ho (xU (by simp [ho]))
 case makeFunc f a b=>exact xn ho (xU (by simp [ho]))
 case makeSlice t x y=>exact uF ho (xU (by simp [ho]))
 case call c =>
  cases hc:c.callee
  case value x=>exact G1 ho hc (xU (by simp [ho]))
  case builtin b =>
   cases b
   case len=>exact JS ho hc (xU (by simp [ho]))
   case append=>exact A6 ho hc (xU (by simp [ho]))
   all_goals simp [LOp,ho,hc] at h
  all_goals simp [LOp,ho,hc] at h
 all_goals simp [LOp,ho] at h
end ops
end Go.L
namespace Go.L
structure oh (N:Nat) (c:Cx) (e:Env) (m:Mem) (a:Act):Prop where
 env:∀ i,ao c (e i) (a.tmps.getD i undef)
 mem:cA c m
 size:a.tmps.size=N
 defers:a.defers=[]
theorem oh.ev {N:Nat} {c:Cx} {e:Env} {m:Mem} {a:Act} (h:oh N c e m a) (x:Operand):ao c (dZ e x) (a.eval x):=by
 cases x with
 | tmp t=>exact h.env t
 | const v=>exact pz c v
 | global g=>simp [dZ,ao]
 | func f=>simp only [dZ,Act.eval,ao]; exact ⟨[],rfl,by simp [aD]⟩
theorem oh.put {N:Nat} {pr:Nat→Prop} {c c':Cx} {e:Env} {m m':Mem} {a:Act} (h:oh N c e m a) (hs:Step pr c c') (hm:cA c' m') {d:Option Nat} (hd:∀ i,d=some i→i<N) {lv:LV} {v:Value} (hv:ao c' lv v):oh N c' (e.gh d lv) m' (a.put d v):=by
 cases d with
 | none=>exact ⟨fun i=>hs.A4 (h.env i),hm,h.size,h.defers⟩
 | some d =>
  refine ⟨fun i=>?_,hm,by simp [Act.put,h.size],h.defers⟩
  simp only [Env.gh,Env.put,Act.put]
  by_cases hi:i=d
  ·subst hi
   have:i<a.tmps.size:=by rw [h.size]; exact hd i rfl
   simpa [this] using hv
  ·simp only [hi,if_false]
   have:=hs.A4 (h.env i)
   simpa [Array.getElem?_setIfInBounds_ne (Ne.symm hi)] using this
def og (P:Program) (N:Nat) (pr:Nat→Prop) (code:Code) (e:Env) (m:Mem) (ex:Exit) (e':Env) (m':Mem):Prop :=
 ∀ (c:Cx) (a:Act),oh N c e m a→code.wp P (fun x a' w'=>x=ex∧∃ c':Cx,c'.w=w'∧oh N c' e' m' a'∧Grow pr c c') a c.w
def LH (P:Program) (N:Nat) (pr:Nat→Prop) (code:Code) (Q:Exit→Env→Mem→Prop) (e:Env) (m:Mem):Prop :=
 ∃ ex e' m',og P N pr code e m ex e' m'∧Q ex e' m'
def Wk (pr:Nat→Prop) (e:Env) (m:Mem) (e':Env) (m':Mem):Prop :=
 ∀ (N:Nat) (c:Cx) (a:Act),oh N c e m a→∃ c':Cx,c'.w=c.w∧oh N c' e' m' a∧Grow pr c c'
theorem Wk.refl (pr:Nat→Prop) (e:Env) (m:Mem):Wk pr e m e m:=fun _ c _ h=>⟨c,rfl,h,.refl pr c⟩
theorem Wk.trans {pr:Nat→Prop} {e e' e'':Env} {m m' m'':Mem} (h:Wk pr e m e' m') (k:Wk pr e' m' e'' m''):Wk pr e m e'' m'':=fun N c a hr=>by
 obtain ⟨c1,hw1,dI,Bg⟩:=h N c a hr
 obtain ⟨c2,rL,hr2,hg2⟩:=k N c1 a dI
 exact ⟨c2,rL.trans hw1,hr2,Bg.trans hg2⟩
section rules
variable {P:Program} {N:Nat} {pr:Nat→Prop} {Q:Exit→Env→Mem→Prop} {e e':Env} {m m':Mem}
theorem LH.mono {c:Code} {Q':Exit→Env→Mem→Prop} (h:LH P N pr c Q e m) (hq:∀ ex e m,Q ex e m→Q' ex e m):LH P N pr c Q' e m:=by
 obtain ⟨ex,e',m',h1,h2⟩:=h
 exact ⟨ex,e',m',h1,hq _ _ _ h2⟩
theorem og.wk {c:Code} {ex:Exit} {e2:Env} {m2:Mem} (hw:Wk pr e m e' m') (h:og P N pr c e' m' ex e2 m2):og P N pr c e m ex e2 m2:=by
 intro cx a hr
 obtain ⟨c1,hw1,dI,Bg⟩:=hw N cx a hr
 rw [← hw1]
 refine wp_mono (h c1 a dI) ?_
 rintro x a' w' ⟨hx,c2,rL,hr2,hg2⟩
 exact ⟨hx,c2,rL,hr2,Bg.trans hg2⟩
theorem LH.wk {c:Code} (hw:Wk pr e m e' m') (h:LH P N pr c Q e' m'):LH P N pr c Q e m:=by
 obtain ⟨ex,e2,m2,h1,h2⟩:=h
 exact ⟨ex,e2,m2,h1.wk hw,h2⟩
theorem LH.skip (h:Q .normal e m):LH P N pr .skip Q e m:=⟨_,_,_,fun c a hr=>wp_skip ⟨rfl,c,rfl,hr,.refl pr c⟩,h⟩
theorem LH.ret (h:Q .ret e m):LH P N pr .ret Q e m:=⟨_,_,_,fun c a hr=>wp_ret ⟨rfl,c,rfl,hr,.refl pr c⟩,h⟩
theorem LH.exit {id:Nat} (h:Q (.exit id) e m):LH P N pr (.exit id) Q e m:=⟨_,_,_,fun c a hr=>wp_exit ⟨rfl,c,rfl,hr,.refl pr c⟩,h⟩
def EM (K:Env→Mem→Prop) (Q:Exit→Env→Mem→Prop):Exit→Env→Mem→Prop
 | .normal,e,m=>K e m
 | ex,e,m=>Q ex e m
theorem LH.seq {x y:Code} (h:LH P N pr x (EM (LH P N pr y Q) Q) e m):LH P N pr (.seq x y) Q e m:=by
 obtain ⟨ex,e1,m1,h1,h2⟩:=h
 cases ex with
 | normal =>
  obtain ⟨ex2,e2,m2,h3,h4⟩:=h2
  refine ⟨ex2,e2,m2,fun c a hr=>wp_seq (wp_mono (h1 c a hr) ?_),h4⟩
  rintro x a' w' ⟨rfl,c',rfl,om,ye⟩
  refine wp_mono (h3 c' a' om) ?_
  rintro x VH UT ⟨hx,c2,rL,hr2,hg2⟩
  exact ⟨hx,c2,rL,hr2,ye.trans hg2⟩
 | exit id =>
  refine ⟨_,e1,m1,fun c a hr=>wp_seq (wp_mono (h1 c a hr) ?_),h2⟩
  rintro x a' w' ⟨rfl,hq⟩
  exact ⟨rfl,hq⟩
 | goto l =>
  refine ⟨_,e1,m1,fun c a hr=>wp_seq (wp_mono (h1 c a hr) ?_),h2⟩
  rintro x a' w' ⟨rfl,hq⟩
  exact ⟨rfl,hq⟩
 | ret =>
  refine ⟨_,e1,m1,fun c a hr=>wp_seq (wp_mono (h1 c a hr) ?_),h2⟩
  rintro x a' w' ⟨rfl,hq⟩
  exact ⟨rfl,hq⟩
 | panic ch =>
  refine ⟨_,e1,m1,fun c a hr=>wp_seq (wp_mono (h1 c a hr) ?_),h2⟩
  rintro x a' w' ⟨rfl,hq⟩
  exact ⟨rfl,hq⟩
 | outgrown =>
  refine ⟨_,e1,m1,fun c a hr=>wp_seq (wp_mono (h1 c a hr) ?_),h2⟩
  rintro x a' w' ⟨rfl,hq⟩
  exact ⟨rfl,hq⟩
theorem LH.cond {x:Operand} {y z:Code} {t:Bool} (hx:dZ e x=.bool t) (h1:t=true→LH P N pr y Q e m) (h2:t=false→LH P N pr z Q e m):LH P N pr (.cond x y z) Q e m:=by
 cases t with
 | true =>
  obtain ⟨ex,e',m',h3,h4⟩:=h1 rfl
  refine ⟨ex,e',m',fun c a hr=>?_,h4⟩
  have:=hr.ev x
  rw [hx] at this
  simp only [ao] at this
  exact wp_cond_true this (h3 c a hr)
 | false =>
  obtain ⟨ex,e',m',h3,h4⟩:=h2 rfl
  refine ⟨ex,e',m',fun c a hr=>?_,h4⟩
  have:=hr.ev x
  rw [hx] at this
  simp only [ao] at this
  exact wp_cond_false this (h3 c a hr)
def nF (id:Nat) (Q:Exit→Env→Mem→Prop):Exit→Env→Mem→Prop
 | .exit j,e,m=>if j=id then Q .normal e m else Q (.exit j) e m
 | ex,e,m=>Q ex e m
theorem LH.block {id:Nat} {c:Code} (h:LH P N pr c (nF id Q) e m):LH P N pr (.block id c) Q e m:=by
 obtain ⟨ex,e1,m1,h1,h2⟩:=h
 have gen:∀ ZR,(∀ a w,∀ R:Act→World→Prop,R a w→Exit.inBlock id (fun x a w=>x=ZR∧R a w) ex a w)→Q ZR e1 m1→LH P N pr (.block id c) Q e m:=by
  intro ZR hb hq
  refine ⟨ZR,e1,m1,fun cx a hr=>wp_block (wp_mono (h1 cx a hr) ?_),hq⟩
  rintro x a' w' ⟨rfl,hh⟩
  exact hb a' w' (fun a' w'=>∃ c':Cx,c'.w=w'∧oh N c' e1 m1 a'∧Grow pr cx c') hh
 cases ex with
 | exit j =>
  by_cases hj:j=id
  ·subst hj
   simp only [nF,if_true] at h2
   exact gen .normal (fun a w R hR=>by simp [Exit.inBlock,hR]) h2
  ·simp only [nF,hj,if_false] at h2
   exact gen (.exit j) (fun a w R hR=>by simp [Exit.inBlock,hj,hR]) h2
 | normal=>exact gen _ (fun a w R hR=>⟨rfl,hR⟩) h2
 | goto l=>exact gen _ (fun a w R hR=>⟨rfl,hR⟩) h2
 | ret=>exact gen _ (fun a w R hR=>⟨rfl,hR⟩) h2
 | panic ch=>exact gen _ (fun a w R hR=>⟨rfl,hR⟩) h2
 | outgrown=>exact gen _ (fun a w R hR=>⟨rfl,hR⟩) h2
def vh (P:Program) (N:Nat) (pr:Nat→Prop) (c:Code) (ex:Exit) (e':Env) (m':Mem):Nat→Env→Mem→Prop
 | 0,e,m=>ex ≠ .normal∧og P N pr c e m ex e' m'
 | n+1,e,m=>∃ e1 m1,og P N pr c e m .normal e1 m1∧vh P N pr c ex e' m' n e1 m1
theorem vh.exec {c:Code} {ex:Exit} {n:Nat} (h:vh P N pr c ex e' m' n e m):og P N pr (.loop c) e m ex e' m':=by
 intro cx a hr
 refine wp_loop_ghost (fun k a w=>∃ e1 m1,∃ c1:Cx,vh P N pr c ex e' m' k e1 m1∧c1.w=w∧oh N c1 e1 m1 a∧Grow pr cx c1) n ⟨e,m,cx,h,rfl,hr,.refl pr cx⟩ ?_
 rintro k a w ⟨e1,m1,c1,hR,rfl,dI,Bg⟩
 cases k with
 | zero =>
  obtain ⟨eO,hx⟩:=hR
  refine wp_mono (hx c1 a dI) ?_
  rintro x a' w' ⟨rfl,c2,rfl,hr2,hg2⟩
  cases x <;> first | exact absurd rfl eO | exact ⟨rfl,c2,rfl,hr2,Bg.trans hg2⟩
 | succ k =>
  obtain ⟨e2,m2,hx,hR⟩:=hR
  refine wp_mono (hx c1 a dI) ?_
  rintro x a' w' ⟨rfl,c2,rfl,hr2,hg2⟩
  exact ⟨k,by omega,e2,m2,c2,hR,rfl,hr2,Bg.trans hg2⟩
theorem og.post {c:Code} {ex:Exit} {e2:Env} {m2:Mem} (h:og P N pr c e m ex e' m') (hw:Wk pr e' m' e2 m2):og P N pr c e m ex e2 m2:=by
 intro cx a hr
 refine wp_mono (h cx a hr) ?_
 rintro x a' w' ⟨hx,c1,rfl,dI,Bg⟩
 obtain ⟨c2,rL,hr2,hg2⟩:=hw N c1 a' dI
 exact ⟨hx,c2,rL,hr2,Bg.trans hg2⟩
def tl (pr:Nat→Prop) (I:Nat→Env→Mem→Prop) (n:Nat) (Q:Exit→Env→Mem→Prop):Exit→Env→Mem→Prop
 | .normal,e,m=>∃ e' m',Wk pr e m e' m'∧∃ k,k<n∧I k e' m'
 | ex,e,m=>Q ex e m
theorem LH.loop {c:Code} (I:Nat→Env→Mem→Prop) (n:Nat) (h0:I n e m) (h:∀ n e m,I n e m→LH P N pr c (tl pr I n Q) e m):LH P N pr (.loop c) Q e m:=by
 have key:∀ n e m,I n e m→∃ ex e' m' k,vh P N pr c ex e' m' k e m∧Q ex e' m':=by
  intro n
  induction n using Nat.strongRecOn with
  | _ n ih =>
   intro e m hI
   obtain ⟨ex,e1,m1,h1,h2⟩:=h n e m hI
   cases ex with
   | normal =>
    obtain ⟨e2,m2,hw,k,hk,hI2⟩:=h2
    obtain ⟨ex,e',m',j,hR,hQ⟩:=ih k hk e2 m2 hI2
    exact ⟨ex,e',m',j+1,⟨e2,m2,h1.post hw,hR⟩,hQ⟩
   | exit id=>exact ⟨_,e1,m1,0,⟨by simp,h1⟩,h2⟩
   | goto l=>exact ⟨_,e1,m1,0,⟨by simp,h1⟩,h2⟩
   | ret=>exact ⟨_,e1,m1,0,⟨by simp,h1⟩,h2⟩
   | panic ch=>exact ⟨_,e1,m1,0,⟨by simp,h1⟩,h2⟩
   | outgrown=>exact ⟨_,e1,m1,0,⟨by simp,h1⟩,h2⟩
 obtain ⟨ex,e',m',k,hR,hQ⟩:=key n e m h0
 exact ⟨ex,e',m',hR.exec,hQ⟩
theorem p9 {ops:Array Oper} {o:Oper} {c:Cx} {a:Act} (hr:oh N c e m a) (hd:∀ q ∈ ops,∀ i,q.dst=some i→i<N) {j:Nat} {want:Bool} (hg:o.guard=some (j,want)) {g:Nat} (hj:(ops[j]?).bind (·.dst)=some g) {t:Bool} (ht:e g=.bool t) :
  Region.wanted o (yielded ops a.tmps)=(t == want):=by
 have hv:=hr.env g
 rw [ht] at hv
 simp only [ao] at hv
 have hgN:g<N:=by
  cases hq:ops[j]? with
  | none=>simp [hq] at hj
  | some q=>simp [hq] at hj; exact hd q (Array.mem_of_getElem? hq) g hj
 have fE:g<a.tmps.size:=by rw [hr.size]; exact hgN
 have Lq:a.tmps[g]?=some (.bool t):=by
  rw [Array.getElem?_eq_getElem fE]
  simpa [fE] using hv
 simp [Region.wanted,hg,yielded,hj,Lq]
theorem ue {ops:Array Oper} {o:Oper} {c:Cx} {a:Act} (hr:oh N c e m a) (hd:∀ q ∈ ops,∀ i,q.dst=some i→i<N) {j:Nat} {want:Bool} (hg:o.guard=some (j,want)) {g:Nat} (hj:(ops[j]?).bind (·.dst)=some g) (ht:e g=.tup []) :
  Region.wanted o (yielded ops a.tmps)=false:=by
 have hv:=hr.env g
 rw [ht] at hv
 simp only [ao,aD] at hv
 obtain ⟨vs,hv,rfl⟩:=hv
 have hgN:g<N:=by
  cases hq:ops[j]? with
  | none=>simp [hq] at hj
  | some q=>simp [hq] at hj; exact hd q (Array.mem_of_getElem? hq) g hj
 have fE:g<a.tmps.size:=by rw [hr.size]; exact hgN
 have Lq:a.tmps[g]?=some (.tuple #[]):=by
  rw [Array.getElem?_eq_getElem fE]
  simpa [fE] using hv
 simp [Region.wanted,hg,yielded,hj,Lq]
theorem qU (c:Cx):ao c (.tup []) undef:=by
 simp only [ao,aD]
 exact ⟨[],rfl,rfl⟩
theorem BA {ro:List Nat} {ops:Array Oper} {o:Oper} {K:Env→Mem→Prop} (hd:∀ q ∈ ops,∀ i,q.dst=some i→i<N) (O0:∀ i,o.dst=some i→i<N) (h:He P pr ro ops o K e m) :
  ∃ lv m',K (e.gh o.dst lv) m'∧∀ (c:Cx) (a:Act) (R:Act→World→Prop) (Q:Exit→Act→World→Prop),oh N c e m a →
   (∀ a' (c':Cx),oh N c' (e.gh o.dst lv) m' a'→Step pr c c'→R a' c'.w) →
   if Region.wanted o (yielded ops a.tmps) then o.wp P a c.w R Q ∨ (o.asks P a c.w∧LetsOut Q) else R (a.put o.dst undef) c.w:=by
 have run:∀ (h:LOp P pr ro o (dZ e) m fun lv m'=>K (e.gh o.dst lv) m'),∃ lv m',K (e.gh o.dst lv) m'∧∀ (c:Cx) (a:Act) (R:Act→World→Prop) (Q:Exit→Act→World→Prop),oh N c e m a →
   (∀ a' (c':Cx),oh N c' (e.gh o.dst lv) m' a'→Step pr c c'→R a' c'.w)→o.wp P a c.w R Q:=by
  intro h
  obtain ⟨lv,m',hK,iD⟩:=kM h
  refine ⟨lv,m',hK,fun c a R Q hr hR=>?_⟩
  refine Oper.wp_mono ?_ (iD c a Q hr.ev hr.mem)
  rintro a' w' ⟨v,c',rfl,rfl,hv,kh,hs⟩
  exact hR _ c' (hr.put hs kh O0 hv) hs
 unfold He at h
 split at h
 ·rename_i hg
  obtain ⟨lv,m',hK,dD⟩:=run h
  refine ⟨lv,m',hK,fun c a R Q hr hR=>?_⟩
  rw [if_pos (by simp [Region.wanted,hg])]
  exact .inl (dD c a R Q hr hR)
 ·rename_i j want hg
  split at h
  ·rename_i g hj
   cases ht:e g <;> simp only [ht] at h
   case bool t =>
    split at h
    ·rename_i heq
     obtain ⟨lv,m',hK,dD⟩:=run h
     refine ⟨lv,m',hK,fun c a R Q hr hR=>?_⟩
     rw [p9 hr hd hg hj ht,if_pos (by simpa using heq)]
     exact .inl (dD c a R Q hr hR)
    ·rename_i eO
     refine ⟨.tup [],m,h,fun c a R Q hr hR=>?_⟩
     rw [p9 hr hd hg hj ht,if_neg (by simpa using eO)]
     exact hR _ c (hr.put (Step.refl pr c) hr.mem O0 (qU c)) (Step.refl pr c)
   case tup vs =>
    cases vs with
    | cons x xs=>exact h.elim
    | nil =>
     refine ⟨.tup [],m,h,fun c a R Q hr hR=>?_⟩
     rw [ue hr hd hg hj ht,if_neg (by simp)]
     exact hR _ c (hr.put (Step.refl pr c) hr.mem O0 (qU c)) (Step.refl pr c)
  ·cases h
def gX (N:Nat) (l:List Oper):Bool:=l.all fun o=>match o.dst with | some d=>decide (d<N) | .none=>true
theorem pN {l:List Oper} (h:gX N l=true):∀ q ∈ l.toArray,∀ i,q.dst=some i→i<N:=by
 intro q hq i hi
 have:=List.all_eq_true.1 h q (by simpa using hq)
 simpa [hi] using this
end rules
end Go.L
namespace Go.L
mutual
def LV.refs:LV→List Nat
 | .sptr cs=>LV.b6 cs
 | .arr i _=>[i]
 | .ptr i _=>[i]
 | .eptr i _ _ _=>[i]
 | .mp i=>[i]
 | .agg cs=>LV.b6 cs
 | .tup cs=>LV.b6 cs
 | .fn _ cs=>LV.b6 cs
 | .bfn _ cs=>LV.b6 cs
 | _=>[]
def LV.b6:List LV→List Nat
 | []=>[]
 | x :: xs=>x.refs++LV.b6 xs
end
mutual
theorem jB {id:Nat}:∀ (x:LV),x.bg id=false→id ∈ x.refs
 | .fp,h | .int _ _,h | .bool _,h | .nil,h | .slen _,h | .full _ _,h | .str _,h | .it _,h | .nilf,h | .nilp,h | .lst _ _,h=>by simp [LV.bg] at h
 | .sptr cs,h=>by simp only [LV.bg] at h; simp only [LV.refs]; exact dE cs h
 | .arr _ _,h | .ptr _ _,h | .eptr _ _ _ _,h | .mp _,h=>by simp [LV.bg] at h; simp [LV.refs,h]
 | .agg cs,h=>by simp only [LV.bg] at h; simp only [LV.refs]; exact dE cs h
 | .tup cs,h=>by simp only [LV.bg] at h; simp only [LV.refs]; exact dE cs h
 | .fn _ cs,h=>by simp only [LV.bg] at h; simp only [LV.refs]; exact dE cs h
 | .bfn _ cs,h=>by simp only [LV.bg] at h; simp only [LV.refs]; exact dE cs h
theorem dE {id:Nat}:∀ (xs:List LV),LV.cz id xs=false→id ∈ LV.b6 xs
 | [],h=>by simp [LV.cz] at h
 | x :: xs,h=>by
  simp only [LV.cz,Bool.and_eq_false_iff] at h
  simp only [LV.b6,List.mem_append]
  exact h.imp (jB x) (dE xs)
end
theorem cA.sub {c:Cx} {m:Mem} (h:cA c m) (m':Mem) (pe:∀ id,m' id=m id ∨ m' id=.none) (j3:∀ id le,m' id=some le→∀ j,le.jh j=false→m' j ≠ .none) :
  ∃ c':Cx,c'.w=c.w∧c'.O=c.O∧cA c' m'∧(∀ x v,(∀ j,x.bg j=false→m' j ≠ .none)→ao c x v→ao c' x v)∧(∀ b,c'.own b→c.own b)∧(∀ b,c.own b→(∀ id be,m' id ≠ .none→c.B id=some be→¬ be.has b)→¬ c'.own b)∧∀ id,m' id ≠ .none→c'.B id=c.B id:=by
 classical
 let c':Cx:=⟨c.w,fun id=>if m' id=.none then .none else c.B id,c.O⟩
 have hB:∀ id,m' id ≠ .none→c'.B id=c.B id:=fun id hi=>by simp [c',hi]
 have bt:∀ b,c'.own b→c.own b:=by
  rintro b ⟨id,be,h1,h2⟩
  by_cases hi:m' id=.none
  ·simp [c',hi] at h1
  ·rw [hB id hi] at h1; exact ⟨id,be,h1,h2⟩
 have hle:c.Le c':=⟨Nat.le_refl _,fun b _ hX=>⟨rfl,fun OP=>hX (OP.imp (fun h=>h) (bt b))⟩⟩
 have hV:∀ x v,(∀ j,x.bg j=false→m' j ≠ .none)→ao c x v→ao c' x v:=fun x v hr hv =>
  ao.mono hle x v (fun id bX=>by rw [hB id (hr id bX)]; exact jy.refl _) hv
 refine ⟨c',rfl,rfl,⟨fun id=>?_,?_,fun b ho=>h.kB b (bt b ho),h.xR⟩,hV,bt,?_,hB⟩
 ·by_cases hi:m' id=.none
  ·rw [hi]; simp [bo,c',hi]
  ·have he:=h.gY id
   rw [← (pe id).resolve_right hi] at he
   rw [hB id hi]
   cases hx:m' id with
   | none=>exact absurd hx hi
   | some le =>
    rw [hx] at he
    cases le with
    | box cs =>
     simp only [bo] at he ⊢
     obtain ⟨b,us,e,h1,h2,h3,h4⟩:=he
     exact ⟨b,us,e,h1,h2,aD.mono hle cs us (fun j hj=>by rw [hB j (j3 id _ hx j hj)]; exact jy.refl _) h3,h4⟩
    | arr e k xs =>
     simp only [bo] at he ⊢
     obtain ⟨u,us,h1,h0,h2,h3,h4,h5⟩:=he
     exact ⟨u,us,h1,h0,h2,aD.mono hle xs us (fun j hj=>by rw [az xs h5] at hj; cases hj) h3,h4,h5⟩
    | nest e k os xs =>
     simp only [bo] at he ⊢
     obtain ⟨u,us,bs,h1,h0,h2,h3,h4⟩:=he
     exact ⟨u,us,bs,h1,h0,h2,h3.mono hle (fun b _=>rfl),h4⟩
    | dm e k os xs i o id2 n2 =>
     simp only [bo] at he ⊢
     obtain ⟨u,us,bs,h1,h0,h2,h3,⟨ws,v,q1,q2,q3⟩,h4⟩:=he
     exact ⟨u,us,bs,h1,h0,h2,h3.mono hle (fun b _=>rfl),⟨ws,v,q1,q2,ao.mono hle (.arr id2 n2) v (fun j hj=>by rw [hB j (j3 id _ hx j hj)]; exact jy.refl _) q3⟩,h4⟩
    | dead=>simpa only [bo] using he
    | map kt vt es =>
     simp only [bo] at he ⊢
     obtain ⟨b,kP,ck,h1,h2,h3,h4,h5,h6,h7⟩:=he
     exact ⟨b,kP,ck,h1,h2,aD.mono hle _ _ (fun j hj=>by rw [az _ h5] at hj; cases hj) h3,aD.mono hle _ _ (fun j hj=>by rw [az _ h6] at hj; cases hj) h4,h5,h6,h7⟩
 ·intro i i' be ef b h1 h2 h3 h4
  by_cases hi:m' i=.none
  ·simp [c',hi] at h1
  ·by_cases fQ:m' i'=.none
   ·simp [c',fQ] at h2
   ·rw [hB i hi] at h1; rw [hB i' fQ] at h2; exact h.inj i i' be ef b h1 h2 h3 h4
 ·rintro b hob eO ⟨id,be,h1,h2⟩
  by_cases hi:m' id=.none
  ·simp [c',hi] at h1
  ·rw [hB id hi] at h1; exact eO id be hi h1 h2
def aQ (el:List (Nat × LV)) (ml:List (Nat × LE)):Bool :=
 (el.all fun p=>p.2.refs.all fun j=>ml.any fun q=>q.1 == j) && ml.all fun q=>match q.2 with
  | .box cs=>(LV.b6 cs).all fun j=>ml.any fun q=>q.1 == j
  | .arr _ _ _=>true
  | .map _ _ _=>true
  | .nest _ _ _ _=>true
  | .dm _ _ _ _ _ _ id2 _=>ml.any fun q=>q.1 == id2
  | .dead=>true
theorem ep {ml:List (Nat × LE)} {id:Nat} {le:LE} (h:Mem.of ml id=some le):(id,le) ∈ ml:=by
 induction ml with
 | nil=>simp [Mem.of] at h
 | cons p ml ih =>
  obtain ⟨d,v⟩:=p
  simp only [Mem.of] at h
  split at h
  ·rename_i hi; cases h; subst hi; simp
  ·exact List.mem_cons_of_mem _ (ih h)
theorem eX {ml:List (Nat × LE)} {id:Nat} (h:(ml.any fun q=>q.1 == id)=true):Mem.of ml id ≠ .none:=by
 induction ml with
 | nil=>simp at h
 | cons p ml ih =>
  obtain ⟨d,v⟩:=p
  simp only [Mem.of]
  by_cases hd:id=d
  ·simp [hd]
  ·simp only [hd,if_false]
   simp only [List.any_cons,Bool.or_eq_true,beq_iff_eq] at h
   exact ih (h.resolve_left (fun hh=>hd hh.symm))
theorem IT (el:List (Nat × LV)) (i:Nat):Env.of el i=.fp ∨ (i,Env.of el i) ∈ el:=by
 induction el with
 | nil=>exact .inl rfl
 | cons p el ih =>
  obtain ⟨d,v⟩:=p
  simp only [Env.of]
  by_cases hd:i=d
  ·subst hd; simp
  ·simp only [hd,if_false]
   exact ih.imp (fun h=>h) (List.mem_cons_of_mem _)
theorem Wk.cut {pr:Nat→Prop} {e:Env} {m:Mem} (el:List (Nat × LV)) (ml:List (Nat × LE)) (he:∀ p ∈ el,e p.1=p.2) (hm:∀ p ∈ ml,m p.1=some p.2) (hr:aQ el ml=true) (kA:∀ id,pr id→m id=.none ∨ Mem.of ml id ≠ .none):Wk pr e m (Env.of el) (Mem.of ml):=by
 intro N c a cn
 simp only [aQ,Bool.and_eq_true,List.all_eq_true] at hr
 obtain ⟨c',hw,hO,kh,hV,bt,_,hB⟩:=cn.mem.sub (Mem.of ml) (fun id=>by
   cases h:Mem.of ml id with
   | none=>exact .inr rfl
   | some le=>exact .inl (hm _ (ep h)).symm)
  (fun id le bX j hj=>by
   have h2:=hr.2 _ (ep bX)
   cases le with
   | box cs =>
    simp only [List.all_eq_true] at h2
    exact eX (h2 j (dE cs hj))
   | dm _ _ _ _ _ _ id2 _ =>
    simp only [LE.jh,bne_eq_false_iff_eq] at hj
    subst hj
    exact eX h2
   | _=>simp [LE.jh] at hj)
 refine ⟨c',hw,⟨fun i=>?_,kh,cn.size,cn.defers⟩,?_⟩
 ·rcases IT el i with h | h
  ·rw [h]; simp [ao]
  ·have h1:=he _ h
   simp only at h1
   refine hV _ _ (fun j hj=>eX (hr.1 _ h j (jB _ hj))) ?_
   rw [← h1]; exact cn.env i
 ·refine ⟨hO,by rw [hw],by rw [hw],by rw [hw],by rw [hw]; exact Nat.le_refl _,by rw [hw]; exact Nat.le_refl _,fun b _ _=>by rw [hw],fun b ho=>.inl (bt b ho),fun id be hp hb=>?_⟩
  have:Mem.of ml id ≠ .none:=by
   rcases kA id hp with h0 | h0
   ·have:=cn.mem.fresh h0; rw [this] at hb; cases hb
   ·exact h0
  exact ⟨be,by rw [hB id this]; exact hb,.refl be⟩
mutual
/-- a settled box: its IE aax IE of settled cells -/
def LV.dz (id:Nat) (cs:List LV):LV→LV
 | .ptr i o=>if i=id then .sptr (cs.drop o) else .ptr i o
 | .agg l=>.agg (LV.tI id cs l)
 | .tup l=>.tup (LV.tI id cs l)
 | .fn f l=>.fn f (LV.tI id cs l)
 | .bfn f l=>.bfn f (LV.tI id cs l)
 | .arr i n=>if i=id then .fp else .arr i n
 | .eptr i n j o=>if i=id then .fp else .eptr i n j o
 | .mp i=>if i=id then .fp else .mp i
 | .sptr l=>if LV.cz id l=true then .sptr l else .fp
 | x=>x
def LV.tI (id:Nat) (cs:List LV):List LV→List LV
 | []=>[]
 | x :: xs=>x.dz id cs :: LV.tI id cs xs
end
mutual
/-- a settled row: the slice over it ZQ a list -/
def LV.fy (id k:Nat) (xs:List LV):LV→LV
 | .arr i n=>if i=id then (if n=xs.length then .lst k xs else .fp) else .arr i n
 | .agg l=>.agg (LV.gz id k xs l)
 | .tup l=>.tup (LV.gz id k xs l)
 | .fn f l=>.fn f (LV.gz id k xs l)
 | .bfn f l=>.bfn f (LV.gz id k xs l)
 | .ptr i o=>if i=id then .fp else .ptr i o
 | .eptr i n j o=>if i=id then .fp else .eptr i n j o
 | .mp i=>if i=id then .fp else .mp i
 | .sptr l=>if LV.cz id l=true then .sptr l else .fp
 | x=>x
def LV.gz (id k:Nat) (xs:List LV):List LV→List LV
 | []=>[]
 | x :: l=>x.fy id k xs :: LV.gz id k xs l
end
def Mem.del (m:Mem) (id:Nat):Mem:=fun i=>if i=id then .none else m i
section BV
variable {c c':Cx} {id:Nat}
mutual
theorem BX {cs:List LV} (hV:∀ x v,x.bg id=true→ao c x v→ao c' x v) (hp:∀ o v,ao c (.ptr id o) v→ao c' (.sptr (cs.drop o)) v):∀ (x:LV) (v:Value),ao c x v→ao c' (x.dz id cs) v
 | .fp,v,h=>by simp [LV.dz,ao]
 | .int _ _,v,h=>by simp only [LV.dz]; exact hV _ _ (by simp [LV.bg]) h
 | .bool _,v,h=>by simp only [LV.dz]; exact hV _ _ (by simp [LV.bg]) h
 | .nil,v,h=>by simp only [LV.dz]; exact hV _ _ (by simp [LV.bg]) h
 | .slen _,v,h=>by simp only [LV.dz]; exact hV _ _ (by simp [LV.bg]) h
 | .full _ _,v,h=>by simp only [LV.dz]; exact hV _ _ (by simp [LV.bg]) h
 | .str _,v,h=>by simp only [LV.dz]; exact hV _ _ (by simp [LV.bg]) h
 | .it _,v,h=>by simp only [LV.dz]; exact hV _ _ (by simp [LV.bg]) h
 | .nilf,v,h=>by simp only [LV.dz]; exact hV _ _ (by simp [LV.bg]) h
 | .nilp,v,h=>by simp only [LV.dz]; exact hV _ _ (by simp [LV.bg]) h
 | .lst _ _,v,h=>by simp only [LV.dz]; exact hV _ _ (by simp [LV.bg]) h
 | .sptr _,v,h=>by
  simp only [LV.dz]
  split
  ·rename_i hn; exact hV _ _ (by simpa [LV.bg] using hn) h
  ·simp [ao]
 | .arr i n,v,h=>by
  simp only [LV.dz]
  split
  ·simp [ao]
  ·rename_i hi; exact hV _ _ (by simp [LV.bg,hi]) h
 | .ptr i o,v,h=>by
  simp only [LV.dz]
  split
  ·rename_i hi; subst hi; exact hp o v h
  ·rename_i hi; exact hV _ _ (by simp [LV.bg,hi]) h
 | .eptr i n j o,v,h=>by
  simp only [LV.dz]
  split
  ·simp [ao]
  ·rename_i hi; exact hV _ _ (by simp [LV.bg,hi]) h
 | .mp i,v,h=>by
  simp only [LV.dz]
  split
  ·simp [ao]
  ·rename_i hi; exact hV _ _ (by simp [LV.bg,hi]) h
 | .agg l,v,h=>by
  simp only [LV.dz,ao] at h ⊢
  obtain ⟨vs,rfl,hl⟩:=h
  exact ⟨vs,rfl,mY hV hp l vs hl⟩
 | .tup l,v,h=>by
  simp only [LV.dz,ao] at h ⊢
  obtain ⟨vs,rfl,hl⟩:=h
  exact ⟨vs,rfl,mY hV hp l vs hl⟩
 | .fn f l,v,h=>by
  simp only [LV.dz,ao] at h ⊢
  obtain ⟨vs,rfl,hl⟩:=h
  exact ⟨vs,rfl,mY hV hp l vs hl⟩
 | .bfn f l,v,h=>by
  simp only [LV.dz,ao] at h ⊢
  obtain ⟨vs,rfl,hl⟩:=h
  exact ⟨vs,rfl,mY hV hp l vs hl⟩
theorem mY {cs:List LV} (hV:∀ x v,x.bg id=true→ao c x v→ao c' x v) (hp:∀ o v,ao c (.ptr id o) v→ao c' (.sptr (cs.drop o)) v):∀ (xs:List LV) (vs:List Value),aD c xs vs→aD c' (LV.tI id cs xs) vs
 | [],vs,h=>by simpa only [LV.tI,aD] using h
 | x :: xs,vs,h=>by
  simp only [LV.tI,aD] at h ⊢
  obtain ⟨v,fD,rfl,h1,h2⟩:=h
  exact ⟨v,fD,rfl,BX hV hp x v h1,mY hV hp xs fD h2⟩
end
mutual
theorem BW {k:Nat} {xs:List LV} (hV:∀ x v,x.bg id=true→ao c x v→ao c' x v) (hp:∀ v,ao c (.arr id xs.length) v→ao c' (.lst k xs) v):∀ (x:LV) (v:Value),ao c x v→ao c' (x.fy id k xs) v
 | .fp,v,h=>by simp [LV.fy,ao]
 | .int _ _,v,h=>by simp only [LV.fy]; exact hV _ _ (by simp [LV.bg]) h
 | .bool _,v,h=>by simp only [LV.fy]; exact hV _ _ (by simp [LV.bg]) h
 | .nil,v,h=>by simp only [LV.fy]; exact hV _ _ (by simp [LV.bg]) h
 | .slen _,v,h=>by simp only [LV.fy]; exact hV _ _ (by simp [LV.bg]) h
 | .full _ _,v,h=>by simp only [LV.fy]; exact hV _ _ (by simp [LV.bg]) h
 | .str _,v,h=>by simp only [LV.fy]; exact hV _ _ (by simp [LV.bg]) h
 | .it _,v,h=>by simp only [LV.fy]; exact hV _ _ (by simp [LV.bg]) h
 | .nilf,v,h=>by simp only [LV.fy]; exact hV _ _ (by simp [LV.bg]) h
 | .nilp,v,h=>by simp only [LV.fy]; exact hV _ _ (by simp [LV.bg]) h
 | .lst _ _,v,h=>by simp only [LV.fy]; exact hV _ _ (by simp [LV.bg]) h
 | .sptr _,v,h=>by
  simp only [LV.fy]
  split
  ·rename_i hn; exact hV _ _ (by simpa [LV.bg] using hn) h
  ·simp [ao]
 | .arr i n,v,h=>by
  simp only [LV.fy]
  split
  ·rename_i hi
   split
   ·rename_i hn; subst hi; subst hn; exact hp v h
   ·simp [ao]
  ·rename_i hi; exact hV _ _ (by simp [LV.bg,hi]) h
 | .ptr i o,v,h=>by
  simp only [LV.fy]
  split
  ·simp [ao]
  ·rename_i hi; exact hV _ _ (by simp [LV.bg,hi]) h
 | .eptr i n j o,v,h=>by
  simp only [LV.fy]
  split
  ·simp [ao]
  ·rename_i hi; exact hV _ _ (by simp [LV.bg,hi]) h
 | .mp i,v,h=>by
  simp only [LV.fy]
  split
  ·simp [ao]
  ·rename_i hi; exact hV _ _ (by simp [LV.bg,hi]) h
 | .agg l,v,h=>by
  simp only [LV.fy,ao] at h ⊢
  obtain ⟨vs,rfl,hl⟩:=h
  exact ⟨vs,rfl,kQ hV hp l vs hl⟩
 | .tup l,v,h=>by
  simp only [LV.fy,ao] at h ⊢
  obtain ⟨vs,rfl,hl⟩:=h
  exact ⟨vs,rfl,kQ hV hp l vs hl⟩
 | .fn f l,v,h=>by
  simp only [LV.fy,ao] at h ⊢
  obtain ⟨vs,rfl,hl⟩:=h
  exact ⟨vs,rfl,kQ hV hp l vs hl⟩
 | .bfn f l,v,h=>by
  simp only [LV.fy,ao] at h ⊢
  obtain ⟨vs,rfl,hl⟩:=h
  exact ⟨vs,rfl,kQ hV hp l vs hl⟩
theorem kQ {k:Nat} {xs:List LV} (hV:∀ x v,x.bg id=true→ao c x v→ao c' x v) (hp:∀ v,ao c (.arr id xs.length) v→ao c' (.lst k xs) v):∀ (l:List LV) (vs:List Value),aD c l vs→aD c' (LV.gz id k xs l) vs
 | [],vs,h=>by simpa only [LV.gz,aD] using h
 | x :: l,vs,h=>by
  simp only [LV.gz,aD] at h ⊢
  obtain ⟨v,fD,rfl,h1,h2⟩:=h
  exact ⟨v,fD,rfl,BW hV hp x v h1,kQ hV hp l fD h2⟩
end
end BV
mutual
theorem rT {c:Cx} {j:Nat} (hB:c.B j=.none):∀ (x:LV) (v:Value),ao c x v→x.bg j=true
 | .fp,v,h | .int _ _,v,h | .bool _,v,h | .nil,v,h | .slen _,v,h | .full _ _,v,h | .str _,v,h | .it _,v,h | .nilf,v,h | .nilp,v,h | .lst _ _,v,h=>by simp [LV.bg]
 | .sptr cs,v,h=>by
  simp only [ao] at h
  obtain ⟨b,off,vs,_,_,_,hl,_⟩:=h
  simp only [LV.bg]; exact fX hB cs vs hl
 | .arr i n,v,h=>by
  simp only [ao] at h
  obtain ⟨_,u,k,len,ins,h1,_⟩:=h
  by_cases hi:i=j
  ·subst hi; rw [hB] at h1; cases h1
  ·simp [LV.bg,hi]
 | .ptr i o,v,h=>by
  simp only [ao] at h
  obtain ⟨b,n,h1,_⟩:=h
  by_cases hi:i=j
  ·subst hi; rw [hB] at h1; cases h1
  ·simp [LV.bg,hi]
 | .eptr i n q o,v,h=>by
  simp only [ao] at h
  obtain ⟨_,u,k,len,ins,h1,_⟩:=h
  by_cases hi:i=j
  ·subst hi; rw [hB] at h1; cases h1
  ·simp [LV.bg,hi]
 | .mp i,v,h=>by
  simp only [ao] at h
  obtain ⟨b,h1,_⟩:=h
  by_cases hi:i=j
  ·subst hi; rw [hB] at h1; cases h1
  ·simp [LV.bg,hi]
 | .agg l,v,h=>by
  simp only [ao] at h
  obtain ⟨vs,rfl,hl⟩:=h
  simp only [LV.bg]; exact fX hB l vs hl
 | .tup l,v,h=>by
  simp only [ao] at h
  obtain ⟨vs,rfl,hl⟩:=h
  simp only [LV.bg]; exact fX hB l vs hl
 | .fn f l,v,h=>by
  simp only [ao] at h
  obtain ⟨vs,rfl,hl⟩:=h
  simp only [LV.bg]; exact fX hB l vs hl
 | .bfn f l,v,h=>by
  simp only [ao] at h
  obtain ⟨vs,rfl,hl⟩:=h
  simp only [LV.bg]; exact fX hB l vs hl
theorem fX {c:Cx} {j:Nat} (hB:c.B j=.none):∀ (xs:List LV) (vs:List Value),aD c xs vs→LV.cz j xs=true
 | [],vs,h=>by simp [LV.cz]
 | x :: xs,vs,h=>by
  simp only [aD] at h
  obtain ⟨v,fD,rfl,h1,h2⟩:=h
  simp only [LV.cz,Bool.and_eq_true]
  exact ⟨rT hB x v h1,fX hB xs fD h2⟩
end
theorem A2 {c:Cx} {j:Nat} (hB:c.B j=.none) (x:LV) (v:Value) (h:ao c x v) (hx:x.bg j=false):False:=by
 rw [rT hB x v h] at hx; cases hx
theorem cA.del {c:Cx} {m:Mem} (h:cA c m) (id:Nat) (j3:∀ i le,i ≠ id→m i=some le→le.jh id=true) :
  ∃ c':Cx,c'.w=c.w∧c'.O=c.O∧cA c' (m.del id)∧(∀ x v,x.bg id=true→ao c x v→ao c' x v)∧(∀ b,c'.own b→c.own b)∧(∀ b be,c.B id=some be→be.has b→¬ c'.X b)∧∀ i,i ≠ id→c'.B i=c.B i:=by
 obtain ⟨c',hw,hO,kh,hV,bt,Wx,hB⟩:=h.sub (m.del id) (fun i=>by unfold Mem.del; split <;> simp) (fun i le hi j hj=>by
  unfold Mem.del at hi ⊢
  split at hi
  ·cases hi
  ·rename_i eO
   have Bh:j ≠ id:=fun he=>by subst he; rw [j3 i le eO hi] at hj; cases hj
   simp only [Bh,if_false]
   intro h0
   have he:=h.gY i
   rw [hi] at he
   have N8:=h.fresh h0
   cases le with
   | box cs =>
    simp only [bo] at he
    obtain ⟨b,us,e,_,_,hl,_⟩:=he
    obtain ⟨x,hx,hxr⟩:∃ x ∈ cs,x.bg j=false:=by
     have hn:LV.cz j cs=false:=hj
     rw [← Bool.not_eq_true,wm] at hn
     simp only [Classical.not_forall] at hn
     obtain ⟨x,hx,hxn⟩:=hn
     exact ⟨x,hx,by simpa using hxn⟩
    obtain ⟨q,hq⟩:=List.mem_iff_getElem?.1 hx
    obtain ⟨v,_,hv⟩:=hl.get hq
    exact A2 N8 x v hv hxr
   | dm _ _ _ _ _ _ id2 n2 =>
    simp only [bo] at he
    obtain ⟨_,_,_,_,_,_,_,⟨_,v,_,_,q3⟩,_⟩:=he
    exact A2 N8 _ v q3 hj
   | _=>simp [LE.jh] at hj)
 refine ⟨c',hw,hO,kh,fun x v hx hv=>hV x v (fun j hj=>?_) hv,bt,fun b be hb vH=>?_,fun i hi=>?_⟩
 ·have Bh:j ≠ id:=fun he=>by subst he; rw [hx] at hj; cases hj
  unfold Mem.del
  simp only [Bh,if_false]
  intro h0
  exact A2 (h.fresh h0) x v hv hj
 ·rintro (hO' | Bj)
  ·rw [hO] at hO'; exact h.kB b ⟨id,be,hb,vH⟩ hO'
  ·refine Wx b ⟨id,be,hb,vH⟩ (fun i ef hi OS OR=>?_) Bj
   have:=h.inj i id ef be b OS hb OR vH
   subst this
   unfold Mem.del at hi
   simp at hi
 ·by_cases h0:m.del id i=.none
  ·have h1:=kh.fresh h0
   have h2:m i=.none:=by unfold Mem.del at h0; simpa [hi] using h0
   rw [h1,h.fresh h2]
  ·exact hB i h0
def tH (id:Nat) (ml:List (Nat × LE)):Bool:=ml.all fun q=>q.1 == id || match q.2 with | .box cs=>LV.cz id cs | .arr _ _ _=>true | .map _ _ _=>true | .nest _ _ _ _=>true | .dm _ _ _ _ _ _ id2 _=>id2 != id | .dead=>true
theorem Mem.MO (ml:List (Nat × LE)) (id:Nat):(Mem.of ml).del id=Mem.of (ml.filter fun q=>q.1 != id):=by
 funext i
 unfold Mem.del
 induction ml with
 | nil=>simp [Mem.of]
 | cons p ml ih =>
  obtain ⟨d,v⟩:=p
  by_cases hd:d=id
  ·subst hd
   simp only [List.filter_cons,bne_self_eq_false,Bool.false_eq_true,if_false,← ih,Mem.of]
   split
   ·rfl
   ·rename_i hi; simp [hi]
  ·have:(d != id)=true:=by simpa using hd
   simp only [List.filter_cons,this,if_true,Mem.of]
   by_cases hi:i=id
   ·subst hi
    simp only [if_true] at ih ⊢
    rw [if_neg (fun h=>hd h.symm)]; exact ih
   ·simp only [hi,if_false] at ih ⊢
    split
    ·rfl
    ·exact ih
theorem Env.of_map (el:List (Nat × LV)) (f:LV→LV) (hf:f .fp=.fp):(fun i=>f (Env.of el i))=Env.of (el.map fun p=>(p.1,f p.2)):=by
 funext i
 induction el with
 | nil=>simpa [Env.of] using hf
 | cons p el ih =>
  obtain ⟨d,v⟩:=p
  simp only [Env.of,List.map_cons]
  split
  ·rfl
  ·exact ih
theorem o6 {id:Nat} {ml:List (Nat × LE)} (h:tH id ml=true):∀ i le,i ≠ id→Mem.of ml i=some le→le.jh id=true:=by
 intro i le hi hm
 have:=List.all_eq_true.1 h _ (ep hm)
 cases le with
 | box cs=>simpa [hi,LE.jh] using this
 | dm _ _ _ _ _ _ _ _=>simpa [hi,LE.jh] using this
 | _=>rfl
theorem Wk.dz {pr:Nat→Prop} {el:List (Nat × LV)} {ml:List (Nat × LE)} (id:Nat) (cs:List LV) (bX:Mem.of ml id=some (.box cs)) (hp:LV.bf cs=true) (na:tH id ml=true) (kA:¬ pr id) :
  Wk pr (Env.of el) (Mem.of ml) (Env.of (el.map fun p=>(p.1,p.2.dz id cs))) (Mem.of (ml.filter fun q=>q.1 != id)):=by
 intro N c a cn
 rw [← Env.of_map el (LV.dz id cs) (by simp [LV.dz]),← Mem.MO]
 obtain ⟨c',hw,hO,kh,hV,bt,hX,hB⟩:=cn.mem.del id (o6 na)
 obtain ⟨b,vs,e,I0,hh,hl,h1⟩:=kV cn.mem bX
 refine ⟨c',hw,⟨fun i=>BX hV ?_ _ _ (cn.env i),kh,cn.size,cn.defers⟩,?_⟩
 ·intro o v hv
  simp only [ao] at hv ⊢
  obtain ⟨b',n,kY,rfl⟩:=hv
  rw [I0] at kY
  cases kY
  have hra:=iZ (px hh) o
  simp only [Nat.zero_add] at hra
  refine ⟨b,o,vs.drop o,rfl,by rw [hw]; exact (Array.getElem?_eq_some_iff.1 hh).1,hX b _ I0 rfl,?_,fun y hy=>h1 y (List.mem_of_mem_drop hy),by rw [hw]; exact hra⟩
  have hle:c.Le c':=⟨by rw [hw]; exact Nat.le_refl _,fun b _ hx=>⟨by rw [hw],fun pR=>hx (pR.imp (fun h=>by rw [hO] at h; exact h) (bt b))⟩⟩
  exact (aD.mono hle cs vs (fun j hj=>by rw [az cs hp] at hj; cases hj) hl).drop o
 ·refine ⟨hO,by rw [hw],by rw [hw],by rw [hw],by rw [hw]; exact Nat.le_refl _,by rw [hw]; exact Nat.le_refl _,fun b _ _=>by rw [hw],fun b ho=>.inl (bt b ho),fun i be LF hb=>?_⟩
  exact ⟨be,by rw [hB i (fun h=>kA (h ▸ LF))]; exact hb,.refl be⟩
theorem Wk.fy {pr:Nat→Prop} {el:List (Nat × LV)} {ml:List (Nat × LE)} (id e k:Nat) (xs:List LV) (bX:Mem.of ml id=some (.arr e k xs)) (na:tH id ml=true) (kA:¬ pr id) :
  Wk pr (Env.of el) (Mem.of ml) (Env.of (el.map fun p=>(p.1,p.2.fy id k xs))) (Mem.of (ml.filter fun q=>q.1 != id)):=by
 intro N c a cn
 rw [← Env.of_map el (LV.fy id k xs) (by simp [LV.fy]),← Mem.MO]
 obtain ⟨c',hw,hO,kh,hV,bt,hX,hB⟩:=cn.mem.del id (o6 na)
 refine ⟨c',hw,⟨fun i=>BW hV ?_ _ _ (cn.env i),kh,cn.size,cn.defers⟩,?_⟩
 ·intro v hv
  obtain ⟨vs,I0,hk,pb,hl,hc,hp⟩:=gi cn.mem hv bX rfl
  simp only [ao]
  have hle:c.Le c':=⟨by rw [hw]; exact Nat.le_refl _,fun b _ hx=>⟨by rw [hw],fun pR=>hx (pR.imp (fun h=>by rw [hO] at h; exact h) (bt b))⟩⟩
  have pP:=aD.mono hle xs vs (fun j hj=>by rw [az xs hp] at hj; cases hj) hl
  rcases pb.2 with ⟨rfl,h0⟩ | ⟨g,cap,cur,rfl,_,hg,mG,_⟩
  ·exact ⟨.none,0,by rw [h0],by omega,fun _=>rfl,hp,.inl (List.eq_nil_of_length_eq_zero h0)⟩
  ·refine ⟨some ⟨g,0,.none⟩,cap,rfl,mG,by simp,hp,.inr ⟨g,0,vs,rfl,by rw [hw]; exact (Array.getElem?_eq_some_iff.1 hg).1,hX g _ I0 (.inl rfl),pP,hc,?_⟩⟩
   rw [hw]; exact gC pb rfl
 ·refine ⟨hO,by rw [hw],by rw [hw],by rw [hw],by rw [hw]; exact Nat.le_refl _,by rw [hw]; exact Nat.le_refl _,fun b _ _=>by rw [hw],fun b ho=>.inl (bt b ho),fun i be LF hb=>?_⟩
  exact ⟨be,by rw [hB i (fun h=>kA (h ▸ LF))]; exact hb,.refl be⟩
theorem Wk.own {pr:Nat→Prop} {el ig:List (Nat × LV)} {ml:List (Nat × LE)} (id e k:Nat) (bX:Mem.of ml id=.none) (hk:0<k)
  (uu:ig.length=el.length) (hh:∀ i:Nat,∀ p q,el[i]?=some p→ig[i]?=some q→q.1=p.1∧(q.2=p.2 ∨ (p.2=.nil∧q.2=.arr id 0))) :
  Wk pr (Env.of el) (Mem.of ml) (Env.of ig) (Mem.of ((id,.arr e k []) :: ml)):=by
 intro N c a cn
 have hB:=cn.mem.fresh bX
 obtain ⟨c',hw,hb,h2,h3⟩:=cn.mem.Bw (pr:=pr) id (.arr e k []) (.arr (.slice .none 0 0) k 0 []) c.w rfl rfl rfl (Nat.le_refl _) (Nat.le_refl _)
  (fun b _ _=>rfl) (fun b hb=>by simp [BE.has,Value.ownBlock] at hb) (by rw [hB]; trivial) (fun _ dA h0=>by rw [hB] at h0; cases h0)
  (fun c' hw hle hble=>by
   simp only [bo]
   exact ⟨.slice .none 0 0,[],rfl,hk,by rw [hw]; exact World.ownsRow_nil c.w 0 e k,by simp [aD],by simp,by simp [LV.bf]⟩)
 refine ⟨c',hw,⟨fun i=>?_,?_,cn.size,cn.defers⟩,h3.grow⟩
 ·have key:∀ (el ig:List (Nat × LV)),ig.length=el.length→(∀ i:Nat,∀ p q,el[i]?=some p→ig[i]?=some q→q.1=p.1∧(q.2=p.2 ∨ (p.2=.nil∧q.2=.arr id 0)))→Env.of ig i=Env.of el i ∨ (Env.of el i=.nil∧Env.of ig i=.arr id 0):=by
   intro el
   induction el with
   | nil=>intro ig hl _; have:ig=[]:=List.eq_nil_of_length_eq_zero (by simpa using hl); subst this; exact .inl rfl
   | cons p el ih =>
    intro ig hl hh
    cases ig with
    | nil=>simp at hl
    | cons q ig =>
     obtain ⟨h1,h2⟩:=hh 0 p q (by simp) (by simp)
     obtain ⟨d,v⟩:=p
     obtain ⟨d',v'⟩:=q
     simp only at h1 h2
     subst h1
     simp only [Env.of]
     split
     ·exact h2
     ·exact ih ig (by simpa using hl) (fun i p q hp hq=>hh (i+1) p q (by simpa using hp) (by simpa using hq))
  rcases key el ig uu hh with he | ⟨he,FB⟩
  ·rw [he]; exact h3.A4 (cn.env i)
  ·rw [FB]
   have:=cn.env i
   rw [he] at this
   simp only [ao] at this ⊢
   exact ⟨by rw [this]; rfl,_,_,_,_,hb,Nat.le_refl _,fun _=>this⟩
 ·have:(Mem.of ml).put id (.arr e k [])=Mem.of ((id,.arr e k []) :: ml):=rfl
  rw [← this]; exact h2
def Env.args (l:List LV):Env:=fun i=>l.getD i .fp
def jg (P:Program) (e:Env) (m:Mem):List ResultVar→(List LV→Prop)→Prop
 | [],K=>K []
 | .tmp t :: r,K=>jg P e m r fun l=>K (e t :: l)
 | .cell a t :: r,K=>match e a with
  | .ptr id o=>match m id with
   | some (.box cs)=>o≤cs.length∧loadC P t (cs.drop o) fun lv=>jg P e m r fun l=>K (lv :: l)
   | _=>False
  | .sptr cs=>loadC P t cs fun lv=>jg P e m r fun l=>K (lv :: l)
  | _=>False
def tk (tmps:Array Value):ResultVar→Sem Value
 | .tmp t=>pure (tmps.getD t undef)
 | .cell x t=>do loadVar t (← asAddr (tmps.getD x undef))
def oneOf:List LV→LV
 | [x]=>x
 | l=>.tup l
theorem nL {P:Program} {e:Env} {m:Mem}:∀ (rs:List ResultVar) (K:List LV→Prop),jg P e m rs K →
  ∃ l,K l∧∀ (N:Nat) (c:Cx) (a:Act),oh N c e m a→∃ vs,(rs.mapM (tk a.tmps)).run P c.w=.ok vs c.w∧aD c l vs
 | [],K,h=>⟨[],h,fun N c a hr=>⟨[],by simp,by simp [aD]⟩⟩
 | .tmp t :: r,K,h=>by
  simp only [jg] at h
  obtain ⟨l,hK,hl⟩:=nL r _ h
  refine ⟨_,hK,fun N c a hr=>?_⟩
  obtain ⟨vs,h1,h2⟩:=hl N c a hr
  refine ⟨a.tmps.getD t undef :: vs,by simp only [List.mapM_cons,Sem.run_bind,tk,Sem.run_pure,Result.andThen_ok,h1],?_⟩
  simp only [aD]
  exact ⟨_,_,rfl,hr.env t,h2⟩
 | .cell x t :: r,K,h=>by
  simp only [jg] at h
  have fin:∀ (cs:List LV),loadC P t cs (fun lv=>jg P e m r fun l=>K (lv :: l))→(∀ (N:Nat) (c:Cx) (a:Act),oh N c e m a→∃ b off vs,a.tmps.getD x undef=.pointer (some ⟨b,off,.none⟩)∧aD c cs vs∧c.w.rangeAt b off vs)→∃ l,K l∧∀ (N:Nat) (c:Cx) (a:Act),oh N c e m a→∃ vs,((ResultVar.cell x t :: r).mapM (tk a.tmps)).run P c.w=.ok vs c.w∧aD c l vs:=by
   intro cs h Si
   obtain ⟨lv,hK,hv⟩:=lK h
   obtain ⟨l,Ao,hl⟩:=nL r _ hK
   refine ⟨_,Ao,fun N c a hr=>?_⟩
   obtain ⟨b,off,us,he,rJ,hra⟩:=Si N c a hr
   obtain ⟨v,jj,hv2⟩:=hv c b off us rJ hra
   obtain ⟨vs,h1,h2⟩:=hl N c a hr
   have Wv:(loadVar t ⟨b,off,.none⟩).run P c.w=.ok v c.w:=by
    simpa [Instr.loadAt,Instr.sureAddr] using jj
   refine ⟨v :: vs,?_,by simp only [aD]; exact ⟨_,_,rfl,hv2,h2⟩⟩
   simp only [List.mapM_cons,tk,Sem.run_bind,he,asAddr,Sem.run_pure,Result.andThen_ok,Wv,h1]
  cases hx:e x <;> simp only [hx] at h
  case sptr cs =>
   refine fin cs h fun N c a hr=>?_
   have:=hr.env x
   rw [hx] at this
   simp only [ao] at this
   obtain ⟨b,off,vs,he,_,_,hl,_,hra⟩:=this
   exact ⟨b,off,vs,he,hl,hra⟩
  case ptr id o =>
   cases hm:m id with
   | none=>simp [hm] at h
   | some le =>
    cases le with
    | map _ _ _=>simp [hm] at h
    | nest _ _ _ _=>simp [hm] at h
    | dm _ _ _ _ _ _ _ _=>simp [hm] at h
    | dead=>simp [hm] at h
    | arr _ _ _=>simp [hm] at h
    | box cs =>
     simp only [hm] at h
     refine fin (cs.drop o) h.2 fun N c a hr=>?_
     obtain ⟨b,vs,q,hB,hh,hl,h1⟩:=kV hr.mem hm
     have:=hr.env x
     rw [hx] at this
     simp only [ao] at this
     obtain ⟨b',n,kY,he⟩:=this
     rw [hB] at kY
     cases kY
     have hra:=iZ (px hh) o
     simp only [Nat.zero_add] at hra
     exact ⟨b,o,_,he,hl.drop o,hra⟩
def GX (P:Program) (fn:Func) (pr:Nat→Prop) (R:LV→Mem→Prop):Exit→Env→Mem→Prop
 | .ret,e,m=>jg P e m fn.results.toList fun l=>∃ ml,(∀ p ∈ ml,m p.1=some p.2)∧aQ [(0,oneOf l)] ml=true∧(∀ id,pr id→m id=.none ∨ Mem.of ml id ≠ .none)∧R (oneOf l) (Mem.of ml)
 | .normal,e,m=>jg P e m fn.results.toList fun l=>∃ ml,(∀ p ∈ ml,m p.1=some p.2)∧aQ [(0,oneOf l)] ml=true∧(∀ id,pr id→m id=.none ∨ Mem.of ml id ≠ .none)∧R (oneOf l) (Mem.of ml)
 | _,_,_=>False
theorem aF.AK {P:Program} {f:Nat} {fn:Func} {code:Code} {args:List LV} {m:Mem} {R:LV→Mem→Prop} (hf:P.funcs[f]?=some fn) (hb:fn.body=some code) (hn:args.length≤fn.ntmps)
  (h:LH P fn.ntmps (fun id=>m id ≠ .none) code (GX P fn (fun id=>m id ≠ .none) R) (Env.args args) m):∃ lv m',aF P f args m lv m'∧R lv m':=by
 obtain ⟨ex,e',m1,hx,hq⟩:=h
 have main:(jg P e' m1 fn.results.toList fun l=>∃ ml,(∀ p ∈ ml,m1 p.1=some p.2)∧aQ [(0,oneOf l)] ml=true∧(∀ id,m id ≠ .none→m1 id=.none ∨ Mem.of ml id ≠ .none)∧R (oneOf l) (Mem.of ml))→(ex=.ret ∨ ex=.normal)→∃ lv m',aF P f args m lv m'∧R lv m':=by
  intro SU hex
  obtain ⟨l,⟨ml,h1,h2,h3,hR⟩,hl⟩:=nL _ _ SU
  refine ⟨oneOf l,Mem.of ml,fun c vs hm ha=>?_,hR⟩
  refine calls_of_wp hf hb ?_
  have hlen:=ha.length
  have cn:oh fn.ntmps c (Env.args args) m { tmps:=vs.toArray++Array.replicate (fn.ntmps - vs.toArray.size) undef,defers:=[] }:=by
   refine ⟨fun i=>?_,hm,by simp; omega,rfl⟩
   simp only [Env.args,List.getD_eq_getElem?_getD]
   cases hi:args[i]? with
   | none=>simp [ao]
   | some x =>
    obtain ⟨v,hv,hr⟩:=ha.get hi
    have uN:i<vs.length:=(List.getElem?_eq_some_iff.1 hv).1
    have:(vs.toArray++Array.replicate (fn.ntmps - vs.toArray.size) undef).getD i undef=v:=by
     rw [Array.getD_eq_getD_getElem?,Array.getElem?_append_left (by simpa using uN)]
     simp [hv]
    rw [this]; exact hr
  refine wp_mono (hx c _ cn) ?_
  rintro x a' w' ⟨rfl,c1,rfl,dI,Bg⟩
  obtain ⟨us,E0,rJ⟩:=hl _ c1 a' dI
  have LB:(results fn a'.tmps).run P c1.w=.ok (if h:us.toArray.size=1 then us.toArray[0] else .tuple us.toArray) c1.w:=by
   have e1:results fn a'.tmps=(do let vs ← fn.results.mapM (tk a'.tmps); pure (if h:vs.size=1 then vs[0] else .tuple vs)):=by
    unfold results
    congr 2
   rw [e1,Array.mapM_eq_mapM_toList]
   simp only [Sem.run_bind,Sem.run_map,E0,Result.andThen_ok,Sem.run_pure]
  have hrv:ao c1 (oneOf l) (if h:us.toArray.size=1 then us.toArray[0] else .tuple us.toArray):=by
   have hll:=rJ.length
   match l,us,rJ with
   | [],us,rJ=>simp only [aD] at rJ; subst rJ; simp [oneOf,ao,aD]
   | [x],us,rJ =>
    simp only [aD] at rJ
    obtain ⟨v,fD,rfl,hv,rfl⟩:=rJ
    simpa [oneOf] using hv
   | x :: y :: l,us,rJ =>
    have fE:¬ us.toArray.size=1:=by have:=rJ.length; simp at this ⊢; omega
    rw [dif_neg fE]
    simp only [oneOf,ao]
    exact ⟨us,rfl,rJ⟩
  obtain ⟨c2,rL,⟨Lp,mE,_,_⟩,hg2⟩:=Wk.cut (pr:=fun id=>m id ≠ .none) (e:=Env.of [(0,oneOf l)]) (m:=m1) [(0,oneOf l)] ml (by simp [Env.of]) h1 h2 (fun id hp=>h3 id hp) 1 c1 { tmps:=#[if h:us.toArray.size=1 then us.toArray[0] else .tuple us.toArray],defers:=[] }
   ⟨fun i=>by
    by_cases hi:i=0
    ·subst hi; simpa [Env.of] using hrv
    ·simp [Env.of,hi,ao],dI.mem,rfl,rfl⟩
  have hv2:=Lp 0
  simp only [Env.of,if_true] at hv2
  have Ce:a'.defers=[]∧∃ v,(results fn a'.tmps).run P c1.w=.ok v c1.w∧∃ v' c',Ending.returned v=.returned v'∧c'.w=c1.w∧cA c' (Mem.of ml)∧ao c' (oneOf l) v'∧Grow (fun id=>m id ≠ .none) c c' :=
   ⟨dI.defers,_,LB,_,c2,rfl,rL,mE,by simpa using hv2,Bg.trans hg2⟩
  rcases hex with rfl | rfl
  ·exact Ce
  ·exact Ce
 cases ex with
 | ret=>exact main hq (.inl rfl)
 | normal=>exact main hq (.inr rfl)
 | _=>exact hq.elim
def ve (P:Program) (f:Nat) (args:List LV) (lv:LV):Prop:=aF P f args Mem.none lv Mem.none
theorem Mem.y4 (m:Mem):m.over Mem.none=m:=by funext i; rfl
theorem Er {c:Cx} {i j:Nat} {le:LE} (hp:(match le with | .box cs=>LV.bf cs | .arr _ _ _=>true | .map _ _ _=>true | .nest _ _ _ _=>true | .dm _ _ _ _ _ _ _ _=>false | .dead=>true)=true) (hm:cA c (Mem.of [(i,le)])) :
  ∃ c':Cx,c'.w=c.w∧c'.O=c.O∧cA c' (Mem.of [(j,le)])∧c'.B j=c.B i∧(∀ b,c'.own b→c.own b):=by
 let c':Cx:=⟨c.w,fun k=>if k=j then c.B i else .none,c.O⟩
 have bt:∀ b,c'.own b→c.own b:=by
  rintro b ⟨k,be,h1,h2⟩
  simp only [c'] at h1
  split at h1
  ·exact ⟨i,be,h1,h2⟩
  ·cases h1
 have hle:c.Le c':=⟨Nat.le_refl _,fun b _ hX=>⟨rfl,fun OP=>hX (OP.imp (fun h=>h) (bt b))⟩⟩
 refine ⟨c',rfl,rfl,⟨fun k=>?_,?_,fun b ho=>hm.kB b (bt b ho),hm.xR⟩,by simp [c'],bt⟩
 ·by_cases hk:k=j
  ·subst hk
   have he:=hm.gY i
   have hb:c'.B k=c.B i:=by simp [c']
   rw [hb]
   simp only [Mem.of,if_true] at he ⊢
   cases le with
   | box cs =>
    simp only [bo] at he ⊢
    obtain ⟨b,us,e,h1,h2,h3,h4⟩:=he
    exact ⟨b,us,e,h1,h2,aD.mono hle cs us (fun q hq=>by rw [az cs hp] at hq; cases hq) h3,h4⟩
   | arr e k' xs =>
    simp only [bo] at he ⊢
    obtain ⟨u,us,h1,h0,h2,h3,h4,h5⟩:=he
    exact ⟨u,us,h1,h0,h2,aD.mono hle xs us (fun q hq=>by rw [az xs h5] at hq; cases hq) h3,h4,h5⟩
   | nest e k' os xs =>
    simp only [bo] at he ⊢
    obtain ⟨u,us,bs,h1,h0,h2,h3,h4⟩:=he
    exact ⟨u,us,bs,h1,h0,h2,h3.mono hle (fun b _=>rfl),h4⟩
   | dm _ _ _ _ _ _ _ _=>cases hp
   | dead=>simpa only [bo] using he
   | map kt vt es =>
    simp only [bo] at he ⊢
    obtain ⟨b,kP,ck,h1,h2,h3,h4,h5,h6,h7⟩:=he
    exact ⟨b,kP,ck,h1,h2,aD.mono hle _ _ (fun j hj=>by rw [az _ h5] at hj; cases hj) h3,aD.mono hle _ _ (fun j hj=>by rw [az _ h6] at hj; cases hj) h4,h5,h6,h7⟩
  ·simp [Mem.of,hk,bo,c']
 ·intro k k' be ef b h1 h2 h3 h4
  simp only [c'] at h1 h2
  split at h1
  ·rename_i hk
   split at h2
   ·rename_i J8; rw [hk,J8]
   ·cases h2
  ·cases h1
theorem aF.JK {P:Program} {f:Nat} {args:List LV} {i o:Nat} {le:LE} (j:Nat) (hp:(match le with | .box cs=>LV.bf cs | .arr _ _ _=>true | .map _ _ _=>true | .nest _ _ _ _=>true | .dm _ _ _ _ _ _ _ _=>false | .dead=>true)=true) (h:aF P f args Mem.none (.ptr i o) (Mem.of [(i,le)])):aF P f args Mem.none (.ptr j o) (Mem.of [(j,le)]):=by
 intro c vs hm ha
 refine (h c vs hm ha).mono ?_
 rintro en w' ⟨v,c1,rfl,rfl,mr,jj,hg⟩
 obtain ⟨c2,hw,hO,mE,hB,bt⟩:=Er (j:=j) hp mr
 refine ⟨v,c2,rfl,hw,mE,?_,⟨by rw [hO,hg.O],by rw [hw]; exact hg.os,by rw [hw]; exact hg.tape,by rw [hw]; exact hg.output,by rw [hw]; exact hg.drawn,by rw [hw]; exact hg.size,fun b hb ho=>by rw [hw]; exact hg.keep b hb ho,fun b ho=>hg.own b (bt b ho),fun id be hp=>absurd rfl hp⟩⟩
 simp only [ao] at jj ⊢
 rw [hB]; exact jj
theorem ve.VN {P:Program} {f:Nat} {args:List LV} {lv:LV} (h:ve P f args lv) (hp:LV.bf args=true) (m:Mem) {K:LV→Mem→Prop} (hK:K lv m):Hd P f args m K:=by
 refine ⟨lv,Mem.none,Mem.none,h,fun id bX=>absurd rfl bX,fun id _ bX=>absurd rfl bX,fun id bX=>?_,(fun id cs bX=>by cases bX),by rw [Mem.y4]; exact hK⟩
 rw [az args hp] at bX; cases bX
theorem ve.calls {P:Program} {f:Nat} {args:List LV} {lv:LV} (h:ve P f args lv) (w:World) (vs:List Value) (ha:aD ⟨w,fun _=>.none,fun _=>False⟩ args vs) :
  Calls P f vs.toArray w fun en w'=>(∃ v c',en=.returned v∧c'.w=w'∧ao c' lv v)∧RowKit.Below w.heap.size w w':=by
 have hm:cA ⟨w,fun _=>.none,fun _=>False⟩ Mem.none :=
  ⟨fun id=>rfl,fun i i' be ef b h1=>by simp at h1,fun b ho=>fun h=>h,fun b h=>h.elim⟩
 refine (h _ vs hm ha).mono ?_
 rintro en w' ⟨v,c',he,rfl,_,hv,hg⟩
 refine ⟨⟨v,c',he,rfl,hv⟩,hg.os,hg.tape,hg.output,hg.size,fun b hb=>hg.keep b hb ?_⟩
 rintro ⟨id,be,h1,_⟩
 simp at h1
end Go.L
namespace Go.L
section
variable {P:Program} {N:Nat} {pr:Nat→Prop} {ro:List Nat} {ops:Array Oper} {e:Env} {m:Mem} {ev:Operand→LV} {d:Option Nat} {ty:TypeId} {pos:String} {af:Array Edge} {g:Option (Nat × Bool)}
theorem qw (op:Op) (j:Nat) (want:Bool) (K:Env→Mem→Prop):He P pr ro ops ⟨d,op,ty,pos,af,some (j,want)⟩ K e m=match (ops[j]?).bind (·.dst) with
  | some q=>match e q with
   | .bool t=>if t=want then LOp P pr ro ⟨d,op,ty,pos,af,some (j,want)⟩ (dZ e) m fun lv m'=>K (e.gh d lv) m' else K (e.gh d (.tup [])) m
   | .tup []=>K (e.gh d (.tup [])) m
   | _=>False
  | .none=>False:=rfl
section ops
variable {K:LV→Mem→Prop}
@[go_sem] theorem LOp_move (x:Operand):LOp P pr ro ⟨d,.move x,ty,pos,af,g⟩ ev m K=K (ev x) m:=rfl
@[go_sem] theorem LOp_assign (x:Operand):LOp P pr ro ⟨d,.assign x,ty,pos,af,g⟩ ev m K=K (ev x) m:=rfl
@[go_sem] theorem LOp_pick (c a b:Operand):LOp P pr ro ⟨d,.pick c a b,ty,pos,af,g⟩ ev m K=match ev c with | .bool t=>K (if t then ev a else ev b) m | _=>False:=rfl
@[go_sem] theorem LOp_alloc (t:TypeId) (i:Nat):LOp P pr ro ⟨some i,.alloc t,ty,pos,af,g⟩ ev m K=match tzero P t with
  | some z=>m (100+i)=.none∧K (.ptr (100+i) 0) (m.put (100+i) (.box z.cells))
  | .none=>False:=by
 simp only [LOp]; cases tzero P t <;> rfl
@[go_sem] theorem LOp_box (t:TypeId) (x:Operand) (i:Nat):LOp P pr ro ⟨some i,.box t x,ty,pos,af,g⟩ ev m K=((ev x).cells.all LV.scalar=true ∧
      if ro.contains i=true then K (.sptr (ev x).cells) m
      else m (100+i)=.none∧K (.ptr (100+i) 0) (m.put (100+i) (.box (ev x).cells))):=rfl
@[go_sem] theorem LOp_build (t:TypeId) (l:List (Nat × Operand)):LOp P pr ro ⟨d,.build t l.toArray,ty,pos,af,g⟩ ev m K=(tbuild P t=true∧match tzero P t with
  | some (.agg z)=>match oo P t z (l.map fun p=>(p.1,ev p.2)) with
   | some cs=>K (.agg cs) m
   | .none=>False
  | _=>False):=rfl
@[go_sem] theorem LOp_buildSlice (t:TypeId) (len:Nat) (l:List (Nat × Operand)):LOp P pr ro ⟨d,.buildSlice t len l.toArray,ty,pos,af,g⟩ ev m K=match telem P t with
  | some e=>fP P e=true∧len * tsize P e≤16777216∧l.map (·.1)=List.range len∧tO (tsize P e) (l.map fun p=>ev p.2)∧K (.lst (tsize P e) (l.map fun p=>ev p.2)) m
  | .none=>False:=rfl
@[go_sem] theorem LOp_load (t:TypeId) (a:Operand):LOp P pr ro ⟨d,.load t a,ty,pos,af,g⟩ ev m K=match ev a with
  | .sptr cs=>loadC P t cs fun lv=>K lv m
  | .ptr id o=>match m id with
   | some (.box cs)=>o≤cs.length∧loadC P t (cs.drop o) fun lv=>K lv m
   | _=>False
  | .eptr id n i o=>match m id with
   | some (.arr _ _ xs)=>n=xs.length∧∃ x,xs[i]?=some x∧x.cells.all LV.scalar=true∧o≤x.cells.length∧loadC P t (x.cells.drop o) fun lv=>K lv m
   | _=>False
  | _=>False:=rfl
@[go_sem] theorem LOp_store (t:TypeId) (a x:Operand):LOp P pr ro ⟨d,.store t a x,ty,pos,af,g⟩ ev m K=((ev x).cells.all LV.scalar=true∧tok P t=true∧tsize P t=(ev x).cells.length∧match ev a with
  | .ptr id o=>match m id with
   | some (.box cs)=>o+(ev x).cells.length≤cs.length∧K .fp (m.put id (.box (rep cs o (ev x).cells)))
   | _=>False
  | .eptr id n i o=>match m id with
   | some (.arr e k xs)=>n=xs.length∧LV.bf (ev x).cells=true∧∃ y z,xs[i]?=some y∧Ex y o (ev x)=some z∧K .fp (m.put id (.arr e k (xs.set i z)))
   | _=>False
  | _=>False):=rfl
@[go_sem] theorem LOp_nilCheck (x:Operand):LOp P pr ro ⟨d,.nilCheck x,ty,pos,af,g⟩ ev m K=match ev x with
  | .ptr _ _=>K (ev x) m
  | .sptr _=>K (ev x) m
  | .eptr id n _ _=>(match m id with | some (.arr _ _ xs)=>n=xs.length | _=>False)∧K (ev x) m
  | .fn _ _=>K (ev x) m
  | _=>False:=rfl
@[go_sem] theorem LOp_binOp (op:BinOp) (t t':TypeId) (x y:Operand):LOp P pr ro ⟨d,.binOp op t x y t',ty,pos,af,g⟩ ev m K=match ev x,ev y with
  | .int k a,.int k' b=>k=k'∧qM op k a b fun lv=>K lv m
  | .bool a,.bool b=>EL P t=true∧(match op with | .eql=>K (.bool (a == b)) m | .neq=>K (.bool (!(a == b))) m | _=>False)
  | .agg xs,.agg ys=>∃ b,rk P t xs ys b∧(match op with | .eql=>K (.bool b) m | .neq=>K (.bool (!b)) m | _=>False)
  | _,_=>False:=rfl
@[go_sem] theorem LOp_not (t:TypeId) (x:Operand):LOp P pr ro ⟨d,.unOp .not t x,ty,pos,af,g⟩ ev m K=match ev x with
  | .bool b=>K (.bool (!b)) m
  | _=>False:=by
 simp only [LOp]; cases ev x <;> rfl
@[go_sem] theorem LOp_convert (s t:TypeId) (x:Operand):LOp P pr ro ⟨d,.convert s t x,ty,pos,af,g⟩ ev m K=(tok P s=true∧match tint P t,ev x with
  | some k,.int _ n=>K (.int k (k.wrap n)) m
  | _,_=>False):=rfl
@[go_sem] theorem LOp_slice (t:TypeId) (x:Operand) (lo hi mx:Option Operand):LOp P pr ro ⟨d,.slice t x lo hi mx,ty,pos,af,g⟩ ev m K=((telem P t).isSome=true∧tok P ((telem P t).getD 0)=true∧mx=.none∧match ev x with
  | .lst k xs=>some k=(telem P t).map (tsize P)∧∃ l h:Nat,(match lo with | .none=>l=0 | some y=>ev y=.int .i64 l)∧(match hi with | .none=>h=xs.length | some y=>ev y=.int .i64 h) ∧
    l≤h∧h≤xs.length∧K (.lst k ((xs.take h).drop l)) m
  | .nil=>(match lo with | .none=>True | some y=>ev y=.int .i64 0)∧(match hi with | .none=>True | some y=>ev y=.int .i64 0)∧K .nil m
  | _=>False):=rfl
@[go_sem] theorem LOp_fieldAddr (t:TypeId) (x:Operand) (f:Nat):LOp P pr ro ⟨d,.fieldAddr t x f,ty,pos,af,g⟩ ev m K=match tfield P t f with
  | some (off,ft)=>tok P ft=true∧tsize P ft ≠ 0∧match ev x with
   | .sptr cs=>off≤cs.length∧K (.sptr (cs.drop off)) m
   | .ptr id o=>K (.ptr id (o+off)) m
   | .eptr id n i o=>(match m id with | some (.arr _ _ xs)=>n=xs.length | _=>False)∧K (.eptr id n i (o+off)) m
   | _=>False
  | .none=>False:=rfl
@[go_sem] theorem LOp_indexAddr (t:TypeId) (x i:Operand):LOp P pr ro ⟨d,.indexAddr t x i,ty,pos,af,g⟩ ev m K=match telem P t,ev x,ev i with
  | some e,.lst k xs,.int _ n=>tok P e=true∧k=tsize P e∧0≤n∧∃ y,xs[n.toNat]?=some y∧y.cells.all LV.scalar=true∧K (.sptr y.cells) m
  | some e,.arr id l,.int _ n=>match m id with
   | some (.arr _ k xs)=>tok P e=true∧l=xs.length∧k=tsize P e∧0≤n∧n<l∧K (.eptr id l n.toNat 0) m
   | _=>False
  | _,_,_=>False:=rfl
@[go_sem] theorem LOp_extract (t:Operand) (i:Nat):LOp P pr ro ⟨d,.extract t i,ty,pos,af,g⟩ ev m K=match ev t with
  | .tup vs=>∃ v,vs[i]?=some v∧K v m
  | _=>False:=rfl
@[go_sem] theorem LOp_makeFunc (f:Nat) (cap:List Operand):LOp P pr ro ⟨d,.makeFunc (.func f) #[] cap.toArray,ty,pos,af,g⟩ ev m K=K (.fn f (cap.map ev)) m:=by
 simp [LOp]
@[go_sem] theorem LOp_makeSlice (t:TypeId) (l c:Operand) (i:Nat):LOp P pr ro ⟨some i,.makeSlice t l c,ty,pos,af,g⟩ ev m K=match telem P t,tzero P ((telem P t).getD 0),ev l,ev c,some i with
  | some e,some z,.int .i64 n,.int .i64 n',some d=>n=n'∧0≤n∧n≤549755813888∧fP P e=true∧z.pure=true∧m (100+d)=.none ∧
    K (.arr (100+d) n.toNat) (m.put (100+d) (.arr e (tsize P e) (List.replicate n.toNat z)))
  | _,_,_,_,_=>False:=rfl
@[go_sem] theorem LOp_len (x:Operand) (t:TypeId):LOp P pr ro ⟨d,.call ⟨.builtin .len,#[x],#[t]⟩,ty,pos,af,g⟩ ev m K=((telem P t).isSome=true∧match ev x with
        | .lst _ xs=>K (.int .i64 xs.length) m
        | .nil=>K (.int .i64 0) m
        | .arr id n=>(match m id with | some (.arr _ _ xs)=>n=xs.length | _=>False)∧K (.int .i64 n) m
        | _=>False):=rfl
def BF (P:Program) (pr:Nat→Prop) (m:Mem) (i e:Nat) (x:LV) (K:LV→Mem→Prop) (ys:List LV):Prop :=
 match x with
 | .arr id n=>¬ pr id∧match m id with
  | some (.arr e' k xs)=>e'=e∧k=tsize P e∧n=xs.length∧xs.length+ys.length≤549755813888∧K (.arr id (n+ys.length)) (m.put id (.arr e k (xs++ys)))
  | _=>False
 | .nil=>m (100+i)=.none∧ys.length≤549755813888∧K (.arr (100+i) ys.length) (m.put (100+i) (.arr e (tsize P e) ys))
 | _=>False
attribute [go_sem] BF
@[go_sem] theorem LOp_append (x y:Operand) (t t':TypeId) (i:Nat):LOp P pr ro ⟨some i,.call ⟨.builtin .append,#[x,y],#[t,t']⟩,ty,pos,af,g⟩ ev m K=(t=t'∧match telem P t with
        | some e=>fP P e=true∧match ev y with
          | .lst k ys=>k=tsize P e∧BF P pr m i e (ev x) K ys
          | .nil=>BF P pr m i e (ev x) K []
          | _=>False
        | .none=>False):=by
  have h0:LOp P pr ro ⟨some i,.call ⟨.builtin .append,#[x,y],#[t,t']⟩,ty,pos,af,g⟩ ev m K=(t=t'∧match telem P t with
        | some e=>fP P e=true∧∃ ys,(ev y=.lst (tsize P e) ys ∨ (ev y=.nil∧ys=[]))∧BF P pr m i e (ev x) K ys
        | .none=>False):=rfl
  rw [h0]
  cases telem P t with
  | none=>rfl
  | some e =>
    simp only
    congr 2
    cases hy:ev y <;> simp
    case lst k ys =>
      constructor
      · rintro ⟨zs,⟨rfl,rfl⟩,h⟩; exact ⟨rfl,h⟩
      · rintro ⟨rfl,h⟩; exact ⟨ys,⟨rfl,rfl⟩,h⟩
@[go_sem] theorem LOp_call (x:Operand) (l:List Operand) (ts:Array TypeId):LOp P pr ro ⟨d,.call ⟨.value x,l.toArray,ts⟩,ty,pos,af,g⟩ ev m K=match ev x with
      | .fn f cap => (∃ fn, P.funcs[f]? = some fn ∧ (fn.name == "runtime.NumGoroutine") = false ∧ fn.body.isNone = false) ∧ Hd P f (l.map ev ++ cap) m K
      | _=>False:=rfl
end ops
attribute [go_sem] LV.refs LV.b6 LV.cells qM rep oo LV.scalar LV.pure LV.bf Ki AJ Ex jg oneOf List.all_cons List.all_nil List.map_cons List.map_nil List.drop_zero List.drop_succ_cons List.drop_nil List.take_succ_cons List.take_zero List.take_nil List.length_cons List.length_nil List.nil_append List.cons_append List.getElem?_cons_zero List.getElem?_cons_succ Bool.and_true Bool.true_and Bool.and_self List.getD_cons_zero List.getD_cons_succ List.getD_nil
@[go_sem] theorem loadC_def (t:TypeId) (cs:List LV) (K:LV→Prop):loadC P t cs K=(tok P t=true∧if tagg P t=true then tsize P t≤cs.length∧K (.agg (cs.take (tsize P t))) else match cs with | x :: _=>K x | []=>False):=rfl
def kc (m:Mem):List (Nat × LE)→Prop
 | []=>True
 | (i,v) :: r=>m i=some v∧kc m r
theorem kc.all:∀ {l:List (Nat × LE)},kc m l→∀ p ∈ l,m p.1=some p.2
 | [],_,p,hp=>by cases hp
 | (i,v) :: r,h,p,hp=>by
  rcases List.mem_cons.1 hp with rfl | hp
  ·exact h.1
  ·exact kc.all h.2 p hp
theorem LH.mid {x y:Code} {Q:Exit→Env→Mem→Prop} (M:Env→Mem→Prop) (h1:LH P N pr x (EM M Q) e m) (h2:∀ e m,M e m→LH P N pr y Q e m):LH P N pr (.seq x y) Q e m :=
 LH.seq (h1.mono fun ex e m h=>by cases ex <;> first | exact h2 e m h | exact h)
theorem aF.Ql {f:Nat} {args:List LV} {lv:LV} {ml eD:List (Nat × LE)} {K:LV→Mem→Prop} (h:aF P f args (Mem.of ml) lv (Mem.of eD)) (hm:kc m ml) (oG:∀ p ∈ eD,(ml.any fun q=>q.1 == p.1)=true ∨ m p.1=.none) (hargs:aQ (args.map fun x=>(0,x)) ml=true) (hK:K lv (m.over (Mem.of eD))):Hd P f args m K:=by
 simp only [aQ,Bool.and_eq_true,List.all_eq_true] at hargs
 refine ⟨lv,_,_,h,fun i hi=>?_,fun i hi fQ=>?_,fun i hi=>?_,fun i cs hi j hj=>?_,hK⟩
 ·cases hq:Mem.of ml i with
  | none=>exact absurd hq hi
  | some le=>exact hm.all _ (ep hq)
 ·cases hq:Mem.of eD i with
  | none=>exact absurd hq fQ
  | some le =>
   rcases oG _ (ep hq) with h1 | h1
   ·exact absurd hi (eX h1)
   ·exact h1
 ·have key:∀ (l:List LV),LV.cz i l=false→∃ x ∈ l,i ∈ x.refs:=by
   intro l
   induction l with
   | nil=>intro h; simp [LV.cz] at h
   | cons x l ih =>
    intro h
    simp only [LV.cz,Bool.and_eq_false_iff] at h
    rcases h with h | h
    ·exact ⟨x,by simp,jB x h⟩
    ·obtain ⟨y,hy,hr⟩:=ih h
     exact ⟨y,by simp [hy],hr⟩
  obtain ⟨x,hx,hr⟩:=key args hi
  exact eX (hargs.1 (0,x) (List.mem_map.2 ⟨x,hx,rfl⟩) i hr)
 ·have h2:=hargs.2 _ (ep hi)
  cases cs with
  | box cs =>
   simp only [List.all_eq_true] at h2
   exact eX (h2 j (dE cs hj))
  | dm _ _ _ _ _ _ id2 _ =>
   simp only [LE.jh,bne_eq_false_iff_eq] at hj
   subst hj
   exact eX h2
  | _=>simp [LE.jh] at hj
end
end Go.L
namespace Go.L
section
variable {P:Program} {N:Nat} {pr:Nat→Prop} {ro:List Nat} {o:Oper} {ev OL:Operand→LV} {m:Mem} {K:LV→Mem→Prop}
theorem pU {t:TypeId} {cs:List LV} {K:LV→Prop} (h:loadC P t cs K):∃ lv,K lv∧∀ K':LV→Prop,K' lv→loadC P t cs K':=by
 obtain ⟨ht,h⟩:=h
 by_cases hg:tagg P t=true
 ·rw [if_pos hg] at h
  exact ⟨_,h.2,fun K' hK=>⟨ht,by rw [if_pos hg]; exact ⟨h.1,hK⟩⟩⟩
 ·rw [if_neg hg] at h
  match cs,h with
  | x :: cs,h=>exact ⟨x,h,fun K' hK=>⟨ht,by rw [if_neg hg]; exact hK⟩⟩
theorem FY {op:BinOp} {k:IntKind} {a b:Int} {K:LV→Prop} (h:qM op k a b K):∃ lv,K lv∧∀ K':LV→Prop,K' lv→qM op k a b K':=by
 cases op <;> simp only [qM] at h ⊢ <;> first | exact h.elim | exact ⟨_,h,fun K' hK=>hK⟩ | exact ⟨_,h.2,fun K' hK=>⟨h.1,hK⟩⟩
theorem CH {m:Mem} {id:Nat} {x:LE}:m.put id x ≠ Mem.none:=fun h=>by
 have:=congrFun h id
 simp [Mem.put,Mem.none] at this
theorem Af (h:LOp P pr ro o ev m K):∃ lv m',K lv m'∧(∀ K':LV→Mem→Prop,K' lv m'→LOp P pr ro o ev m K')∧(m=Mem.none→m'=Mem.none→∀ m0,∀ K':LV→Mem→Prop,K' lv m0→LOp P pr ro o ev m0 K'):=by
 have plain:∀ lv,K lv m→(∀ m0,∀ K':LV→Mem→Prop,K' lv m0→LOp P pr ro o ev m0 K')→∃ lv m',K lv m'∧(∀ K':LV→Mem→Prop,K' lv m'→LOp P pr ro o ev m K')∧(m=Mem.none→m'=Mem.none→∀ m0,∀ K':LV→Mem→Prop,K' lv m0→LOp P pr ro o ev m0 K') :=
  fun lv hK oB=>⟨lv,m,hK,fun K' Ao=>oB m K' Ao,fun _ _=>oB⟩
 have reader:∀ lv,K lv m→(∀ K':LV→Mem→Prop,K' lv m→LOp P pr ro o ev m K')→(m=Mem.none→False)→∃ lv m',K lv m'∧(∀ K':LV→Mem→Prop,K' lv m'→LOp P pr ro o ev m K')∧(m=Mem.none→m'=Mem.none→∀ m0,∀ K':LV→Mem→Prop,K' lv m0→LOp P pr ro o ev m0 K') :=
  fun lv hK oB hn=>⟨lv,m,hK,oB,fun h0=>(hn h0).elim⟩
 have writer:∀ lv id x,K lv (m.put id x)→(∀ K':LV→Mem→Prop,K' lv (m.put id x)→LOp P pr ro o ev m K')→∃ lv m',K lv m'∧(∀ K':LV→Mem→Prop,K' lv m'→LOp P pr ro o ev m K')∧(m=Mem.none→m'=Mem.none→∀ m0,∀ K':LV→Mem→Prop,K' lv m0→LOp P pr ro o ev m0 K') :=
  fun lv id x hK oB=>⟨lv,_,hK,oB,fun _ h0=>absurd h0 CH⟩
 obtain ⟨d,op,ty,pos,af,g⟩:=o
 cases op
 case move x=>exact plain _ h fun m0 K' hK=>hK
 case assign x=>exact plain _ h fun m0 K' hK=>hK
 case pick c a b =>
  simp only [LOp] at h
  cases hc:ev c <;> simp only [hc] at h
  case bool t=>exact plain _ h fun m0 K' hK=>by simp only [LOp,hc]; exact hK
 case alloc t =>
  simp only [LOp] at h
  split at h
  ·rename_i z i hz
   exact writer _ _ _ h.2 fun K' hK=>by simp only [LOp,hz]; exact ⟨h.1,hK⟩
  ·cases h
 case box t x =>
  simp only [LOp] at h
  split at h
  ·rename_i i
   obtain ⟨hs,h⟩:=h
   split at h
   ·rename_i xU
    exact plain _ h fun m0 K' hK=>by simp only [LOp]; exact ⟨hs,by rw [if_pos xU]; exact hK⟩
   ·rename_i xU
    exact writer _ _ _ h.2 fun K' hK=>by simp only [LOp]; exact ⟨hs,by rw [if_neg xU]; exact ⟨h.1,hK⟩⟩
  ·cases h
 case build t parts =>
  simp only [LOp] at h
  obtain ⟨Vh,h⟩:=h
  split at h
  ·rename_i z hz
   split at h
   ·rename_i cs hf
    exact plain _ h fun m0 K' hK=>by simp only [LOp,hz,hf]; exact ⟨Vh,hK⟩
   ·cases h
  ·cases h
 case buildSlice t len parts =>
  simp only [LOp] at h
  cases mH:telem P t <;> simp only [mH] at h
  case some e =>
   obtain ⟨h1,h2,h3,h4,hK⟩:=h
   exact plain _ hK fun m0 K' hK=>by simp only [LOp,mH]; exact ⟨h1,h2,h3,h4,hK⟩
 case load t a =>
  simp only [LOp] at h
  cases hx:ev a <;> simp only [hx] at h
  case sptr cs =>
   obtain ⟨lv,hK,hl⟩:=pU h
   exact plain lv hK fun m0 K' Ao=>by simp only [LOp,hx]; exact hl _ Ao
  case ptr id o =>
   cases hm:m id with
   | none=>simp [hm] at h
   | some le =>
    cases le with
    | map _ _ _=>simp [hm] at h
    | nest _ _ _ _=>simp [hm] at h
    | dm _ _ _ _ _ _ _ _=>simp [hm] at h
    | dead=>simp [hm] at h
    | arr e k xs=>simp [hm] at h
    | box cs =>
     simp only [hm] at h
     obtain ⟨ho,h⟩:=h
     obtain ⟨lv,hK,hl⟩:=pU h
     exact reader lv hK (fun K' Ao=>by simp only [LOp,hx,hm]; exact ⟨ho,hl _ Ao⟩) (fun h0=>by rw [h0] at hm; cases hm)
  case eptr id n i o =>
   cases hm:m id with
   | none=>simp [hm] at h
   | some le =>
    cases le with
    | map _ _ _=>simp [hm] at h
    | nest _ _ _ _=>simp [hm] at h
    | dm _ _ _ _ _ _ _ _=>simp [hm] at h
    | dead=>simp [hm] at h
    | box cs=>simp [hm] at h
    | arr e k xs =>
     simp only [hm] at h
     obtain ⟨h1,x,h2,h3,h4,h⟩:=h
     obtain ⟨lv,hK,hl⟩:=pU h
     exact reader lv hK (fun K' Ao=>by simp only [LOp,hx,hm]; exact ⟨h1,x,h2,h3,h4,hl _ Ao⟩) (fun h0=>by rw [h0] at hm; cases hm)
 case store t a x =>
  simp only [LOp] at h
  obtain ⟨h1,h2,h3,h⟩:=h
  cases hx:ev a <;> simp only [hx] at h
  case ptr id o =>
   cases hm:m id with
   | none=>simp [hm] at h
   | some le =>
    cases le with
    | map _ _ _=>simp [hm] at h
    | nest _ _ _ _=>simp [hm] at h
    | dm _ _ _ _ _ _ _ _=>simp [hm] at h
    | dead=>simp [hm] at h
    | arr e k xs=>simp [hm] at h
    | box cs =>
     simp only [hm] at h
     exact writer _ _ _ h.2 fun K' hK=>by simp only [LOp,hx,hm]; exact ⟨h1,h2,h3,h.1,hK⟩
  case eptr id n i o =>
   cases hm:m id with
   | none=>simp [hm] at h
   | some le =>
    cases le with
    | map _ _ _=>simp [hm] at h
    | nest _ _ _ _=>simp [hm] at h
    | dm _ _ _ _ _ _ _ _=>simp [hm] at h
    | dead=>simp [hm] at h
    | box cs=>simp [hm] at h
    | arr e k xs =>
     simp only [hm] at h
     obtain ⟨h4,h5,y,z,h6,h7,hK⟩:=h
     exact writer _ _ _ hK fun K' hK=>by simp only [LOp,hx,hm]; exact ⟨h1,h2,h3,h4,h5,y,z,h6,h7,hK⟩
 case nilCheck x =>
  simp only [LOp] at h
  cases hx:ev x <;> simp only [hx] at h
  case ptr=>exact plain _ h fun m0 K' hK=>by simp only [LOp,hx]; exact hK
  case sptr=>exact plain _ h fun m0 K' hK=>by simp only [LOp,hx]; exact hK
  case fn=>exact plain _ h fun m0 K' hK=>by simp only [LOp,hx]; exact hK
  case eptr id n i o =>
   obtain ⟨h1,hK⟩:=h
   refine reader _ hK (fun K' hK=>by simp only [LOp,hx]; exact ⟨h1,hK⟩) (fun h0=>?_)
   rw [h0] at h1; simp [Mem.none] at h1
 case binOp op t x y t' =>
  simp only [LOp] at h
  cases hx:ev x <;> simp only [hx] at h
  case int k a =>
   cases hy:ev y <;> simp only [hy] at h
   case int k' b =>
    obtain ⟨h1,h⟩:=h
    obtain ⟨lv,hK,hl⟩:=FY h
    exact plain lv hK fun m0 K' Ao=>by simp only [LOp,hx,hy]; exact ⟨h1,hl _ Ao⟩
  case bool a =>
   cases hy:ev y <;> simp only [hy] at h
   case bool b =>
    obtain ⟨h1,h⟩:=h
    cases op <;> simp only [] at h
    case eql=>exact plain _ h fun m0 K' hK=>by simp only [LOp,hx,hy]; exact ⟨h1,hK⟩
    case neq=>exact plain _ h fun m0 K' hK=>by simp only [LOp,hx,hy]; exact ⟨h1,hK⟩
  case agg xs =>
   cases hy:ev y <;> simp only [hy] at h
   case agg ys =>
    obtain ⟨b,h1,h⟩:=h
    cases op <;> simp only [] at h
    case eql=>exact plain _ h fun m0 K' hK=>by simp only [LOp,hx,hy]; exact ⟨b,h1,hK⟩
    case neq=>exact plain _ h fun m0 K' hK=>by simp only [LOp,hx,hy]; exact ⟨b,h1,hK⟩
 case unOp op t x =>
  simp only [LOp] at h
  cases op <;> cases hx:ev x <;> simp only [hx] at h
  case neg.int=>exact plain _ h fun m0 K' hK=>by simp only [LOp,hx]; exact hK
  case not.bool=>exact plain _ h fun m0 K' hK=>by simp only [LOp,hx]; exact hK
 case convert s t x =>
  simp only [LOp] at h
  obtain ⟨h1,h⟩:=h
  cases ht:tint P t <;> simp only [ht] at h
  case some k =>
   cases hx:ev x <;> simp only [hx] at h
   case int=>exact plain _ h fun m0 K' hK=>by simp only [LOp,ht,hx]; exact ⟨h1,hK⟩
 case slice t x lo hi mx =>
  simp only [LOp] at h
  obtain ⟨h1,h2,h3,h⟩:=h
  cases hx:ev x <;> simp only [hx] at h
  case lst k xs =>
   obtain ⟨h4,l,q,h5,h6,h7,h8,hK⟩:=h
   exact plain _ hK fun m0 K' hK=>by simp only [LOp,hx]; exact ⟨h1,h2,h3,h4,l,q,h5,h6,h7,h8,hK⟩
  case nil =>
   obtain ⟨h5,h6,hK⟩:=h
   exact plain _ hK fun m0 K' hK=>by simp only [LOp,hx]; exact ⟨h1,h2,h3,h5,h6,hK⟩
 case fieldAddr t x f =>
  simp only [LOp] at h
  cases pQ:tfield P t f <;> simp only [pQ] at h
  case some q =>
   obtain ⟨off,ft⟩:=q
   obtain ⟨h1,h2,h⟩:=h
   cases hx:ev x <;> simp only [hx] at h
   case sptr cs=>exact plain _ h.2 fun m0 K' hK=>by simp only [LOp,pQ,hx]; exact ⟨h1,h2,h.1,hK⟩
   case ptr=>exact plain _ h fun m0 K' hK=>by simp only [LOp,pQ,hx]; exact ⟨h1,h2,hK⟩
   case eptr id n i o =>
    obtain ⟨h3,hK⟩:=h
    refine reader _ hK (fun K' hK=>by simp only [LOp,pQ,hx]; exact ⟨h1,h2,h3,hK⟩) (fun h0=>?_)
    rw [h0] at h3; simp [Mem.none] at h3
 case field t x f =>
  simp only [LOp] at h
  cases pQ:tfield P t f <;> simp only [pQ] at h
  case some q =>
   obtain ⟨off,ft⟩:=q
   cases hx:ev x <;> simp only [hx] at h
   case agg cs =>
    obtain ⟨h1,h⟩:=h
    obtain ⟨lv,hK,hl⟩:=pU h
    exact plain lv hK fun m0 K' Ao=>by simp only [LOp,pQ,hx]; exact ⟨h1,hl _ Ao⟩
 case indexAddr t x i =>
  simp only [LOp] at h
  cases mH:telem P t <;> simp only [mH] at h
  case some e =>
   cases hx:ev x <;> simp only [hx] at h
   case lst k xs =>
    cases hi:ev i <;> simp only [hi] at h
    case int ki n =>
     obtain ⟨h1,h2,h3,y,h4,h5,hK⟩:=h
     exact plain _ hK fun m0 K' hK=>by simp only [LOp,mH,hx,hi]; exact ⟨h1,h2,h3,y,h4,h5,hK⟩
   case arr id l =>
    cases hi:ev i <;> simp only [hi] at h
    case int ki n =>
     cases hm:m id with
     | none=>simp [hm] at h
     | some le =>
      cases le with
      | map _ _ _=>simp [hm] at h
      | nest _ _ _ _=>simp [hm] at h
      | dm _ _ _ _ _ _ _ _=>simp [hm] at h
      | dead=>simp [hm] at h
      | box cs=>simp [hm] at h
      | arr e' k xs =>
       simp only [hm] at h
       obtain ⟨h1,h2,h3,h4,h5,hK⟩:=h
       exact reader _ hK (fun K' hK=>by simp only [LOp,mH,hx,hi,hm]; exact ⟨h1,h2,h3,h4,h5,hK⟩) (fun h0=>by rw [h0] at hm; cases hm)
 case extract t i =>
  simp only [LOp] at h
  cases hx:ev t <;> simp only [hx] at h
  case tup vs =>
   obtain ⟨v,h1,hK⟩:=h
   exact plain _ hK fun m0 K' hK=>by simp only [LOp,hx]; exact ⟨v,h1,hK⟩
 case makeFunc f first cap =>
  simp only [LOp] at h
  cases f <;> simp only [] at h
  case func f=>exact plain _ h.2 fun m0 K' hK=>by simp only [LOp]; exact ⟨h.1,hK⟩
 case makeSlice t l c =>
  simp only [LOp] at h
  split at h
  ·rename_i e z n n' i mH hz hx hy
   obtain ⟨h1,h2,h3,h4,h5,h6,hK⟩:=h
   refine writer _ _ _ hK fun K' hK=>?_
   rw [mH] at hz
   simp only [LOp,mH,hz,hx,hy]
   exact ⟨h1,h2,h3,h4,h5,h6,hK⟩
  ·cases h
 case call c =>
  obtain ⟨callee,args,UQ⟩:=c
  cases callee
  case value x =>
   simp only [LOp] at h
   cases hx:ev x <;> simp only [hx] at h
   case fn f cap =>
    obtain ⟨Z0,lv,mc,jb,hc,h1,h2,h3,h4,hK⟩:=h
    refine ⟨lv,_,hK,fun K' Ao=>by simp only [LOp,hx]; exact ⟨Z0,lv,mc,jb,hc,h1,h2,h3,h4,Ao⟩,fun qG kh m0 K' Ao=>?_⟩
    subst qG
    have e1:mc=Mem.none:=by
     funext id
     cases hq:mc id with
     | none=>rfl
     | some le=>have:=h1 id (by simp [hq]); rw [hq] at this; cases this
    have e2:jb=Mem.none:=by
     funext id
     have:=congrFun kh id
     unfold Mem.over at this
     cases hq:jb id with
     | none=>rfl
     | some le=>simp [hq,Mem.none] at this
    subst e1; subst e2
    simp only [LOp,hx]
    exact ⟨Z0,lv,Mem.none,Mem.none,hc,fun id bX=>absurd rfl bX,fun id _ bX=>absurd rfl bX,h3,h4,by rw [Mem.y4]; exact Ao⟩
  case builtin b =>
   cases b
   case len =>
    simp only [LOp] at h
    split at h
    ·rename_i x t hargs yg
     obtain ⟨h1,h⟩:=h
     cases hx:ev x <;> simp only [hx] at h
     case lst=>exact plain _ h fun m0 K' hK=>by simp only [LOp,hargs,yg,hx]; exact ⟨h1,hK⟩
     case nil=>exact plain _ h fun m0 K' hK=>by simp only [LOp,hargs,yg,hx]; exact ⟨h1,hK⟩
     case arr id n =>
      obtain ⟨h2,hK⟩:=h
      refine reader _ hK (fun K' hK=>by simp only [LOp,hargs,yg,hx]; exact ⟨h1,h2,hK⟩) (fun h0=>?_)
      rw [h0] at h2; simp [Mem.none] at h2
    ·cases h
   case append =>
    simp only [LOp] at h
    split at h
    ·rename_i x y t t' hargs yg
     obtain ⟨h1,h⟩:=h
     cases mH:telem P t <;> simp only [mH] at h
     case some e =>
      obtain ⟨h2,ys,h3,h⟩:=h
      cases hx:ev x <;> simp only [hx] at h
      case arr id n =>
       obtain ⟨h4,h⟩:=h
       cases hm:m id with
       | none=>simp [hm] at h
       | some le =>
        cases le with
        | map _ _ _=>simp [hm] at h
        | nest _ _ _ _=>simp [hm] at h
        | dm _ _ _ _ _ _ _ _=>simp [hm] at h
        | dead=>simp [hm] at h
        | box cs=>simp [hm] at h
        | arr e' k xs =>
         simp only [hm] at h
         obtain ⟨h5,h6,h7,h8,hK⟩:=h
         exact writer _ _ _ hK fun K' hK=>by simp only [LOp,hargs,yg,mH,hx,hm]; exact ⟨h1,h2,ys,h3,h4,h5,h6,h7,h8,hK⟩
      case nil =>
       cases d <;> simp only [] at h
       case some i =>
        obtain ⟨h5,h6,hK⟩:=h
        exact writer _ _ _ hK fun K' hK=>by simp only [LOp,hargs,yg,mH,hx]; exact ⟨h1,h2,ys,h3,h5,h6,hK⟩
    ·cases h
   all_goals exact h.elim
  all_goals exact h.elim
 all_goals exact h.elim
theorem pF (bG:∀ x ∈ o.op.operands,ev x=OL x) (h:LOp P pr ro o ev m K):LOp P pr ro o OL m K:=by
 obtain ⟨d,op,ty,pos,af,g⟩:=o
 have adi:∀ l:List (Nat × Operand),(∀ x ∈ l.map (·.2),ev x=OL x)→(l.map fun p=>ev p.2)=l.map fun p=>OL p.2:=fun l hl =>
  List.map_congr_left fun p hp=>hl _ (List.mem_map.2 ⟨p,hp,rfl⟩)
 have XQ:∀ l:List (Nat × Operand),(∀ x ∈ l.map (·.2),ev x=OL x)→(l.map fun p=>(p.1,ev p.2))=l.map fun p=>(p.1,OL p.2):=fun l hl =>
  List.map_congr_left fun p hp=>by rw [hl _ (List.mem_map.2 ⟨p,hp,rfl⟩)]
 cases op <;> simp only [Op.operands] at bG
 case build t parts=>simp only [LOp] at h ⊢; rw [← XQ parts.toList (fun x hx=>bG x (by simpa using hx))]; exact h
 case buildSlice t n parts=>simp only [LOp] at h ⊢; rw [← adi parts.toList (fun x hx=>bG x (by simpa using hx))]; exact h
 case makeFunc f first cap =>
  simp only [LOp] at h ⊢
  cases f <;> simp only [] at h ⊢
  case func f=>rw [← List.map_congr_left (f:=ev) (g:=OL) (l:=cap.toList) (fun x hx=>bG x (by simp at hx ⊢; exact .inr hx))]; exact h
 case slice t x lo hi mx =>
  have hx:=bG x (by simp)
  cases lo with
  | none =>
   cases hi with
   | none=>simp only [LOp] at h ⊢; rw [← hx]; exact h
   | some q=>have hq:=bG q (by simp); simp only [LOp] at h ⊢; rw [← hx,← hq]; exact h
  | some r =>
   have hr:=bG r (by simp)
   cases hi with
   | none=>simp only [LOp] at h ⊢; rw [← hx,← hr]; exact h
   | some q=>have hq:=bG q (by simp); simp only [LOp] at h ⊢; rw [← hx,← hr,← hq]; exact h
 case move x=>simp only [LOp] at h ⊢; rw [← bG x (by simp)]; exact h
 case assign x=>simp only [LOp] at h ⊢; rw [← bG x (by simp)]; exact h
 case pick x y z=>simp only [LOp] at h ⊢; rw [← bG x (by simp),← bG y (by simp),← bG z (by simp)]; exact h
 case alloc t=>simp only [LOp] at h ⊢; exact h
 case box t x=>simp only [LOp] at h ⊢; rw [← bG x (by simp)]; exact h
 case load t x=>simp only [LOp] at h ⊢; rw [← bG x (by simp)]; exact h
 case store t x y=>simp only [LOp] at h ⊢; rw [← bG x (by simp),← bG y (by simp)]; exact h
 case nilCheck x=>simp only [LOp] at h ⊢; rw [← bG x (by simp)]; exact h
 case binOp op t x y t'=>simp only [LOp] at h ⊢; rw [← bG x (by simp),← bG y (by simp)]; exact h
 case unOp op t x=>simp only [LOp] at h ⊢; rw [← bG x (by simp)]; exact h
 case convert s t x=>simp only [LOp] at h ⊢; rw [← bG x (by simp)]; exact h
 case fieldAddr t x f=>simp only [LOp] at h ⊢; rw [← bG x (by simp)]; exact h
 case field t x f=>simp only [LOp] at h ⊢; rw [← bG x (by simp)]; exact h
 case indexAddr t x y=>simp only [LOp] at h ⊢; rw [← bG x (by simp),← bG y (by simp)]; exact h
 case extract x i=>simp only [LOp] at h ⊢; rw [← bG x (by simp)]; exact h
 case makeSlice t x y=>simp only [LOp] at h ⊢; rw [← bG x (by simp),← bG y (by simp)]; exact h
 case call c =>
  obtain ⟨callee,args,UQ⟩:=c
  have hargs:args.toList.map ev=args.toList.map OL:=List.map_congr_left fun x hx=>bG x (by simp [Call.operands]; exact .inr (by simpa using hx))
  cases callee
  case value x =>
   simp only [LOp] at h ⊢
   rw [← bG x (by simp [Call.operands]),← hargs]; exact h
  case builtin b =>
   cases b <;> simp only [LOp] at h ⊢
   case len =>
    split at h
    ·rename_i x t hx ht
     rw [← bG x (by simp [Call.operands]; rw [← Array.mem_toList_iff,hx]; simp)]; exact h
    ·cases h
   case append =>
    split at h
    ·rename_i x y t t' hx ht
     rw [← bG x (by simp [Call.operands]; rw [← Array.mem_toList_iff,hx]; simp),← bG y (by simp [Call.operands]; rw [← Array.mem_toList_iff,hx]; simp)]; exact h
    ·cases h
  all_goals exact h.elim
 all_goals exact h.elim
end
end Go.L
namespace Go.L
section
variable {P:Program} {N:Nat} {pr:Nat→Prop} {ro:List Nat} {ops:Array Oper}
def bI (P:Program) (pr:Nat→Prop) (o:Oper) (ev:Operand→LV) (m:Mem) (lv:LV) (m':Mem):Prop :=
 ∀ (c:Cx) (a:Act) (Q:Exit→Act→World→Prop),(∀ x ∈ o.op.operands,ao c (ev x) (a.eval x))→cA c m →
  o.wp P a c.w (fun a' w'=>∃ v c',a'=a.put o.dst v∧c'.w=w'∧ao c' lv v∧cA c' m'∧Step pr c c') Q
def gd (ops:Array Oper) (o:Oper) (e:Env):Option Bool :=
 match o.guard with
 | .none=>some true
 | some (j,want)=>match (ops[j]?).bind (·.dst) with
  | some g=>match e g with
   | .bool t=>some (t == want)
   | .tup []=>some false
   | _=>.none
  | .none=>.none
def gA (md:Nat):Nat:=if md<100000 then md - 1000 else md - 100000
def Qp (md:Nat):List Nat:=[(md - 1000000000) % 1000,(md - 1000000000) / 1000 % 1000,(md - 1000000000) / 1000000 % 1000].filter fun i=>!(i == 0)
def oW (P:Program) (pr:Nat→Prop) (o:Oper) (ev:Operand→LV) (ids:List Nat) (m:Mem) (lv:LV) (m':Mem):Prop:=(∀ i,i ∉ ids→m' i=m i)∧∀ m0:Mem,(∀ i,i ∈ ids→m0 i=m i)→bI P pr o ev m0 lv (fun i=>if i ∈ ids then m' i else m0 i)
theorem oW.ok {o:Oper} {ev:Operand→LV} {ids:List Nat} {m m':Mem} {lv:LV} (h:oW P pr o ev ids m lv m'):bI P pr o ev m lv m':=by
 have:=h.2 m (fun _ _=>rfl)
 have he:(fun i=>if i ∈ ids then m' i else m i)=m':=by
  funext i
  by_cases hi:i ∈ ids
  ·simp [hi]
  ·simp [hi,h.1 i hi]
 rwa [he] at this
def RU (P:Program) (pr:Nat→Prop) (ro:List Nat) (o:Oper) (ev:Operand→LV) (id:Nat) (le:LE) (lv:LV):Prop:=∀ m0:Mem,m0 id=some le→∀ K':LV→Mem→Prop,K' lv m0→LOp P pr ro o ev m0 K'
def RV (P:Program) (pr:Nat→Prop) (ro:List Nat) (o:Oper) (ev:Operand→LV) (id:Nat) (le po:LE) (lv:LV):Prop:=∀ m0:Mem,m0 id=some le→∀ K':LV→Mem→Prop,K' lv (m0.over (Mem.of [(id,po)]))→LOp P pr ro o ev m0 K'
def gx (P:Program) (pr:Nat→Prop) (ro:List Nat) (ops:Array Oper) (md:Nat) (o:Oper) (K:Env→Mem→Prop) (e:Env) (m:Mem):Prop :=
 match gd ops o e with
 | some true=>match md with
  | 0=>LOp P pr ro o (dZ e) Mem.none fun lv m'=>m'=Mem.none∧K (e.gh o.dst lv) m
  | 1=>LOp P pr ro o (dZ e) m fun lv m'=>m'=m∧K (e.gh o.dst lv) m
  | 3=>∃ lv m',bI P pr o (dZ e) m lv m'∧K (e.gh o.dst lv) m'
  | 4=>∃ lv,(∀ m0,bI P pr o (dZ e) m0 lv m0)∧K (e.gh o.dst lv) m
  | _=>if md<1000 then LOp P pr ro o (dZ e) m fun lv m'=>K (e.gh o.dst lv) m'
    else if md<100000 then ∃ lv le,m (gA md)=some le∧RU P pr ro o (dZ e) (gA md) le lv∧K (e.gh o.dst lv) m
    else if md<1000000000 then ∃ lv le po,m (gA md)=some le∧RV P pr ro o (dZ e) (gA md) le po lv∧K (e.gh o.dst lv) (m.over (Mem.of [(gA md,po)]))
    else ∃ lv m',oW P pr o (dZ e) (Qp md) m lv m'∧K (e.gh o.dst lv) m'
 | some false=>K (e.gh o.dst (.tup [])) m
 | .none=>False
def cE (P:Program) (pr:Nat→Prop) (ro:List Nat) (ops:Array Oper):List (Oper × Nat)→(Env→Mem→Prop)→Env→Mem→Prop
 | [],K=>K
 | (o,md) :: r,K=>gx P pr ro ops md o (cE P pr ro ops r K)
def Out (P:Program) (pr:Nat→Prop) (ro:List Nat) (ops:Array Oper) (o:Oper) (e:Env) (md:Nat) (m:Mem) (lv:LV) (m':Mem):Prop :=
 match gd ops o e with
 | some true=>(md=4∧m'=m∧∀ m0,bI P pr o (dZ e) m0 lv m0) ∨ ((md=3 ∨ 1000000000≤md)∧(md=3→bI P pr o (dZ e) m lv m')∧(1000000000≤md→oW P pr o (dZ e) (Qp md) m lv m')) ∨ (1000≤md∧md<100000∧m'=m∧∃ le,m (gA md)=some le∧RU P pr ro o (dZ e) (gA md) le lv) ∨ ((100000≤md∧md<1000000000)∧∃ le po,m (gA md)=some le∧m'=m.over (Mem.of [(gA md,po)])∧RV P pr ro o (dZ e) (gA md) le po lv) ∨ (md<1000∧md ≠ 3∧md ≠ 4)∧(md=0→m'=m∧∀ m0,∀ K':LV→Mem→Prop,K' lv m0→LOp P pr ro o (dZ e) m0 K')∧(md=1→m'=m)∧∀ K':LV→Mem→Prop,K' lv m'→LOp P pr ro o (dZ e) m K'
 | some false=>lv=.tup []∧m'=m
 | .none=>False
theorem Ff {md:Nat} {o:Oper} {K:Env→Mem→Prop} {e:Env} {m:Mem} (h:gx P pr ro ops md o K e m):∃ lv m',K (e.gh o.dst lv) m'∧Out P pr ro ops o e md m lv m':=by
 unfold gx at h
 unfold Out
 cases hg:gd ops o e with
 | none=>simp [hg] at h
 | some b =>
  cases b with
  | false=>simp only [hg] at h ⊢; exact ⟨_,_,h,rfl,rfl⟩
  | true =>
   simp only [hg] at h ⊢
   split at h
   ·obtain ⟨lv,m',⟨kh,hK⟩,h1,h2⟩:=Af h
    exact ⟨lv,m,hK,.inr (.inr (.inr (.inr ⟨by simp,fun _=>⟨rfl,h2 rfl kh⟩,by simp,fun K' Ao=>h2 rfl kh m K' Ao⟩)))⟩
   ·obtain ⟨lv,m',⟨rfl,hK⟩,h1,h2⟩:=Af h
    exact ⟨lv,_,hK,.inr (.inr (.inr (.inr ⟨by simp,by simp,fun _=>rfl,h1⟩)))⟩
   ·obtain ⟨lv,m',h1,hK⟩:=h
    exact ⟨lv,m',hK,.inr (.inl ⟨.inl rfl,fun _=>h1,fun h=>absurd h (by decide)⟩)⟩
   ·obtain ⟨lv,h1,hK⟩:=h
    exact ⟨lv,m,hK,.inl ⟨rfl,rfl,h1⟩⟩
   ·rename_i n0 n1 n3 n4
    split at h
    ·rename_i hlt
     obtain ⟨lv,m',hK,h1,h2⟩:=Af h
     exact ⟨lv,m',hK,.inr (.inr (.inr (.inr ⟨⟨hlt,by simpa using n3,by simpa using n4⟩,fun h0=>absurd h0 (by simpa using n0),fun h0=>absurd h0 (by simpa using n1),h1⟩)))⟩
    ·rename_i Wj
     split at h
     ·rename_i hlt
      obtain ⟨lv,le,h1,h2,hK⟩:=h
      exact ⟨lv,m,hK,.inr (.inr (.inl ⟨by omega,hlt,rfl,le,h1,h2⟩))⟩
     ·split at h
      ·obtain ⟨lv,le,po,h1,h2,hK⟩:=h
       exact ⟨lv,_,hK,.inr (.inr (.inr (.inl ⟨by omega,le,po,h1,rfl,h2⟩)))⟩
      ·obtain ⟨lv,m',h1,hK⟩:=h
       exact ⟨lv,m',hK,.inr (.inl ⟨.inr (by omega),fun h=>absurd h (by simpa using n3),fun _=>h1⟩)⟩
theorem MB {o:Oper} {e e':Env} (h:∀ t ∈ o.looksAt ops,e t=e' t):∀ x ∈ o.op.operands,dZ e x=dZ e' x:=by
 intro x hx
 cases x with
 | tmp t =>
  refine h t ?_
  unfold Oper.looksAt
  exact List.mem_append.2 (.inl (List.mem_filterMap.2 ⟨.tmp t,by simpa using hx,rfl⟩))
 | const v=>rfl
 | global g=>rfl
 | func f=>rfl
theorem Al {o:Oper} {e e':Env} (h:∀ t ∈ o.looksAt ops,e t=e' t):gd ops o e=gd ops o e':=by
 unfold gd
 cases hg:o.guard with
 | none=>rfl
 | some q =>
  obtain ⟨j,want⟩:=q
  cases hj:(ops[j]?).bind (·.dst) with
  | none=>simp only [hj]
  | some g =>
   simp only [hj]
   rw [h g]
   unfold Oper.looksAt
   refine List.mem_append.2 (.inr ?_)
   simp [hg,hj]
theorem Out.congr {o:Oper} {e e':Env} {md:Nat} {m m':Mem} {lv:LV} (h:∀ t ∈ o.looksAt ops,e t=e' t) (ho:Out P pr ro ops o e md m lv m'):Out P pr ro ops o e' md m lv m':=by
 unfold Out at ho ⊢
 rw [← Al h]
 have hl:=MB h
 split at ho
 ·rcases ho with ⟨h3,h4,ho⟩ | ⟨h3,ho,hf⟩ | ⟨g1,g2,g3,le,g4,g5⟩ | ⟨g1,le,po,g2,g3,g4⟩ | ⟨h3,h1,h2,h4⟩
  ·exact .inl ⟨h3,h4,fun m0 c a Q bG hm=>ho m0 c a Q (fun x hx=>by rw [hl x hx]; exact bG x hx) hm⟩
  ·exact .inr (.inl ⟨h3,fun h c a Q bG hm=>ho h c a Q (fun x hx=>by rw [hl x hx]; exact bG x hx) hm,fun h=>⟨(hf h).1,fun m0 qG c a Q bG hm=>(hf h).2 m0 qG c a Q (fun x hx=>by rw [hl x hx]; exact bG x hx) hm⟩⟩)
  ·exact .inr (.inr (.inl ⟨g1,g2,g3,le,g4,fun m0 qG K' hK=>pF hl (g5 m0 qG K' hK)⟩))
  ·exact .inr (.inr (.inr (.inl ⟨g1,le,po,g2,g3,fun m0 qG K' hK=>pF hl (g4 m0 qG K' hK)⟩)))
  ·exact .inr (.inr (.inr (.inr ⟨h3,fun h0=>⟨(h1 h0).1,fun m0 K' hK=>pF hl ((h1 h0).2 m0 K' hK)⟩,h2,fun K' hK=>pF hl (h4 K' hK)⟩)))
 ·exact ho
 ·exact ho
def uS (o:Oper):Bool:=(match o.op with | .alloc _=>true | _=>false) && o.guard.isNone
def Ak (o:Oper):Bool:=(match o.op with | .alloc _=>true | .makeSlice _ _ _=>true | .call c=>(match c.callee with | .value _=>true | _=>false) | _=>false) && o.guard.isNone
def Vl (md:Nat):Bool:=Nat.ble 1000 md && Nat.blt md 100000
def Vk (md:Nat):Bool:=Nat.ble 1000 md && Nat.blt md 1000000000
def rv (md:Nat):List Nat:=if Nat.ble 1000000000 md then Qp md else [gA md]
def EK (ops:Array Oper) (x y:Oper × Nat):Bool:=x.1.apart ops y.1 && (x.2 == 0 || y.2 == 0 || (decide (x.2≤1) && decide (y.2≤1)) || (uS y.1 && Ak x.1 && x.2 == 2 && y.2 == 2)
 || (Vk x.2 && Vk y.2 && !(gA x.2 == gA y.2)) || ((Vl x.2 || Nat.ble x.2 1) && (Vl y.2 || Nat.ble y.2 1)) || (uS y.1 && Vk x.2 && y.2 == 2) || (x.2 == 4 || y.2 == 4) || (Nat.ble 1000 x.2 && Nat.ble 1000 y.2 && (rv x.2).all fun i=>!(rv y.2).contains i))
theorem uV {m:Mem} {A B:Nat} {x y:LE} (h:A ≠ B):(m.put A x).put B y=(m.put B y).put A x:=by
 funext i
 simp only [Mem.put]
 by_cases h1:i=A
 ·subst h1; simp [h]
 ·simp [h1]
theorem sL {o:Oper} {ev:Operand→LV} {m m':Mem} {lv:LV} {t:TypeId} (ho:o.op=.alloc t) (h:∀ K':LV→Mem→Prop,K' lv m'→LOp P pr ro o ev m K') :
  ∃ z d,tzero P t=some z∧o.dst=some d∧m (100+d)=.none∧lv=.ptr (100+d) 0∧m'=m.put (100+d) (.box z.cells):=by
 have:=h (fun l mm=>lv=l∧m'=mm) ⟨rfl,rfl⟩
 simp only [LOp,ho] at this
 split at this
 ·rename_i z d hz hd
  exact ⟨z,d,hz,hd,this.1,this.2.1,this.2.2⟩
 ·exact this.elim
theorem IX {o:Oper} {ev:Operand→LV} {m m':Mem} {lv:LV} (hf:Ak o=true) (h:∀ K':LV→Mem→Prop,K' lv m'→LOp P pr ro o ev m K') {A:Nat} (hA:m' A=.none) (x:LE) :
  m A=.none∧∀ K':LV→Mem→Prop,K' lv (m'.put A x)→LOp P pr ro o ev (m.put A x) K':=by
 simp only [Ak,Bool.and_eq_true] at hf
 cases ho:o.op <;> simp only [ho] at hf <;> try (simp at hf; done)
 case alloc t =>
  obtain ⟨z,d,hz,hd,hm,rfl,rfl⟩:=sL ho h
  have eO:100+d ≠ A:=fun he=>by subst he; simp [Mem.put] at hA
  have QD:m A=.none:=by simp only [Mem.put] at hA; rw [if_neg (Ne.symm eO)] at hA; exact hA
  refine ⟨QD,fun K' hK=>?_⟩
  simp only [LOp,ho,hz,hd]
  refine ⟨by simp only [Mem.put]; rw [if_neg eO]; exact hm,?_⟩
  rw [uV (Ne.symm eO)]; exact hK
 case makeSlice t l c =>
  have:=h (fun l mm=>lv=l∧m'=mm) ⟨rfl,rfl⟩
  simp only [LOp,ho] at this
  split at this
  ·rename_i e z n n' d he hz hl hc hd
   obtain ⟨hn,h0,hb,hr,hp,hm,rfl,rfl⟩:=this
   have eO:100+d ≠ A:=fun he=>by subst he; simp [Mem.put] at hA
   have QD:m A=.none:=by simp only [Mem.put] at hA; rw [if_neg (Ne.symm eO)] at hA; exact hA
   refine ⟨QD,fun K' hK=>?_⟩
   simp only [LOp,ho]
   rw [hz,hl,hc,hd,he]
   refine ⟨hn,h0,hb,hr,hp,by simp only [Mem.put]; rw [if_neg eO]; exact hm,?_⟩
   rw [uV (Ne.symm eO)]; exact hK
  ·exact this.elim
 case call c =>
  obtain ⟨cl,args,UQ⟩:=c
  cases cl <;> simp only at hf <;> try (simp at hf; done)
  case value y =>
   have:=h (fun l mm=>lv=l∧m'=mm) ⟨rfl,rfl⟩
   simp only [LOp,ho] at this
   cases hy:ev y <;> simp only [hy] at this
   case fn f cap =>
    obtain ⟨Z0,lv0,mc,jb,hc,h1,h2,h3,h4,rfl,rfl⟩:=this
    have SB:jb A=.none:=by
     cases hq:jb A with
     | none=>rfl
     | some q=>simp [Mem.over,hq] at hA
    have QD:m A=.none:=by simpa [Mem.over,SB] using hA
    have hmc:mc A=.none:=by
     cases hq:mc A with
     | none=>rfl
     | some q=>have:=h1 A (by simp [hq]); rw [QD,hq] at this; cases this
    refine ⟨QD,fun K' hK=>?_⟩
    simp only [LOp,ho,hy]
    refine ⟨Z0,lv,mc,jb,hc,fun id bX=>?_,fun id bX Wm=>?_,h3,h4,?_⟩
    ·have:id ≠ A:=fun he=>by subst he; exact bX hmc
     simp only [Mem.put]; rw [if_neg this]; exact h1 id bX
    ·have:id ≠ A:=fun he=>by subst he; exact Wm SB
     simp only [Mem.put]; rw [if_neg this]; exact h2 id bX Wm
    ·have:(m.put A x).over jb=(m.over jb).put A x:=by
      funext i
      simp only [Mem.over,Mem.put]
      by_cases hi:i=A
      ·subst hi; simp [SB]
      ·simp only [hi,if_false]
     rw [this]; exact hK
def qh (P:Program) (pr:Nat→Prop) (ro:List Nat) (ops:Array Oper):List (Oper × Nat)→Env→Mem→Env→Mem→Prop
 | [],e,m,e',m'=>e'=e∧m'=m
 | (o,md) :: r,e,m,e',m'=>∃ lv m1,Out P pr ro ops o e md m lv m1∧qh P pr ro ops r (e.gh o.dst lv) m1 e' m'
theorem jJ:∀ (l:List (Oper × Nat)) {K:Env→Mem→Prop} {e:Env} {m:Mem},cE P pr ro ops l K e m→∃ e' m',K e' m'∧qh P pr ro ops l e m e' m'
 | [],K,e,m,h=>⟨e,m,h,rfl,rfl⟩
 | (o,md) :: r,K,e,m,h=>by
  simp only [cE] at h
  obtain ⟨lv,m1,h1,ho⟩:=Ff h
  obtain ⟨e',m',hK,hc⟩:=jJ r h1
  exact ⟨e',m',hK,lv,m1,ho,hc⟩
theorem Jx {e:Env} {x y:Option Nat} {u v:LV} (h:∀ d,x=some d→y ≠ some d):(e.gh x u).gh y v=(e.gh y v).gh x u:=by
 cases x with
 | none=>rfl
 | some a =>
  cases y with
  | none=>rfl
  | some b =>
   have qo:a ≠ b:=fun hh=>h a rfl (by rw [hh])
   funext i
   simp only [Env.gh,Env.put]
   by_cases h1:i=a
   ·subst h1; simp [qo]
   ·simp [h1]
theorem iI {e:Env} {o:Oper} {d:Option Nat} {v:LV} (h:∀ i,d=some i→i ∉ o.looksAt ops):∀ t ∈ o.looksAt ops,(e.gh d v) t=e t:=by
 intro t ht
 cases d with
 | none=>rfl
 | some i =>
  have:t ≠ i:=fun hh=>h i rfl (hh ▸ ht)
  simp [Env.gh,Env.put,this]
theorem wh {o:Oper} {e:Env} {md:Nat} {m m':Mem} {lv:LV} (h:Out P pr ro ops o e md m lv m') (FH:md≤1):m'=m:=by
 unfold Out at h
 split at h
 ·rcases h with ⟨h3,_⟩ | ⟨h3,_⟩ | ⟨g1,_⟩ | ⟨g1,_⟩ | ⟨_,h1,h2,_⟩
  ·omega
  ·omega
  ·omega
  ·omega
  ·rcases (by omega:md=0 ∨ md=1) with h0 | h0
   ·exact (h1 h0).1
   ·exact h2 h0
 ·exact h.2
 ·exact h.elim
theorem rW {m:Mem} {i:Nat} {le:LE}:m.over (Mem.of [(i,le)])=m.put i le:=by
 funext j
 simp only [Mem.over,Mem.of,Mem.put]
 by_cases h:j=i <;> simp [h]
theorem Ns {o:Oper} {e:Env} {md:Nat} {m m':Mem} {lv:LV} (h:Out P pr ro ops o e md m lv m') (FH:(Vl md || Nat.ble md 1)=true):m'=m:=by
 by_cases h1:md≤1
 ·exact wh h h1
 ·have hr:1000≤md∧md<100000:=by
   simp only [Vl,Bool.or_eq_true,Bool.and_eq_true,Nat.ble_eq,Nat.blt_eq] at FH
   omega
  unfold Out at h
  split at h
  ·rcases h with ⟨h3,_⟩ | ⟨h3,_⟩ | ⟨_,_,h3,_⟩ | ⟨g1,_⟩ | ⟨g1,_⟩
   ·omega
   ·omega
   ·exact h3
   ·omega
   ·omega
  ·exact h.2
  ·exact h.elim
theorem uK {o:Oper} {e:Env} {md:Nat} {m m':Mem} {lv:LV} (h:Out P pr ro ops o e md m lv m') (FH:Vk md=true):(m'=m∧gd ops o e=some false∧lv=.tup []) ∨ ∃ le po,m (gA md)=some le∧m'=m.put (gA md) po∧∀ m0:Mem,m0 (gA md)=some le→Out P pr ro ops o e md m0 lv (m0.put (gA md) po):=by
 have aec:1000≤md∧md<1000000000:=by simpa [Vk] using FH
 have hh:=h
 unfold Out at h
 split at h
 ·rename_i hg
  rcases h with ⟨h3,_⟩ | ⟨h3,_⟩ | ⟨g1,g2,g3,le,g4,g5⟩ | ⟨g1,le,po,g2,g3,g4⟩ | ⟨g1,_⟩
  ·omega
  ·omega
  ·right
   have self:∀ m0:Mem,m0 (gA md)=some le→m0.put (gA md) le=m0:=fun m0 h0=>by
    funext j; simp only [Mem.put]; split
    ·rename_i hj; subst hj; exact h0.symm
    ·rfl
   refine ⟨le,le,g4,by rw [g3,self m g4],fun m0 h0=>?_⟩
   rw [self m0 h0]
   unfold Out
   rw [hg]
   exact .inr (.inr (.inl ⟨g1,g2,rfl,le,h0,g5⟩))
  ·right
   refine ⟨le,po,g2,by rw [g3,rW],fun m0 h0=>?_⟩
   unfold Out
   rw [hg]
   exact .inr (.inr (.inr (.inl ⟨g1,le,po,h0,by rw [rW],g4⟩)))
  ·omega
 ·rename_i hg; exact .inl ⟨h.2,hg,h.1⟩
 ·exact h.elim
theorem Out.skip {o:Oper} {e:Env} {md:Nat} {m:Mem} (hg:gd ops o e=some false):Out P pr ro ops o e md m (.tup []) m:=by
 unfold Out; rw [hg]; exact ⟨rfl,rfl⟩
theorem BU {o:Oper} {e:Env} {md:Nat} {m m':Mem} {lv:LV} (h:Out P pr ro ops o e md m lv m') (FH:1000≤md):(∀ i,i ∉ rv md→m' i=m i)∧∀ m0:Mem,(∀ i,i ∈ rv md→m0 i=m i)→Out P pr ro ops o e md m0 lv (fun i=>if i ∈ rv md then m' i else m0 i):=by
 by_cases hd:md<1000000000
 ·have hf:rv md=[gA md]:=by
   have:Nat.ble 1000000000 md=false:=by
    cases hb:Nat.ble 1000000000 md with
    | false=>rfl
    | true=>have:=Nat.le_of_ble_eq_true hb; omega
   simp [rv,this]
  rw [hf]
  rcases uK h (by simp [Vk]; omega) with ⟨rfl,hg,rfl⟩ | ⟨le,po,g1,rfl,g3⟩
  ·refine ⟨fun _ _=>rfl,fun m0 qG=>?_⟩
   have:(fun i=>if i ∈ [gA md] then m' i else m0 i)=m0:=by
    funext i
    by_cases hi:i ∈ [gA md]
    ·simp [hi,qG i hi]
    ·simp [hi]
   rw [this]; exact Out.skip hg
  ·refine ⟨fun i hi=>by simp at hi; simp [Mem.put,hi],fun m0 qG=>?_⟩
   have:=g3 m0 (by rw [qG _ (by simp)]; exact g1)
   refine Eq.mp (congrArg _ ?_) this
   funext i
   by_cases hi:i=gA md
   ·subst hi; simp [Mem.put]
   ·simp [Mem.put,hi]
 ·have hf:rv md=Qp md:=by
   have:Nat.ble 1000000000 md=true:=Nat.ble_eq_true_of_le (by omega)
   simp [rv,this]
  rw [hf]
  have hh:=h
  unfold Out at h
  split at h
  ·rename_i hg
   rcases h with ⟨h3,_⟩ | ⟨h3,_,h4⟩ | ⟨g1,g2,_⟩ | ⟨g1,_⟩ | ⟨g1,_⟩
   ·omega
   ·have h4:=h4 (by omega)
    refine ⟨h4.1,fun m0 qG=>?_⟩
    unfold Out
    rw [hg]
    refine .inr (.inl ⟨.inr (by omega),fun h=>by omega,fun _=>⟨fun i hi=>by simp [hi],fun m1 mr=>?_⟩⟩)
    have:=h4.2 m1 (fun i hi=>(mr i hi).trans (qG i hi))
    refine Eq.mp (congrArg _ ?_) this
    funext i
    by_cases hi:i ∈ Qp md <;> simp [hi]
   ·omega
   ·omega
   ·omega
  ·rename_i hg
   obtain ⟨rfl,rfl⟩:=h
   refine ⟨fun _ _=>rfl,fun m0 qG=>?_⟩
   have:(fun i=>if i ∈ Qp md then m' i else m0 i)=m0:=by
    funext i
    by_cases hi:i ∈ Qp md
    ·simp [hi,qG i hi]
    ·simp [hi]
   rw [this]; unfold Out; rw [hg]; exact ⟨rfl,rfl⟩
  ·exact h.elim
theorem MH {o:Oper} {e:Env} {m m':Mem} {lv:LV} (h:Out P pr ro ops o e 4 m lv m'):m'=m∧∀ m0,Out P pr ro ops o e 4 m0 lv m0:=by
 have hh:=h
 unfold Out at h
 split at h
 ·rename_i hg
  rcases h with ⟨_,h1,h2⟩ | ⟨h3,_⟩ | ⟨g1,_⟩ | ⟨g1,_⟩ | ⟨g1,_⟩
  ·refine ⟨h1,fun m0=>?_⟩
   unfold Out
   rw [hg]
   exact .inl ⟨rfl,rfl,h2⟩
  ·omega
  ·omega
  ·omega
  ·omega
 ·rename_i hg
  refine ⟨h.2,fun m0=>?_⟩
  unfold Out
  rw [hg]
  exact ⟨h.1,rfl⟩
 ·exact h.elim
theorem Out.any {o:Oper} {e:Env} {m m' m0:Mem} {lv:LV} (h:Out P pr ro ops o e 0 m lv m'):Out P pr ro ops o e 0 m0 lv m0:=by
 unfold Out at h ⊢
 split at h
 ·rename_i hg
  rcases h with ⟨h3,_⟩ | ⟨h3,_⟩ | ⟨g1,_⟩ | ⟨g1,_⟩ | ⟨_,h1,h2,h3⟩
  ·omega
  ·omega
  ·omega
  ·omega
  ·exact .inr (.inr (.inr (.inr ⟨by simp,fun _=>⟨rfl,(h1 rfl).2⟩,by simp,fun K' hK=>(h1 rfl).2 m0 K' hK⟩)))
 ·exact ⟨h.1,rfl⟩
 ·exact h.elim
theorem NO {x y:Oper × Nat} (hs:EK ops x y=true) {r:List (Oper × Nat)} {e e':Env} {m m':Mem} (h:qh P pr ro ops (x :: y :: r) e m e' m'):qh P pr ro ops (y :: x :: r) e m e' m':=by
 obtain ⟨o,a⟩:=x
 obtain ⟨q,b⟩:=y
 simp only [EK,Bool.and_eq_true,Bool.or_eq_true,beq_iff_eq,decide_eq_true_eq] at hs
 obtain ⟨U7,FH⟩:=hs
 obtain ⟨ha1,ha2,U6⟩:=Oper.apart_spec U7
 obtain ⟨lv,m1,ho,yn,m2,hq,hc⟩:=h
 have rb:Out P pr ro ops q e b m1 yn m2:=hq.congr (iI ha1)
 have Bj:Out P pr ro ops o (e.gh q.dst yn) a m lv m1:=ho.congr fun t ht=>(iI U6 t ht).symm
 rw [Jx ha2] at hc
 rcases FH with (((((((h0 | h0) | ⟨h1,h2⟩) | ⟨⟨⟨ya,OW⟩,aaU⟩,Sj⟩) | ⟨⟨hx,hy⟩,eO⟩) | ⟨hx,hy⟩) | ⟨⟨ya,hx⟩,Sj⟩) | h4) | ⟨⟨hx,hy⟩,I4⟩
 ·subst h0
  have:=wh ho (by omega)
  subst this
  exact ⟨yn,m2,rb,lv,m2,Bj.any,hc⟩
 ·subst h0
  have:=wh hq (by omega)
  subst this
  exact ⟨yn,m,rb.any,lv,m2,Bj,hc⟩
 ·have e1:=wh ho h1
  have e2:=wh hq h2
  subst e1; subst e2
  exact ⟨yn,m2,rb,lv,m2,Bj,hc⟩
 ·subst aaU; subst Sj
  have aaV:=ya
  have abq:=OW
  simp only [uS,Ak,Bool.and_eq_true,Option.isNone_iff_eq_none] at ya OW
  have Qx:∀ e,gd ops o e=some true:=fun e=>by simp [gd,OW.2]
  have Wl:∀ e,gd ops q e=some true:=fun e=>by simp [gd,ya.2]
  unfold Out at rb Bj
  simp only [Qx,Wl] at rb Bj
  replace rb:=((((rb.resolve_left (fun h3=>by omega)).resolve_left (fun h3=>by have:=h3.1; omega)).resolve_left (fun h3=>by omega)).resolve_left (fun h3=>by omega)).2
  replace Bj:=((((Bj.resolve_left (fun h3=>by omega)).resolve_left (fun h3=>by have:=h3.1; omega)).resolve_left (fun h3=>by omega)).resolve_left (fun h3=>by omega)).2
  cases J9:q.op <;> simp only [J9] at ya <;> try (simp at ya; done)
  case alloc t =>
   obtain ⟨z,d,hz,hd,mr,rfl,rfl⟩:=sL J9 rb.2.2
   obtain ⟨QD,abr⟩:=IX abq Bj.2.2 mr (.box z.cells)
   refine ⟨.ptr (100+d) 0,m.put (100+d) (.box z.cells),?_,lv,m1.put (100+d) (.box z.cells),?_,hc⟩
   ·unfold Out
    simp only [Wl]
    refine .inr (.inr (.inr (.inr ⟨by simp,by simp,by simp,fun K' hK=>?_⟩)))
    simp only [LOp,J9,hz,hd]
    exact ⟨QD,hK⟩
   ·unfold Out
    simp only [Qx]
    exact .inr (.inr (.inr (.inr ⟨by simp,by simp,by simp,abr⟩)))
 ·have FI:gA a ≠ gA b:=by simpa using eO
  rcases uK ho hx with ⟨rfl,hg,rfl⟩ | ⟨le,po,g1,rfl,g3⟩
  ·exact ⟨yn,m2,rb,_,m2,Out.skip (by rw [Al (ops:=ops) (o:=o) (e:=e.gh q.dst yn) (e':=e) (iI U6)]; exact hg),hc⟩
  ·rcases uK rb hy with ⟨rfl,hg,rfl⟩ | ⟨lf,lf',k1,rfl,k3⟩
   ·exact ⟨_,m,Out.skip hg,lv,_,Bj,hc⟩
   ·have k1':m (gA b)=some lf:=by simpa [Mem.put,Ne.symm FI] using k1
    refine ⟨yn,m.put (gA b) lf',k3 m k1',lv,(m.put (gA b) lf').put (gA a) po,?_,by rw [uV (Ne.symm FI)]; exact hc⟩
    exact (g3 (m.put (gA b) lf') (by simpa [Mem.put,FI] using g1)).congr fun t ht=>(iI U6 t ht).symm
 ·have e1:=Ns ho (by simpa using hx)
  have e2:=Ns hq (by simpa using hy)
  subst e1; subst e2
  exact ⟨yn,m2,rb,lv,m2,Bj,hc⟩
 ·subst Sj
  have aaV:=ya
  simp only [uS,Bool.and_eq_true,Option.isNone_iff_eq_none] at ya
  have Wl:∀ e,gd ops q e=some true:=fun e=>by simp [gd,ya.2]
  unfold Out at rb
  simp only [Wl] at rb
  replace rb:=((((rb.resolve_left (fun h3=>by omega)).resolve_left (fun h3=>by have:=h3.1; omega)).resolve_left (fun h3=>by omega)).resolve_left (fun h3=>by omega)).2
  cases J9:q.op <;> simp only [J9] at ya <;> try (simp at ya; done)
  case alloc t =>
   obtain ⟨z,d,hz,hd,mr,rfl,rfl⟩:=sL J9 rb.2.2
   have V1:∀ m0:Mem,m0 (100+d)=.none→Out P pr ro ops q e 2 m0 (.ptr (100+d) 0) (m0.put (100+d) (.box z.cells)):=fun m0 h0=>by
    unfold Out
    simp only [Wl]
    refine .inr (.inr (.inr (.inr ⟨by simp,by simp,by simp,fun K' hK=>?_⟩)))
    simp only [LOp,J9,hz,hd]
    exact ⟨h0,hK⟩
   rcases uK ho hx with ⟨rfl,hg,rfl⟩ | ⟨le,po,g1,rfl,g3⟩
   ·exact ⟨_,_,V1 _ mr,_,_,Out.skip (by rw [Al (ops:=ops) (o:=o) (e':=e) (iI U6)]; exact hg),hc⟩
   ·have FI:gA a ≠ 100+d:=fun h=>by rw [← h] at mr; simp [Mem.put] at mr
    have qG:m (100+d)=.none:=by simpa [Mem.put,Ne.symm FI] using mr
    refine ⟨_,_,V1 m qG,lv,(m.put (100+d) (.box z.cells)).put (gA a) po,?_,by rw [uV (Ne.symm FI)]; exact hc⟩
    exact (g3 (m.put (100+d) (.box z.cells)) (by simpa [Mem.put,FI] using g1)).congr fun t ht=>(iI U6 t ht).symm
 ·rcases h4 with h4 | h4
  ·subst h4
   obtain ⟨rfl,oB⟩:=MH Bj
   exact ⟨yn,m2,rb,lv,m2,oB m2,hc⟩
  ·subst h4
   obtain ⟨rfl,oB⟩:=MH rb
   exact ⟨yn,m,oB m,lv,_,Bj,hc⟩
 ·obtain ⟨f1,f2⟩:=BU ho (by simpa using hx)
  obtain ⟨k1,k2⟩:=BU rb (by simpa using hy)
  have hd1:∀ i,i ∈ rv a→i ∉ rv b:=fun i hi=>by simpa using List.all_eq_true.1 I4 i hi
  refine ⟨yn,_,k2 m (fun i hi=>(f1 i (fun hj=>hd1 i hj hi)).symm),lv,m2,?_,hc⟩
  have:=f2 (fun i=>if i ∈ rv b then m2 i else m i) (fun i hi=>by simp [hd1 i hi])
  refine (Eq.mp (congrArg _ ?_) this).congr fun t ht=>(iI U6 t ht).symm
  funext i
  by_cases h1:i ∈ rv a
  ·simp [h1,k1 i (hd1 i h1)]
  ·by_cases h2:i ∈ rv b
   ·simp [h1,h2]
   ·simp [h1,h2,k1 i h2,f1 i h1]
theorem qR {y:Oper × Nat}:∀ (l r:List (Oper × Nat)) {e e':Env} {m m':Mem},(∀ x ∈ l,EK ops x y=true)→qh P pr ro ops (l++y :: r) e m e' m'→qh P pr ro ops (y :: (l++r)) e m e' m'
 | [],r,e,e',m,m',_,h=>h
 | x :: l,r,e,e',m,m',hs,h=>by
  obtain ⟨o,a⟩:=x
  obtain ⟨lv,m1,ho,hc⟩:=h
  have:=qR l r (fun z hz=>hs z (by simp [hz])) hc
  exact NO (hs _ (by simp)) ⟨lv,m1,ho,this⟩
theorem BB {o:Oper} {md:Nat} {e:Env} {m m':Mem} {lv:LV} (hd:∀ q ∈ ops,∀ i,q.dst=some i→i<N) (O0:∀ i,o.dst=some i→i<N) (h:Out P pr ro ops o e md m lv m') (c:Cx) (a:Act) (R:Act→World→Prop) (Q:Exit→Act→World→Prop) (hr:oh N c e m a)
  (hR:∀ a' (c':Cx),oh N c' (e.gh o.dst lv) m' a'→Step pr c c'→R a' c'.w) :
  if Region.wanted o (yielded ops a.tmps) then o.wp P a c.w R Q ∨ (o.asks P a c.w∧LetsOut Q) else R (a.put o.dst undef) c.w:=by
 have QI:∀ b,gd ops o e=some b→Region.wanted o (yielded ops a.tmps)=b:=by
  intro b hb
  unfold gd at hb
  split at hb
  ·rename_i hg; cases hb; simp [Region.wanted,hg]
  ·rename_i j want hg
   split at hb
   ·rename_i g hj
    cases ht:e g <;> simp only [ht] at hb
    case bool t=>cases hb; exact p9 hr hd hg hj ht
    case tup vs =>
     cases vs with
     | cons x xs=>cases hb
     | nil=>cases hb; exact ue hr hd hg hj ht
    all_goals cases hb
   ·cases hb
 unfold Out at h
 split at h
 ·rename_i hg
  rw [QI true hg,if_pos rfl]
  have hL:(∀ K':LV→Mem→Prop,K' lv m'→LOp P pr ro o (dZ e) m K')→(o.wp P a c.w R Q ∨ (o.asks P a c.w∧LetsOut Q)):=fun hh=>by
   obtain ⟨lv0,m0,⟨rfl,rfl⟩,iD⟩:=kM (hh (fun l mm=>l=lv∧mm=m') ⟨rfl,rfl⟩)
   left
   refine Oper.wp_mono ?_ (iD c a Q hr.ev hr.mem)
   rintro a' w' ⟨v,c',rfl,rfl,hv,kh,hs⟩
   exact hR _ c' (hr.put hs kh O0 hv) hs
  rcases h with ⟨_,rfl,iD⟩ | ⟨h3,iD,hf⟩ | ⟨_,_,rfl,le,g4,g5⟩ | ⟨_,le,po,g2,rfl,g4⟩ | ⟨_,h⟩
  ·left
   refine Oper.wp_mono ?_ (iD _ c a Q (fun x _=>hr.ev x) hr.mem)
   rintro a' w' ⟨v,c',rfl,rfl,hv,kh,hs⟩
   exact hR _ c' (hr.put hs kh O0 hv) hs
  ·left
   refine Oper.wp_mono ?_ ((h3.elim iD (fun h=>(hf h).ok)) c a Q (fun x _=>hr.ev x) hr.mem)
   rintro a' w' ⟨v,c',rfl,rfl,hv,kh,hs⟩
   exact hR _ c' (hr.put hs kh O0 hv) hs
  ·exact hL fun K' hK=>g5 _ g4 K' hK
  ·exact hL fun K' hK=>g4 m g2 K' hK
  obtain ⟨lv0,m0,⟨rfl,rfl⟩,iD⟩:=kM (h.2.2 (fun l mm=>l=lv∧mm=m') ⟨rfl,rfl⟩)
  left
  refine Oper.wp_mono ?_ (iD c a Q hr.ev hr.mem)
  rintro a' w' ⟨v,c',rfl,rfl,hv,kh,hs⟩
  exact hR _ c' (hr.put hs kh O0 hv) hs
 ·rename_i hg
  obtain ⟨rfl,rfl⟩:=h
  rw [QI false hg,if_neg (by simp)]
  exact hR _ c (hr.put (Step.refl pr c) hr.mem O0 (qU c)) (Step.refl pr c)
 ·exact h.elim
def ahead (ops:Array Oper):Nat→Nat→Nat→Bool
 | 0,_,_=>false
 | f+1,k,i=>((ops[i]?).map fun o=>o.after.toList.any fun e=>Region.binds .any e && (e.on == k || ahead ops f k e.on)).getD false
def vv (ops:Array Oper) (eh:List Nat):Bool :=
 (List.range ops.size).all fun i=>match ops[i]? with
  | some o=>(o.after.toList.all fun e=>!Region.binds .any e || decide (e.on<i)) && (List.range i).all fun k=>match ops[k]? with
   | some q=>EK ops (q,eh.getD k 2) (o,eh.getD i 2) || ahead ops 6 k i
   | .none=>true
  | .none=>true
theorem kx {aP:Array Bool} (hcl:∀ i o,ops[i]?=some o→aP.getD i true=true→∀ e ∈ o.after,Region.binds .any e=true→aP.getD e.on false=true) (fE:aP.size=ops.size):∀ (f k i:Nat) (o:Oper),ops[i]?=some o→(∀ e ∈ o.after,Region.binds .any e=true→aP.getD e.on false=true)→ahead ops f k i=true→aP.getD k false=true
 | 0,k,i,o,_,_,h=>by simp [ahead] at h
 | f+1,k,i,o,ho,qJ,h=>by
  simp only [ahead,ho,Option.map_some,Option.getD_some,List.any_eq_true,Bool.and_eq_true,Bool.or_eq_true,beq_iff_eq] at h
  obtain ⟨e,he,hb,hk⟩:=h
  have he:e ∈ o.after:=by simpa using he
  have hl:=qJ e he hb
  rcases hk with hk | hk
  ·subst hk; exact hl
  ·have hlt:e.on<aP.size:=by
    rcases Nat.lt_or_ge e.on aP.size with h' | h'
    ·exact h'
    ·simp [Array.getElem?_eq_none h'] at hl
   have hon:∃ q,ops[e.on]?=some q:=⟨ops[e.on]'(by omega),by simp [fE ▸ hlt]⟩
   obtain ⟨q,hq⟩:=hon
   exact kx hcl fE f k e.on q hq (hcl e.on q hq (by simpa [hlt] using hl)) hk
def left (ops:Array Oper) (aP:Array Bool):List Nat:=(List.range ops.size).filter fun i=>!aP.getD i true
theorem LH.A3 {id:Nat} {l:List Oper} {Q:Exit→Env→Mem→Prop} {e e':Env} {m m':Mem} (sZ:P.follows .mixedOrders=true) (ro:List Nat) (eh:List Nat) (hd:gX N l=true) (iD:vv l.toArray eh=true)
  (hc:qh P pr ro l.toArray ((List.range l.length).map fun i=>(l.getD i default,eh.getD i 2)) e m e' m') (hK:Q .normal e' m'):LH P N pr (.region id l.toArray true) Q e m:=by
 refine ⟨.normal,e',m',fun c a hr=>?_,hK⟩
 refine wp_region_any sZ ?_
 have Wh:=pN hd
 have key : ∀ (fuel : Nat) (aP : Array Bool) (e0 : Env) (m0 : Mem) (c0 : Cx) (a0 : Act), aP.size = l.toArray.size → (left l.toArray aP).length ≤ fuel →
   (∀ i o,l.toArray[i]?=some o→aP.getD i true=true→∀ e ∈ o.after,Region.binds .any e=true→aP.getD e.on false=true) →
   qh P pr ro l.toArray ((left l.toArray aP).map fun i=>(l.getD i default,eh.getD i 2)) e0 m0 e' m'→oh N c0 e0 m0 a0→Grow pr c c0 →
   wpAny P .any l.toArray (fun x a' w'=>x=.normal∧∃ c':Cx,c'.w=w'∧oh N c' e' m' a'∧Grow pr c c') fuel aP a0 c0.w:=by
  have B5:=List.all_eq_true.1 iD
  have pe:∀ aP:Array Bool,∀ i ∈ Region.ready .any l.toArray aP,i ∈ left l.toArray aP∧∀ o,l.toArray[i]?=some o→∀ e ∈ o.after,Region.binds .any e=true→aP.getD e.on false=true:=by
   intro aP i hi
   unfold Region.ready at hi
   simp only [List.mem_filter,Bool.and_eq_true] at hi
   refine ⟨by unfold left; exact List.mem_filter.2 ⟨hi.1,hi.2.1⟩,fun o ho e he hb=>?_⟩
   have h2:=hi.2.2
   rw [ho] at h2
   simp only [Option.map_some,Option.getD_some] at h2
   have:=(Array.all_eq_true_iff_forall_mem.1 h2) e he
   simpa [hb] using this
  have uw:∀ (aP:Array Bool) (e0:Env) (m0:Mem) (c0:Cx) (a0:Act),left l.toArray aP=[]→qh P pr ro l.toArray ((left l.toArray aP).map fun i=>(l.getD i default,eh.getD i 2)) e0 m0 e' m'→oh N c0 e0 m0 a0→Grow pr c c0→(∃ c':Cx,c'.w=c0.w∧oh N c' e' m' a0∧Grow pr c c'):=by
   intro aP e0 m0 c0 a0 hl Be LL Aw
   rw [hl] at Be
   obtain ⟨rfl,rfl⟩:=Be
   exact ⟨c0,rfl,LL,Aw⟩
  intro fuel
  induction fuel with
  | zero =>
   intro aP e0 m0 c0 a0 fE hlen hcl Be LL Aw
   have hl:left l.toArray aP=[]:=List.eq_nil_of_length_eq_zero (by omega)
   refine ⟨?_,rfl,uw aP e0 m0 c0 a0 hl Be LL Aw⟩
   rw [List.eq_nil_iff_forall_not_mem]
   intro i hi
   have:=(pe aP i hi).1
   rw [hl] at this; cases this
  | succ fuel ih =>
   intro aP e0 m0 c0 a0 fE hlen hcl Be LL Aw
   have LJ:(left l.toArray aP).Pairwise (·<·):=by unfold left; exact List.Pairwise.filter _ List.pairwise_lt_range
   refine ⟨fun rF=>?_,fun i hi=>?_⟩
   ·refine ⟨rfl,uw aP e0 m0 c0 a0 ?_ Be LL Aw⟩
    cases hl:left l.toArray aP with
    | nil=>rfl
    | cons i r =>
     exfalso
     have uN:i ∈ left l.toArray aP:=by rw [hl]; simp
     have eP:=uN
     unfold left at eP
     simp only [List.mem_filter,List.mem_range] at eP
     have hlt:=eP.1
     have vO:l.toArray[i]?=some (l.toArray[i]'hlt):=by simp [hlt]
     have Wo:i ∈ Region.ready .any l.toArray aP:=by
      unfold Region.ready
      simp only [List.mem_filter,List.mem_range,Bool.and_eq_true]
      refine ⟨hlt,eP.2,?_⟩
      rw [vO]
      simp only [Option.map_some,Option.getD_some]
      rw [Array.all_eq_true_iff_forall_mem]
      intro e he
      by_cases hb:Region.binds .any e=true
      ·have h1:=B5 i (by simpa using hlt)
       rw [vO] at h1
       simp only [Bool.and_eq_true,List.all_eq_true] at h1
       have h2:=h1.1 e (by simpa using he)
       simp only [hb,Bool.not_true,Bool.false_or,decide_eq_true_eq] at h2
       have h3:e.on ∉ left l.toArray aP:=by
        rw [hl]
        intro hm
        rw [hl] at LJ
        rcases List.mem_cons.1 hm with h4 | h4
        ·omega
        ·have:=(List.pairwise_cons.1 LJ).1 _ h4; omega
       unfold left at h3
       simp only [List.mem_filter,List.mem_range,not_and] at h3
       have h4:=h3 (by omega)
       have h5:e.on<aP.size:=by omega
       simp only [hb,Bool.not_true,Bool.false_or]
       simpa [h5] using h4
      ·simp [hb]
     rw [rF] at Wo; cases Wo
   ·obtain ⟨uN,qJ⟩:=pe aP i hi
    have eP:=uN
    unfold left at eP
    simp only [List.mem_filter,List.mem_range] at eP
    have hlt:=eP.1
    have Sz:i<l.length:=by simpa using hlt
    have vO:l.toArray[i]?=some (l.getD i default):=by simp [Sz]
    obtain ⟨pre,post,j6⟩:=List.append_of_mem uN
    rw [j6] at LJ
    have vR:∀ k ∈ pre,k<i:=fun k hk=>(List.pairwise_append.1 LJ).2.2 k hk i (by simp)
    have Ay:∀ k ∈ post,i<k:=fun k hk=>(List.pairwise_cons.1 (List.pairwise_append.1 LJ).2.1).1 k hk
    have vL:left l.toArray (aP.setIfInBounds i true)=pre++post:=by
     have e1:left l.toArray (aP.setIfInBounds i true)=(left l.toArray aP).filter fun k=>k != i:=by
      unfold left
      rw [List.filter_filter]
      apply List.filter_congr
      intro k hk
      by_cases xT:k=i
      ·subst xT
       have:k<aP.size:=by omega
       simp [this]
      ·simp [Array.getElem?_setIfInBounds_ne (Ne.symm xT),xT]
     rw [e1,j6,List.filter_append,List.filter_cons]
     simp only [bne_self_eq_false,Bool.false_eq_true,if_false]
     rw [List.filter_eq_self.2 (fun k hk=>by have:=vR k hk; simp; omega),List.filter_eq_self.2 (fun k hk=>by have:=Ay k hk; simp; omega)]
    rw [j6,List.map_append,List.map_cons] at Be
    have FC:=qR _ _ (by
     intro x hx
     simp only [List.mem_map] at hx
     obtain ⟨k,hk,rfl⟩:=hx
     have h1:=B5 i (by simpa using hlt)
     rw [vO] at h1
     simp only [Bool.and_eq_true,List.all_eq_true] at h1
     have xT:=vR k hk
     have h2:=h1.2 k (by simpa using xT)
     have Lz:l.toArray[k]?=some (l.getD k default):=by simp [show k<l.length by omega]
     rw [Lz] at h2
     simp only [Bool.or_eq_true] at h2
     rcases h2 with h2 | h2
     ·exact h2
     ·exfalso
      have h3:=kx hcl fE 6 k i _ vO (qJ _ vO) h2
      have h4:k ∈ left l.toArray aP:=by rw [j6]; simp [hk]
      unfold left at h4
      simp only [List.mem_filter,List.mem_range] at h4
      have h5:k<aP.size:=by omega
      have h6:=h4.2
      simp [h5] at h3 h6
      rw [h3] at h6; cases h6) Be
    obtain ⟨lv,m1,pa,kj⟩:=FC
    unfold wpOp
    rw [vO]
    simp only
    refine BB Wh (Wh _ (Array.mem_of_getElem? vO)) pa c0 a0 _ _ LL ?_
    intro a' c' om FT
    refine ih (aP.setIfInBounds i true) _ m1 c' a' (by simpa using fE) ?_ ?_ ?_ om (Aw.trans FT.grow)
    ·rw [vL]
     rw [j6] at hlen
     simp at hlen ⊢; omega
    ·intro j o Wz hj e he hb
     have ju:∀ q,aP.getD q false=true→(aP.setIfInBounds i true).getD q false=true:=by
      intro q hq
      by_cases O3:q=i
      ·subst O3
       have:q<aP.size:=by omega
       simp [this]
      ·simpa [Array.getElem?_setIfInBounds_ne (Ne.symm O3)] using hq
     apply ju
     by_cases B9:j=i
     ·subst B9; exact qJ o Wz e he hb
     ·refine hcl j o Wz ?_ e he hb
      simpa [Array.getElem?_setIfInBounds_ne (Ne.symm B9)] using hj
    ·rw [vL,List.map_append]; exact kj
 have iY:left l.toArray (Array.replicate l.toArray.size false)=List.range l.length:=by
  unfold left
  rw [List.filter_eq_self.2]
  ·simp
  ·intro i hi
   simp at hi
   simp [hi]
 have om:oh N ⟨{ c.w with drawn:=c.w.drawn+1 },c.B,c.O⟩ e m a:=by
  obtain ⟨mr,SV⟩:=hr.mem.ext (pr:=pr) { c.w with drawn:=c.w.drawn+1 } rfl rfl rfl (Nat.le_succ _) (Nat.le_refl _) (fun _ _=>rfl)
  exact ⟨fun i=>SV.A4 (hr.env i),mr,hr.size,hr.defers⟩
 have ye:Grow pr c ⟨{ c.w with drawn:=c.w.drawn+1 },c.B,c.O⟩:=(hr.mem.ext (pr:=pr) { c.w with drawn:=c.w.drawn+1 } rfl rfl rfl (Nat.le_succ _) (Nat.le_refl _) (fun _ _=>rfl)).2.grow
 refine key l.toArray.size (Array.replicate l.toArray.size false) e m ⟨{ c.w with drawn:=c.w.drawn+1 },c.B,c.O⟩ a (by simp) (by rw [iY]; simp) ?_ (by rw [iY]; exact hc) om ye
 intro i o ho hl
 have:i<l.toArray.size:=by
  rcases Nat.lt_or_ge i l.toArray.size with h' | h'
  ·exact h'
  ·simp at h'; simp [List.getElem?_eq_none h'] at ho
 simp at this
 simp [this] at hl
theorem qb (l:List Oper) (eh:List Nat) (h:eh.length=l.length):((List.range l.length).map fun i=>(l.getD i default,eh.getD i 2))=l.zip eh:=by
 apply List.ext_getElem?
 intro i
 simp only [List.getElem?_map,List.zip,List.getElem?_zipWith]
 by_cases hi:i<l.length
 ·have fQ:i<eh.length:=by omega
  simp [hi,fQ]
 ·simp [hi]
theorem LH.eY {id:Nat} {l:List Oper} {y:Code} {Q:Exit→Env→Mem→Prop} {e:Env} {m:Mem} (sZ:P.follows .mixedOrders=true) (ro:List Nat) (eh:List Nat) (el:List (Nat × LV)) (ml:List (Nat × LE)) (hlen:eh.length=l.length) (hd:gX N l=true) (iD:vv l.toArray eh=true)
  (h:cE P pr ro l.toArray (l.zip eh) (fun e m=>Wk pr e m (Env.of el) (Mem.of ml)) e m) (hr:LH P N pr y Q (Env.of el) (Mem.of ml)):LH P N pr (.seq (.region id l.toArray true) y) Q e m:=by
  obtain ⟨e',m',hK,hc⟩:=jJ _ h
  rw [← qb l eh hlen] at hc
  exact LH.seq (LH.A3 sZ ro eh hd iD hc (LH.wk hK hr))
section
variable {e:Env} {m:Mem} {d:Option Nat} {ty:TypeId} {pos:String} {af:Array Edge} {K:Env→Mem→Prop}
theorem u9 (op:Op) (md j:Nat) (want:Bool):gx P pr ro ops md ⟨d,op,ty,pos,af,some (j,want)⟩ K e m=match (ops[j]?).bind (·.dst) with
  | some q=>match e q with
   | .bool t=>if t=want then gx P pr ro ops md ⟨d,op,ty,pos,af,.none⟩ K e m else K (e.gh d (.tup [])) m
   | .tup []=>K (e.gh d (.tup [])) m
   | _=>False
  | .none=>False:=by
 unfold gx
 simp only [gd]
 cases hq:(ops[j]?).bind (·.dst) with
 | none=>rfl
 | some q =>
  simp only
  cases he:e q
  case tup vs=>cases vs <;> rfl
  case bool t =>
   simp only
   by_cases ht:t=want
   ·subst ht
    simp only [beq_self_eq_true,if_true]
    split <;> first | exact IC .. | rfl
   ·have:(t == want)=false:=by simpa using ht
    simp only [this,ht,if_false]
  all_goals rfl
where
 IC {P:Program} {pr:Nat→Prop} {ro:List Nat} {d:Option Nat} {op:Op} {ty:TypeId} {pos:String} {af:Array Edge} {g g':Option (Nat × Bool)} {ev:Operand→LV} {m:Mem} {K:LV→Mem→Prop}:LOp P pr ro ⟨d,op,ty,pos,af,g⟩ ev m K=LOp P pr ro ⟨d,op,ty,pos,af,g'⟩ ev m K:=rfl
end
attribute [go_sem] List.zip_cons_cons List.zip_nil_left List.getElem?_toArray Option.bind_some
end
end Go.L
