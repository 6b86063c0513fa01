import Derived.Below
import Derived.Orders
import Derived.Deep.MidRow
import Derived.Laws.AppendOwn
import Derived.Laws.AppendOwnNone
import Derived.Laws.StructEq
import Derived.KernelRfl
import Derived.Laws.MakeOwn
import Derived.Laws.OwnMore
import Derived.Great.BuildSlice
import Derived.Deep.LoopGhost
set_option linter.unusedVariables false
set_option linter.unusedSimpArgs false
namespace Go.L
theorem o3 (w:World) (o:Obj) (i:Nat) (h:i<w.heap.size):(w.alloc o).heap[i]?=w.heap[i]?:=by
 show (w.heap.push o)[i]?=_
 rw [Array.getElem?_push_lt h,Array.getElem?_eq_getElem h]
inductive LV where
 | fg
 | int (k:IntKind) (n:Int)
 | bool (b:Bool)
 | nil
 | nilp
 | lst (k:Nat) (xs:List LV)
 | sptr (cs:List LV)
 | arr (id n:Nat)
 | ptr (id o:Nat)
 | eptr (id n i o:Nat)
 | agg (cs:List LV)
 | tup (vs:List LV)
 | fn (f:Nat) (cap:List LV)
 /-- a slice of N2 the length alone is known -/
 | slen (n:Nat)
 /-- a slice Vj reads as xs,with no room behind,never written -/
 | full (k:Nat) (xs:List LV)
 | str (s:ByteArray)
 /-- the address of an iterator -/
 | it (r:Nat)
 /-- no function -/
 | nilf
 /-- a function with ZF first arguments -/
 | bfn (f:Nat) (fs:List LV)
 | mp (id:Nat)
 deriving Inhabited
inductive LE where
 | box (cs:List LV)
 | arr (e k:Nat) (xs:List LV)
 | map (kt vt:Nat) (es:List (LV × LV))
 /-- a row ZV elements own Q6: os abK at N2 cells (and the element type and ZF cells of the Q6 there) -/
 | nest (e k:Nat) (os:List (Nat × Nat × Nat)) (xs:List LV)
 /-- abO a row,of N2 the slice at the cell o of the element i is the row id2 (of n2 elements) -/
 | de (e k:Nat) (os:List (Nat × Nat × Nat)) (xs:List LV) (i o id2 n2:Nat)
 /-- a row Vj was given Z2 -/
 | dead
abbrev Mem:=Nat→Option LE
abbrev Env:=Nat→LV
def Mem.none:Mem:=fun _=>Option.none
def Mem.put (m:Mem) (id:Nat) (x:LE):Mem:=fun i=>if i=id then some x else m i
def Env.put (e:Env) (d:Nat) (v:LV):Env:=fun i=>if i=d then v else e i
def Env.fW (e:Env) (d:Option Nat) (v:LV):Env:=match d with | some d=>e.put d v | .none=>e
def Env.of:List (Nat × LV)→Env
 | []=>fun _=>.fg
 | (d,v) :: r=>fun i=>if i=d then v else Env.of r i
def Mem.of:List (Nat × LE)→Mem
 | []=>fun _=>Option.none
 | (d,v) :: r=>fun i=>if i=d then some v else Mem.of r i
mutual
def LV.pure:LV→Bool
 | .sptr cs=>LV.bt cs
 | .arr _ _=>false
 | .ptr _ _=>false
 | .eptr _ _ _ _=>false
 | .mp _=>false
 | .agg cs=>LV.bt cs
 | .tup cs=>LV.bt cs
 | .fn _ cs=>LV.bt cs
 | .bfn _ cs=>LV.bt cs
 | _=>true
def LV.bt:List LV→Bool
 | []=>true
 | x :: xs=>x.pure && LV.bt xs
end
mutual
/-- We the value not Vd of id? -/
def LV.bo (id:Nat):LV→Bool
 | .sptr cs=>LV.cD id cs
 | .arr i _=>i != id
 | .ptr i _=>i != id
 | .eptr i _ _ _=>i != id
 | .mp i=>i != id
 | .agg cs=>LV.cD id cs
 | .tup cs=>LV.cD id cs
 | .fn _ cs=>LV.cD id cs
 | .bfn _ cs=>LV.cD id cs
 | _=>true
def LV.cD (id:Nat):List LV→Bool
 | []=>true
 | x :: xs=>x.bo id && LV.cD id xs
end
def LE.iU (id:Nat):LE→Bool
 | .box cs=>LV.cD id cs
 | .de _ _ _ _ _ _ id2 _=>id2 != id
 | _=>true
def LV.cells:LV→List LV
 | .agg cs=>cs
 | x=>[x]
def LV.scalar:LV→Bool
 | .fg=>false
 | .agg _=>false
 | .tup _=>false
 | _=>true
inductive BE where
 | box (b n:Nat)
 | arr (v:Value) (k len:Nat) (ins:List Nat)
 | mp (b:Nat)
def BE.has:BE→Nat→Prop
 | .box b' _,b=>b'=b
 | .arr v _ _ ins,b=>v.ownBlock=some b ∨ b ∈ ins
 | .mp b',b=>b'=b
def BE.jE:BE→BE→Prop
 | .box b n,y=>y=.box b n
 | .arr u k len _,y=>∃ u' lO ins,y=.arr u' k lO ins∧len≤lO∧(len=lO→u'=u)
 | .mp b,y=>y=.mp b
theorem BE.jE.refl (x:BE):x.jE x:=by
 cases x with
 | box _ _=>rfl
 | arr u k len ins=>exact ⟨_,_,_,rfl,Nat.le_refl _,fun _=>rfl⟩
 | mp _=>rfl
theorem BE.jE.trans {x y z:BE} (h:x.jE y) (h':y.jE z):x.jE z:=by
 cases x with
 | box b n=>simp only [BE.jE] at h; subst h; exact h'
 | arr u k len ins=>simp only [BE.jE] at h; obtain ⟨u',lO,lL,rfl,h1,h2⟩:=h; obtain ⟨u2,abw,abr,rfl,h3,h4⟩:=h'; exact ⟨_,_,_,rfl,by omega,fun he=>by rw [h4 (by omega),h2 (by omega)]⟩
 | mp b=>simp only [BE.jE] at h; subst h; exact h'
structure Cx where
 w:World
 B:Nat→Option BE
 O:Nat→Prop
def Cx.own (c:Cx) (b:Nat):Prop:=∃ id be,c.B id=some be∧be.has b
def Cx.X (c:Cx) (b:Nat):Prop:=c.O b ∨ c.own b
def flat (vs:List Value):List Value:=vs.flatMap fun v=>v.cells.toList
mutual
def ar (c:Cx):LV→Value→Prop
 | .fg,_=>True
 | .int k n,v=>v=.int k n
 | .bool b,v=>v=.bool b
 | .nil,v=>v=.slice Option.none 0 0
 | .slen n,v=>∃ a cap,v=.slice a n cap
 | .nilf,v=>v=.nilFunc
 | .nilp,v=>v=.pointer Option.none
 | .lst k xs,v=>∃ a cap,v=.slice a xs.length cap∧xs.length≤cap∧(a=Option.none→cap=0)∧LV.bt xs=true ∧
   (xs=[] ∨ ∃ b off vs,a=some ⟨b,off,Option.none⟩∧b<c.w.heap.size∧¬ c.X b∧aE c xs vs∧(∀ u ∈ vs,u.cells.size=k∧∀ y ∈ u.cells,y.oneCell'=true)∧c.w.rangeAt b off (flat vs))
 | .full k xs,v=>∃ a,v=.slice a xs.length xs.length∧(a=Option.none→xs=[])∧LV.bt xs=true ∧
   (xs=[] ∨ ∃ b off vs,a=some ⟨b,off,Option.none⟩∧b<c.w.heap.size∧¬ c.X b∧aE c xs vs∧(∀ u ∈ vs,u.cells.size=k∧∀ y ∈ u.cells,y.oneCell'=true)∧c.w.rangeAt b off (flat vs))
 | .str s,v=>v=.string s
 | .it r,v=>v=.pointer (some ⟨r,0,Option.none⟩)
 | .sptr cs,v=>∃ b off vs,v=.pointer (some ⟨b,off,Option.none⟩)∧b<c.w.heap.size∧¬ c.X b∧aE c cs vs∧(∀ y ∈ vs,y.oneCell'=true)∧c.w.rangeAt b off vs
 | .arr id n,v=>v.oneCell'=true∧∃ u k len ins,c.B id=some (.arr u k len ins)∧n≤len∧(n=len→v=u)
 | .ptr id o,v=>∃ b n,c.B id=some (.box b n)∧v=.pointer (some ⟨b,o,Option.none⟩)
 | .eptr id n i o,v=>v.oneCell'=true∧∃ u k len ins,c.B id=some (.arr u k len ins)∧n≤len∧(n=len→∃ b,u.ownBlock=some b∧v=.pointer (some ⟨b,i * k+o,Option.none⟩))
 | .mp id,v=>∃ b,c.B id=some (.mp b)∧v=.map (some b)
 | .agg cs,v=>∃ vs,v=.agg vs.toArray∧aE c cs vs
 | .tup cs,v=>∃ vs,v=.tuple vs.toArray∧aE c cs vs
 | .fn f cs,v=>∃ vs,v=.func (.func f) #[] vs.toArray∧aE c cs vs
 | .bfn f cs,v=>∃ vs,v=.func (.func f) vs.toArray #[]∧aE c cs vs
def aE (c:Cx):List LV→List Value→Prop
 | [],vs=>vs=[]
 | x :: xs,vs=>∃ v fR,vs=v :: fR∧ar c x v∧aE c xs fR
end
theorem aE.length {c:Cx}:∀ {xs:List LV} {vs:List Value},aE c xs vs→xs.length=vs.length
 | [],vs,h=>by simp [aE] at h; simp [h]
 | x :: xs,vs,h=>by
  simp only [aE] at h
  obtain ⟨v,fR,rfl,_,h'⟩:=h
  simp [h'.length]
theorem aE.get {c:Cx}:∀ {xs:List LV} {vs:List Value},aE c xs vs→∀ {i:Nat} {x:LV},xs[i]?=some x→∃ v,vs[i]?=some v∧ar c x v
 | [],vs,h,i,x,hx=>by simp at hx
 | y :: xs,vs,h,i,x,hx=>by
  simp only [aE] at h
  obtain ⟨v,fR,rfl,hv,h'⟩:=h
  cases i with
  | zero=>simp at hx; subst hx; exact ⟨v,by simp,hv⟩
  | succ i=>simp at hx; obtain ⟨u,hu,hr⟩:=h'.get hx; exact ⟨u,by simpa using hu,hr⟩
theorem aE.of {c:Cx}:∀ {xs:List LV} {vs:List Value},xs.length=vs.length→(∀ (i:Nat) x v,xs[i]?=some x→vs[i]?=some v→ar c x v)→aE c xs vs
 | [],vs,h,_=>by simp [aE]; exact List.eq_nil_of_length_eq_zero (by simpa using h.symm)
 | x :: xs,[],h,_=>by simp at h
 | x :: xs,v :: vs,h,hr=>by
  simp only [aE]
  exact ⟨v,vs,rfl,hr 0 x v (by simp) (by simp),aE.of (by simpa using h) fun i y u hy hu=>hr (i+1) y u (by simpa using hy) (by simpa using hu)⟩
theorem aE.append {c:Cx} {xs ys:List LV} {vs us:List Value} (h:aE c xs vs) (h':aE c ys us):aE c (xs++ys) (vs++us):=by
 induction xs generalizing vs with
 | nil=>simp [aE] at h; subst h; simpa using h'
 | cons x xs ih =>
  simp only [aE] at h
  obtain ⟨v,fR,rfl,hv,h2⟩:=h
  simp only [List.cons_append,aE]
  exact ⟨v,fR++us,rfl,hv,ih h2⟩
theorem aE.drop {c:Cx} {xs:List LV} {vs:List Value} (h:aE c xs vs) (n:Nat):aE c (xs.drop n) (vs.drop n):=by
 induction n generalizing xs vs with
 | zero=>simpa using h
 | succ n ih =>
  cases xs with
  | nil=>simp [aE] at h; subst h; simp [aE]
  | cons x xs =>
   simp only [aE] at h
   obtain ⟨v,fR,rfl,hv,h2⟩:=h
   simpa using ih h2
theorem aE.take {c:Cx} {xs:List LV} {vs:List Value} (h:aE c xs vs) (n:Nat):aE c (xs.take n) (vs.take n):=by
 induction n generalizing xs vs with
 | zero=>simp [aE]
 | succ n ih =>
  cases xs with
  | nil=>simp [aE] at h; subst h; simp [aE]
  | cons x xs =>
   simp only [aE] at h
   obtain ⟨v,fR,rfl,hv,h2⟩:=h
   simp only [List.take_succ_cons,aE]
   exact ⟨v,_,rfl,hv,ih h2⟩
theorem c6:∀ {xs:List LV},LV.bt xs=true ↔ ∀ x ∈ xs,x.pure=true
 | []=>by simp [LV.bt]
 | x :: xs=>by simp [LV.bt,c6 (xs:=xs)]
theorem ur {id:Nat}:∀ {xs:List LV},LV.cD id xs=true ↔ ∀ x ∈ xs,x.bo id=true
 | []=>by simp [LV.cD]
 | x :: xs=>by simp [LV.cD,ur (xs:=xs)]
mutual
theorem gU {id:Nat}:∀ (x:LV),x.pure=true→x.bo id=true
 | .fg,_ | .int _ _,_ | .bool _,_ | .nil,_ | .slen _,_ | .full _ _,_ | .str _,_ | .it _,_ | .nilf,_ | .nilp,_ | .lst _ _,_=>by simp [LV.bo]
 | .sptr cs,h=>by simp only [LV.pure] at h; simp only [LV.bo]; exact az cs h
 | .arr _ _,h | .ptr _ _,h | .eptr _ _ _ _,h | .mp _,h=>by simp [LV.pure] at h
 | .agg cs,h=>by simp only [LV.pure] at h; simp only [LV.bo]; exact az cs h
 | .tup cs,h=>by simp only [LV.pure] at h; simp only [LV.bo]; exact az cs h
 | .fn _ cs,h=>by simp only [LV.pure] at h; simp only [LV.bo]; exact az cs h
 | .bfn _ cs,h=>by simp only [LV.pure] at h; simp only [LV.bo]; exact az cs h
theorem az {id:Nat}:∀ (xs:List LV),LV.bt xs=true→LV.cD id xs=true
 | [],_=>by simp [LV.cD]
 | x :: xs,h=>by
  simp only [LV.bt,Bool.and_eq_true] at h
  simp only [LV.cD,Bool.and_eq_true]
  exact ⟨gU x h.1,az xs h.2⟩
end
def js (x y:Option BE):Prop :=
 match x with
 | .none=>True
 | some (.box b n)=>y=some (.box b n)
 | some (.arr u k len _)=>∃ u' lO lL,y=some (.arr u' k lO lL)∧len≤lO∧(len=lO→u'=u)
 | some (.mp b)=>y=some (.mp b)
theorem js.refl (x:Option BE):js x x:=by
 unfold js; split
 ·trivial
 ·rfl
 ·exact ⟨_,_,_,rfl,Nat.le_refl _,fun _=>rfl⟩
 ·rfl
structure Cx.Le (c c':Cx):Prop where
 size:c.w.heap.size≤c'.w.heap.size
 heap:∀ b,b<c.w.heap.size→¬ c.X b→c'.w.heap[b]?=c.w.heap[b]?∧¬ c'.X b
theorem mv {w w':World} {b off:Nat} {cs:List Value} (h:w.rangeAt b off cs) (hb:w'.heap[b]?=w.heap[b]?):w'.rangeAt b off cs:=by
 intro j v hv
 rw [World.cell?_of_block (w:=w) (a:=⟨b,off+j,Option.none⟩) hb]
 exact h j v hv
mutual
theorem ar.mono {c c':Cx} (h:c.Le c'):∀ (x:LV) (v:Value),(∀ id,x.bo id=false→js (c.B id) (c'.B id))→ar c x v→ar c' x v
 | .fg,v,_,hr=>by simp only [ar]
 | .int _ _,v,_,hr=>by simpa only [ar] using hr
 | .bool _,v,_,hr=>by simpa only [ar] using hr
 | .nil,v,_,hr=>by simpa only [ar] using hr
 | .slen _,v,_,hr=>by simpa only [ar] using hr
 | .str _,v,_,hr=>by simpa only [ar] using hr
 | .it _,v,_,hr=>by simpa only [ar] using hr
 | .full k xs,v,_,hr=>by
  simp only [ar] at hr ⊢
  obtain ⟨a,rfl,hn,hp,hx⟩:=hr
  refine ⟨a,rfl,hn,hp,?_⟩
  rcases hx with hx | ⟨b,off,vs,rfl,hb,hX,hl,hk,hra⟩
  ·exact .inl hx
  ·obtain ⟨h1,h2⟩:=h.heap b hb hX
   exact .inr ⟨b,off,vs,rfl,Nat.lt_of_lt_of_le hb h.size,h2,aE.mono h xs vs (fun id cj=>by rw [az xs hp] at cj; cases cj) hl,hk,mv hra h1⟩
 | .nilf,v,_,hr=>by simpa only [ar] using hr
 | .nilp,v,_,hr=>by simpa only [ar] using hr
 | .lst k xs,v,_,hr=>by
  simp only [ar] at hr ⊢
  obtain ⟨a,cap,rfl,hcap,hn,hp,hx⟩:=hr
  refine ⟨a,cap,rfl,hcap,hn,hp,?_⟩
  rcases hx with hx | ⟨b,off,vs,rfl,hb,hX,hl,hk,hra⟩
  ·exact .inl hx
  ·obtain ⟨h1,h2⟩:=h.heap b hb hX
   exact .inr ⟨b,off,vs,rfl,Nat.lt_of_lt_of_le hb h.size,h2,aE.mono h xs vs (fun id cj=>by rw [az xs hp] at cj; cases cj) hl,hk,mv hra h1⟩
 | .sptr cs,v,hB,hr=>by
  simp only [ar] at hr ⊢
  obtain ⟨b,off,vs,rfl,hb,hX,hl,hk,hra⟩:=hr
  obtain ⟨h1,h2⟩:=h.heap b hb hX
  exact ⟨b,off,vs,rfl,Nat.lt_of_lt_of_le hb h.size,h2,aE.mono h cs vs (fun id cj=>hB id (by simpa only [LV.bo] using cj)) hl,hk,mv hra h1⟩
 | .arr id n,v,hB,hr=>by
  simp only [ar] at hr ⊢
  obtain ⟨h1,u,k,len,ins,hu,hn,hv⟩:=hr
  have:=hB id (by simp [LV.bo])
  rw [hu] at this
  obtain ⟨u',lO,lL,vz,hl,he⟩:=this
  refine ⟨h1,u',k,lO,lL,vz,Nat.le_trans hn hl,fun e=>?_⟩
  rw [he (by omega)]; exact hv (by omega)
 | .ptr id o,v,hB,hr=>by
  simp only [ar] at hr ⊢
  obtain ⟨b,n,hu,hv⟩:=hr
  have:=hB id (by simp [LV.bo])
  rw [hu] at this
  exact ⟨b,n,this,hv⟩
 | .eptr id n i o,v,hB,hr=>by
  simp only [ar] at hr ⊢
  obtain ⟨h1,u,k,len,ins,hu,hn,hv⟩:=hr
  have:=hB id (by simp [LV.bo])
  rw [hu] at this
  obtain ⟨u',lO,lL,vz,hl,he⟩:=this
  refine ⟨h1,u',k,lO,lL,vz,Nat.le_trans hn hl,fun e=>?_⟩
  rw [he (by omega)]; exact hv (by omega)
 | .mp id,v,hB,hr=>by
  simp only [ar] at hr ⊢
  obtain ⟨b,hu,hv⟩:=hr
  have:=hB id (by simp [LV.bo])
  rw [hu] at this
  exact ⟨b,this,hv⟩
 | .agg cs,v,hB,hr=>by
  simp only [ar] at hr ⊢
  obtain ⟨vs,rfl,hl⟩:=hr
  exact ⟨vs,rfl,aE.mono h cs vs (fun id cj=>hB id (by simpa only [LV.bo] using cj)) hl⟩
 | .tup cs,v,hB,hr=>by
  simp only [ar] at hr ⊢
  obtain ⟨vs,rfl,hl⟩:=hr
  exact ⟨vs,rfl,aE.mono h cs vs (fun id cj=>hB id (by simpa only [LV.bo] using cj)) hl⟩
 | .fn f cs,v,hB,hr=>by
  simp only [ar] at hr ⊢
  obtain ⟨vs,rfl,hl⟩:=hr
  exact ⟨vs,rfl,aE.mono h cs vs (fun id cj=>hB id (by simpa only [LV.bo] using cj)) hl⟩
 | .bfn f cs,v,hB,hr=>by
  simp only [ar] at hr ⊢
  obtain ⟨vs,rfl,hl⟩:=hr
  exact ⟨vs,rfl,aE.mono h cs vs (fun id cj=>hB id (by simpa only [LV.bo] using cj)) hl⟩
theorem aE.mono {c c':Cx} (h:c.Le c'):∀ (xs:List LV) (vs:List Value),(∀ id,LV.cD id xs=false→js (c.B id) (c'.B id))→aE c xs vs→aE c' xs vs
 | [],vs,_,hr=>by simpa only [aE] using hr
 | x :: xs,vs,hB,hr=>by
  simp only [aE] at hr ⊢
  obtain ⟨v,fR,rfl,hv,hl⟩:=hr
  refine ⟨v,fR,rfl,ar.mono h x v (fun id cj=>hB id (by simp [LV.cD,cj])) hv,aE.mono h xs fR (fun id cj=>hB id (by simp [LV.cD,cj])) hl⟩
end
theorem eZ {c:Cx} {x:LV} {v:Value} (hs:x.scalar=true) (h:ar c x v):v.oneCell'=true:=by
 cases x <;> simp only [LV.scalar,ar,Bool.false_eq_true] at hs h
 case int=>subst h; rfl
 case bool=>subst h; rfl
 case nil=>subst h; rfl
 case nilp=>subst h; rfl
 case lst=>obtain ⟨_,_,rfl,_⟩:=h; rfl
 case sptr=>obtain ⟨_,_,_,rfl,_⟩:=h; rfl
 case arr=>exact h.1
 case ptr=>obtain ⟨_,_,_,rfl⟩:=h; rfl
 case eptr=>exact h.1
 case fn=>obtain ⟨_,rfl,_⟩:=h; rfl
 case bfn=>obtain ⟨_,rfl,_⟩:=h; rfl
 case slen=>obtain ⟨_,_,rfl⟩:=h; rfl
 case full=>obtain ⟨_,rfl,_⟩:=h; rfl
 case str=>subst h; rfl
 case it=>subst h; rfl
 case nilf=>subst h; rfl
 case mp=>obtain ⟨_,_,rfl⟩:=h; rfl
theorem nb {x:LV} (hs:x.scalar=true):x.cells=[x]:=by
 cases x <;> simp_all [LV.scalar,LV.cells]
theorem dF {v:Value} (h:v.oneCell'=true):v.cells=#[v]:=by
 cases v <;> simp_all [Value.oneCell',Value.cells]
theorem ar.cellsOf {c:Cx} {x:LV} {v:Value} (h:ar c x v) (hs:x.cells.all LV.scalar=true):aE c x.cells v.cells.toList∧∀ y ∈ v.cells,y.oneCell'=true:=by
 by_cases hx:x.scalar=true
 ·have h1:=eZ hx h
  rw [nb hx,dF h1]
  simp [aE,h,h1]
 ·cases x <;> simp [LV.scalar,LV.cells] at hx hs
  case agg cs =>
   simp only [ar] at h
   obtain ⟨vs,rfl,hl⟩:=h
   simp only [LV.cells,Value.cells]
   refine ⟨by simpa using hl,fun y hy=>?_⟩
   obtain ⟨i,hi⟩:=List.mem_iff_getElem?.1 (by simpa using hy:y ∈ vs)
   have hlen:=hl.length
   have hlt:i<cs.length:=by rw [hlen]; exact (List.getElem?_eq_some_iff.1 hi).1
   obtain ⟨u,hu,hru⟩:=hl.get (List.getElem?_eq_getElem hlt)
   rw [hi] at hu; cases hu
   exact eZ (hs _ (List.getElem_mem hlt)) hru
end Go.L
namespace Go.L
def tk (c:Cx) (e k:Nat) (x:LV) (v:Value) (bs:List Nat):Prop :=
 (x=.fg∧bs=[]) ∨ ∃ ys us,x=.lst k ys∧0<k∧c.w.ownsRow 0 e k v ys.length (flat us)∧aE c ys us∧(∀ u ∈ us,u.cells.size=k∧∀ y ∈ u.cells,y.oneCell'=true)∧LV.bt ys=true∧bs=v.ownBlock.toList
def fB (c:Cx) (os:List (Nat × Nat × Nat)) (o:Nat) (x:LV) (v:Value) (bs:List Nat):Prop :=
 match os.lookup o with
 | some (e,k)=>tk c e k x v bs
 | .none=>ar c x v∧x.pure=true∧bs=[]
def gB (c:Cx) (os:List (Nat × Nat × Nat)):Nat→List LV→List Value→List Nat→Prop
 | _,[],ws,bs=>ws=[]∧bs=[]
 | o,x :: xs,ws,bs=>∃ w Fc b1 b2,ws=w :: Fc∧bs=b1++b2∧fB c os o x w b1∧gB c os (o+1) xs Fc b2
def KZ (c:Cx) (os:List (Nat × Nat × Nat)) (x:LV) (v:Value) (bs:List Nat):Prop:=∃ cs ws,x=.agg cs∧v=.agg ws.toArray∧gB c os 0 cs ws bs
def dG (c:Cx) (os:List (Nat × Nat × Nat)):List LV→List Value→List Nat→Prop
 | [],vs,bs=>vs=[]∧bs=[]
 | x :: xs,vs,bs=>∃ v fR b1 b2,vs=v :: fR∧bs=b1++b2∧KZ c os x v b1∧dG c os xs fR b2
def Cc (es:Array MapEntry) (ck:Nat):Prop:=(es.toList.map (·.born)).Nodup∧∀ x ∈ es.toList,x.born<ck
def bJ (c:Cx):Option LE→Option BE→Prop
 | .none,y=>y=.none
 | some (.box cs),y=>∃ b vs e,y=some (.box b cs.length)∧c.w.heap[b]?=some (.cells vs.toArray e (0,0))∧aE c cs vs∧∀ v ∈ vs,v.oneCell'=true
 | some (.arr e k xs),y=>∃ u vs,y=some (.arr u k xs.length [])∧0<k∧c.w.ownsRow 0 e k u xs.length (flat vs)∧aE c xs vs∧(∀ v ∈ vs,v.cells.size=k∧∀ y ∈ v.cells,y.oneCell'=true)∧LV.bt xs=true
 | some (.map kt vt es),y=>∃ b j3 clock,y=some (.mp b)∧c.w.heap[b]?=some (.map j3 clock)∧aE c (es.map (·.1)) (j3.toList.map (·.key))∧aE c (es.map (·.2)) (j3.toList.map (·.val))∧LV.bt (es.map (·.1))=true∧LV.bt (es.map (·.2))=true∧(es.map (·.1)).Nodup∧Cc j3 clock
 | some (.nest e k os xs),y=>∃ u vs bs,y=some (.arr u k xs.length bs)∧0<k∧c.w.ownsRow 0 e k u xs.length (flat vs)∧dG c os xs vs bs∧(∀ v ∈ vs,v.cells.size=k∧∀ y ∈ v.cells,y.oneCell'=true)∧bs.Nodup∧∀ b,u.ownBlock=some b→b ∉ bs
 | some (.de e k os xs i o id2 n2),y=>∃ u vs bs,y=some (.arr u k xs.length bs)∧0<k∧c.w.ownsRow 0 e k u xs.length (flat vs)∧dG c os xs vs bs∧(∃ g v,u.ownBlock=some g∧c.w.cell? ⟨g,i * k+o,Option.none⟩=some v∧ar c (.arr id2 n2) v)∧(∀ v ∈ vs,v.cells.size=k∧∀ y ∈ v.cells,y.oneCell'=true)∧bs.Nodup∧∀ b,u.ownBlock=some b→b ∉ bs
 | some .dead,y=>∃ u k len,y=some (.arr u k len [])∧u.ownBlock=Option.none
theorem cV {w w':World} {base e k n:Nat} {u:Value} {vs:List Value} (h:w.ownsRow base e k u n vs) (hb:∀ b,u.ownBlock=some b→w'.heap[b]?=w.heap[b]?):w'.ownsRow base e k u n vs:=by
 refine ⟨h.1,?_⟩
 rcases h.2 with hn | ⟨g,cap,cur,rfl,h1,h2,rest⟩
 ·exact .inl hn
 ·exact .inr ⟨g,cap,cur,rfl,h1,(hb g rfl).trans h2,rest⟩
theorem qW {w w':World} {g:Nat} (h:w'.heap[g]?=w.heap[g]?) (o:Nat):w'.cell? ⟨g,o,Option.none⟩=w.cell? ⟨g,o,Option.none⟩:=by simp [World.cell?,h]
theorem tk.mono {c c':Cx} (hle:c.Le c') {e k:Nat} {x:LV} {v:Value} {bs:List Nat} (hh:∀ b ∈ bs,c'.w.heap[b]?=c.w.heap[b]?) (h:tk c e k x v bs):tk c' e k x v bs:=by
 rcases h with h | ⟨ys,us,h1,h0,h2,h3,h4,h5,h6⟩
 ·exact .inl h
 ·refine .inr ⟨ys,us,h1,h0,cV h2 (fun b hb=>hh b (by rw [h6,hb]; simp)),aE.mono hle ys us (fun id cj=>by rw [az ys h5] at cj; cases cj) h3,h4,h5,h6⟩
theorem tk.lt {c:Cx} {e k:Nat} {x:LV} {v:Value} {bs:List Nat} (h:tk c e k x v bs):∀ b ∈ bs,b<c.w.heap.size:=by
 rcases h with ⟨_,rfl⟩ | ⟨ys,us,h1,h0,h2,h3,h4,h5,rfl⟩
 ·simp
 ·intro b hb
  have:v.ownBlock=some b:=by simpa using hb
  exact (h2.lt b this).2
theorem fB.mono {c c':Cx} (hle:c.Le c') {os:List (Nat × Nat × Nat)} {o:Nat} {x:LV} {v:Value} {bs:List Nat} (hh:∀ b ∈ bs,c'.w.heap[b]?=c.w.heap[b]?) (h:fB c os o x v bs):fB c' os o x v bs:=by
 unfold fB at *
 split
 ·rename_i e k he
  rw [he] at h
  exact tk.mono hle hh h
 ·rename_i he
  rw [he] at h
  exact ⟨ar.mono hle x v (fun id cj=>by rw [gU x h.2.1] at cj; cases cj) h.1,h.2⟩
theorem fB.lt {c:Cx} {os:List (Nat × Nat × Nat)} {o:Nat} {x:LV} {v:Value} {bs:List Nat} (h:fB c os o x v bs):∀ b ∈ bs,b<c.w.heap.size:=by
 unfold fB at h
 split at h
 ·exact tk.lt h
 ·rw [h.2.2]; simp
theorem gB.mono {c c':Cx} (hle:c.Le c') {os:List (Nat × Nat × Nat)}:∀ {o:Nat} {xs:List LV} {ws:List Value} {bs:List Nat},(∀ b ∈ bs,c'.w.heap[b]?=c.w.heap[b]?)→gB c os o xs ws bs→gB c' os o xs ws bs
 | _,[],_,_,_,h=>by simpa only [gB] using h
 | o,x :: xs,ws,bs,hh,h=>by
  simp only [gB] at h ⊢
  obtain ⟨w,Fc,b1,b2,rfl,rfl,h1,h2⟩:=h
  exact ⟨w,Fc,b1,b2,rfl,rfl,h1.mono hle (fun b hb=>hh b (by simp [hb])),gB.mono hle (fun b hb=>hh b (by simp [hb])) h2⟩
theorem gB.lt {c:Cx} {os:List (Nat × Nat × Nat)}:∀ {o:Nat} {xs:List LV} {ws:List Value} {bs:List Nat},gB c os o xs ws bs→∀ b ∈ bs,b<c.w.heap.size
 | _,[],_,_,h=>by simp only [gB] at h; rw [h.2]; simp
 | o,x :: xs,ws,bs,h=>by
  simp only [gB] at h
  obtain ⟨w,Fc,b1,b2,rfl,rfl,h1,h2⟩:=h
  intro b hb
  rcases List.mem_append.1 hb with hb | hb
  ·exact h1.lt b hb
  ·exact gB.lt h2 b hb
theorem dG.mono {c c':Cx} (hle:c.Le c') {os:List (Nat × Nat × Nat)}:∀ {xs:List LV} {vs:List Value} {bs:List Nat},(∀ b ∈ bs,c'.w.heap[b]?=c.w.heap[b]?)→dG c os xs vs bs→dG c' os xs vs bs
 | [],_,_,_,h=>by simpa only [dG] using h
 | x :: xs,vs,bs,hh,h=>by
  simp only [dG] at h ⊢
  obtain ⟨v,fR,b1,b2,rfl,rfl,⟨cs,ws,rfl,hv,h1⟩,h2⟩:=h
  exact ⟨v,fR,b1,b2,rfl,rfl,⟨cs,ws,rfl,hv,h1.mono hle (fun b hb=>hh b (by simp [hb]))⟩,dG.mono hle (fun b hb=>hh b (by simp [hb])) h2⟩
theorem dG.lt {c:Cx} {os:List (Nat × Nat × Nat)}:∀ {xs:List LV} {vs:List Value} {bs:List Nat},dG c os xs vs bs→∀ b ∈ bs,b<c.w.heap.size
 | [],_,_,h=>by simp only [dG] at h; rw [h.2]; simp
 | x :: xs,vs,bs,h=>by
  simp only [dG] at h
  obtain ⟨v,fR,b1,b2,rfl,rfl,⟨cs,ws,rfl,hv,h1⟩,h2⟩:=h
  intro b hb
  rcases List.mem_append.1 hb with hb | hb
  ·exact h1.lt b hb
  ·exact dG.lt h2 b hb
theorem dG.length {c:Cx} {os:List (Nat × Nat × Nat)}:∀ {xs:List LV} {vs:List Value} {bs:List Nat},dG c os xs vs bs→xs.length=vs.length
 | [],_,_,h=>by simp only [dG] at h; simp [h.1]
 | x :: xs,vs,bs,h=>by
  simp only [dG] at h
  obtain ⟨v,fR,b1,b2,rfl,rfl,_,h2⟩:=h
  simp [dG.length h2]
structure cG (c:Cx) (m:Mem):Prop where
 gH:∀ id,bJ c (m id) (c.B id)
 inj:∀ id ZE be dK b,c.B id=some be→c.B ZE=some dK→be.has b→dK.has b→id=ZE
 jT:∀ b,c.own b→¬ c.O b
 vu:∀ b,c.O b→b<c.w.heap.size
theorem bJ.lt {c:Cx} {x:Option LE} {y:Option BE} (h:bJ c x y) {be:BE} {b:Nat} (hy:y=some be) (hb:be.has b):b<c.w.heap.size:=by
 match x with
 | .none=>simp [bJ] at h; rw [h] at hy; cases hy
 | some (.box cs) =>
  simp only [bJ] at h
  obtain ⟨b',vs,e,rfl,hh,_⟩:=h
  cases hy
  simp only [BE.has] at hb
  subst hb
  exact (Array.getElem?_eq_some_iff.1 hh).1
 | some (.arr e k xs) =>
  simp only [bJ] at h
  obtain ⟨u,vs,rfl,hk,bN,_⟩:=h
  cases hy
  have iG:u.ownBlock=some b:=by simpa [BE.has] using hb
  exact (bN.lt b iG).2
 | some (.nest e k os xs) =>
  simp only [bJ] at h
  obtain ⟨u,vs,bs,rfl,hk,bN,hn,_⟩:=h
  cases hy
  rcases hb with hb | hb
  ·exact (bN.lt b hb).2
  ·exact hn.lt b hb
 | some (.de e k os xs i o id2 n2) =>
  simp only [bJ] at h
  obtain ⟨u,vs,bs,rfl,hk,bN,hn,_⟩:=h
  cases hy
  rcases hb with hb | hb
  ·exact (bN.lt b hb).2
  ·exact hn.lt b hb
 | some .dead =>
  simp only [bJ] at h
  obtain ⟨u,k,len,rfl,hu⟩:=h
  cases hy
  rcases hb with hb | hb
  ·rw [hu] at hb; cases hb
  ·cases hb
 | some (.map kt vt es) =>
  simp only [bJ] at h
  obtain ⟨b',j3,ck,rfl,hh,_⟩:=h
  cases hy
  simp only [BE.has] at hb
  subst hb
  exact (Array.getElem?_eq_some_iff.1 hh).1
theorem cG.yB {c:Cx} {m:Mem} (h:cG c m) {b:Nat} (ho:c.own b):b<c.w.heap.size:=by
 obtain ⟨id,be,h1,h2⟩:=ho
 exact (h.gH id).lt h1 h2
theorem cG.fresh {c:Cx} {m:Mem} (h:cG c m) {id:Nat} (hm:m id=.none):c.B id=.none:=by
 have:=h.gH id
 rw [hm] at this
 exact this
structure Grow (pr:Nat→Prop) (c c':Cx):Prop where
 O:c'.O=c.O
 os:c'.w.os=c.w.os
 tape:c'.w.tape=c.w.tape
 output:c'.w.output=c.w.output
 drawn:c.w.drawn≤c'.w.drawn
 size:c.w.heap.size≤c'.w.heap.size
 gT:∀ b,b<c.w.heap.size→¬ c.own b→c'.w.heap[b]?=c.w.heap[b]?
 own:∀ b,c'.own b→c.own b ∨ c.w.heap.size≤b
 CZ:∀ id be,pr id→c.B id=some be→∃ dK,c'.B id=some dK∧be.jE dK
theorem Grow.refl (pr:Nat→Prop) (c:Cx):Grow pr c c :=
 ⟨rfl,rfl,rfl,rfl,Nat.le_refl _,Nat.le_refl _,fun _ _ _=>rfl,fun _ h=>.inl h,fun _ be _ h=>⟨be,h,.refl be⟩⟩
theorem Grow.trans {pr:Nat→Prop} {a b c:Cx} (h:Grow pr a b) (k:Grow pr b c):Grow pr a c where
 O:=k.O.trans h.O
 os:=k.os.trans h.os
 tape:=k.tape.trans h.tape
 output:=k.output.trans h.output
 drawn:=Nat.le_trans h.drawn k.drawn
 size:=Nat.le_trans h.size k.size
 gT:=fun x hx ho=>(k.gT x (Nat.lt_of_lt_of_le hx h.size) (fun hb=>(h.own x hb).elim ho (fun hs=>absurd hx (by omega)))).trans (h.gT x hx ho)
 own:=fun x hx=>(k.own x hx).elim (h.own x) (fun hs=>.inr (Nat.le_trans h.size hs))
 CZ:=fun id be hp hb=>by
  obtain ⟨RX,h1,h2⟩:=h.CZ id be hp hb
  obtain ⟨DX,h3,h4⟩:=k.CZ id RX hp h1
  exact ⟨DX,h3,h2.trans h4⟩
theorem Grow.le {pr:Nat→Prop} {c c':Cx} (h:Grow pr c c'):c.Le c' where
 size:=h.size
 heap:=fun b hb hX=>⟨h.gT b hb (fun ho=>hX (.inr ho)),fun Li=>by
  rcases Li with hO | ho
  ·rw [h.O] at hO; exact hX (.inl hO)
  ·rcases h.own b ho with ho | hs
   ·exact hX (.inr ho)
   ·omega⟩
structure Step (pr:Nat→Prop) (c c':Cx):Prop where
 grow:Grow pr c c'
 ble:∀ id,js (c.B id) (c'.B id)
theorem Step.refl (pr:Nat→Prop) (c:Cx):Step pr c c:=⟨.refl pr c,fun _=>.refl _⟩
theorem Step.yJ {pr:Nat→Prop} {c c':Cx} (h:Step pr c c') {x:LV} {v:Value} (hr:ar c x v):ar c' x v:=ar.mono h.grow.le x v (fun id _=>h.ble id) hr
theorem Step.U7 {pr:Nat→Prop} {c c':Cx} (h:Step pr c c') {x:List LV} {v:List Value} (hr:aE c x v):aE c' x v:=aE.mono h.grow.le x v (fun id _=>h.ble id) hr
theorem bJ.mono {c c':Cx} (hle:c.Le c') (hB:∀ id,js (c.B id) (c'.B id)) {x:Option LE} {y:Option BE} (hh:∀ be b,y=some be→be.has b→c'.w.heap[b]?=c.w.heap[b]?) (h:bJ c x y):bJ c' x y:=by
 match x with
 | .none=>simpa only [bJ] using h
 | some (.box cs) =>
  simp only [bJ] at h ⊢
  obtain ⟨b,vs,e,rfl,h1,h2,h3⟩:=h
  exact ⟨b,vs,e,rfl,(hh _ b rfl rfl).trans h1,aE.mono hle cs vs (fun id _=>hB id) h2,h3⟩
 | some (.arr e k xs) =>
  simp only [bJ] at h ⊢
  obtain ⟨u,vs,rfl,h0,h1,h2,h3⟩:=h
  exact ⟨u,vs,rfl,h0,cV h1 (fun b hb=>hh _ b rfl (.inl hb)),aE.mono hle xs vs (fun id _=>hB id) h2,h3⟩
 | some (.nest e k os xs) =>
  simp only [bJ] at h ⊢
  obtain ⟨u,vs,bs,rfl,h0,h1,h2,h3⟩:=h
  exact ⟨u,vs,bs,rfl,h0,cV h1 (fun b hb=>hh _ b rfl (.inl hb)),h2.mono hle (fun b hb=>hh _ b rfl (.inr hb)),h3⟩
 | some (.de e k os xs i o id2 n2) =>
  simp only [bJ] at h ⊢
  obtain ⟨u,vs,bs,rfl,h0,h1,h2,⟨g,v,q1,q2,q3⟩,h3⟩:=h
  exact ⟨u,vs,bs,rfl,h0,cV h1 (fun b hb=>hh _ b rfl (.inl hb)),h2.mono hle (fun b hb=>hh _ b rfl (.inr hb)),⟨g,v,q1,(qW (hh _ g rfl (.inl q1)) _).trans q2,ar.mono hle (.arr id2 n2) v (fun id _=>hB id) q3⟩,h3⟩
 | some .dead=>simpa only [bJ] using h
 | some (.map kt vt es) =>
  simp only [bJ] at h ⊢
  obtain ⟨b,j3,ck,rfl,h1,h2,h3,h4⟩:=h
  exact ⟨b,j3,ck,rfl,(hh _ b rfl rfl).trans h1,aE.mono hle _ _ (fun id _=>hB id) h2,aE.mono hle _ _ (fun id _=>hB id) h3,h4⟩
theorem cG.y4 {pr:Nat→Prop} {c:Cx} {m:Mem} (h:cG c m) (id:Nat) (le:LE) (be:BE) (w':World)
  (GZ:w'.os=c.w.os) (qe:w'.tape=c.w.tape) (nP:w'.output=c.w.output) (zB:c.w.drawn≤w'.drawn) (gm:c.w.heap.size≤w'.heap.size)
  (iH:∀ b,b<c.w.heap.size→(∀ dr,c.B id=some dr→¬ dr.has b)→w'.heap[b]?=c.w.heap[b]?)
  (hblk:∀ b,be.has b→(∃ dr,c.B id=some dr∧dr.has b) ∨ c.w.heap.size≤b)
  (hle:js (c.B id) (some be)) (mi:pr id→∀ dr,c.B id=some dr→dr.jE be)
  (gM:∀ c':Cx,c'.w=w'→c.Le c'→(∀ i,js (c.B i) (c'.B i))→bJ c' (some le) (some be)) :
  ∃ c':Cx,c'.w=w'∧c'.B id=some be∧cG c' (m.put id le)∧Step pr c c':=by
 let c':Cx:=⟨w',fun i=>if i=id then some be else c.B i,c.O⟩
 have bN:∀ b,c'.own b→c.own b ∨ c.w.heap.size≤b:=by
  rintro b ⟨i,dK,h1,h2⟩
  by_cases hi:i=id
  ·simp only [c',hi,if_true] at h1
   cases h1
   rcases hblk b h2 with ⟨dr,h3,h4⟩ | hs
   ·exact .inl ⟨id,dr,h3,h4⟩
   ·exact .inr hs
  ·simp only [c',hi,if_false] at h1
   exact .inl ⟨i,dK,h1,h2⟩
 have eK:Grow pr c c':=by
  refine ⟨rfl,GZ,qe,nP,zB,gm,fun b hb ho=>iH b hb (fun dr h0 h1=>ho ⟨id,dr,h0,h1⟩),bN,fun i dK hp hb=>?_⟩
  by_cases hi:i=id
  ·subst hi; exact ⟨be,by simp only [c',if_true],mi hp dK hb⟩
  ·exact ⟨dK,by simp only [c',hi,if_false]; exact hb,.refl dK⟩
 have hble:∀ i,js (c.B i) (c'.B i):=by
  intro i
  by_cases hi:i=id
  ·subst hi; simpa only [c',if_true] using hle
  ·simp only [c',hi,if_false]; exact js.refl _
 refine ⟨c',rfl,by simp [c'],⟨fun i=>?_,?_,?_,?_⟩,eK,hble⟩
 ·by_cases hi:i=id
  ·subst hi; simp only [c',Mem.put,if_true]; exact gM c' rfl eK.le hble
  ·simp only [Mem.put,hi,if_false]
   have:c'.B i=c.B i:=by simp [c',hi]
   rw [this]
   refine (h.gH i).mono eK.le hble fun dK b hb tO=>?_
   refine iH b ((h.gH i).lt hb tO) fun dr h0 h1=>?_
   exact hi (h.inj i id dK dr b hb h0 tO h1)
 ·intro i i' b1 b2 b h1 h2 h3 h4
  by_cases hi:i=id <;> by_cases fD:i'=id
  ·rw [hi,fD]
  ·simp only [c',hi,if_true] at h1
   simp only [c',fD,if_false] at h2
   cases h1
   rcases hblk b h3 with ⟨dr,h5,h6⟩ | hs
   ·rw [hi]; exact h.inj id i' dr b2 b h5 h2 h6 h4
   ·have:=(h.gH i').lt h2 h4; omega
  ·simp only [c',hi,if_false] at h1
   simp only [c',fD,if_true] at h2
   cases h2
   rcases hblk b h4 with ⟨dr,h5,h6⟩ | hs
   ·rw [fD]; exact h.inj i id b1 dr b h1 h5 h3 h6
   ·have:=(h.gH i).lt h1 h3; omega
  ·simp only [c',hi,if_false] at h1
   simp only [c',fD,if_false] at h2
   exact h.inj i i' b1 b2 b h1 h2 h3 h4
 ·intro b ho hO
  rcases bN b ho with ho | hs
  ·exact h.jT b ho hO
  ·have:=h.vu b hO; omega
 ·intro b hO; exact Nat.lt_of_lt_of_le (h.vu b hO) gm
theorem cG.ext {pr:Nat→Prop} {c:Cx} {m:Mem} (h:cG c m) (w':World)
  (GZ:w'.os=c.w.os) (qe:w'.tape=c.w.tape) (nP:w'.output=c.w.output) (zB:c.w.drawn≤w'.drawn) (gm:c.w.heap.size≤w'.heap.size)
  (iH:∀ b,b<c.w.heap.size→w'.heap[b]?=c.w.heap[b]?) :
  cG ⟨w',c.B,c.O⟩ m∧Step pr c ⟨w',c.B,c.O⟩:=by
 have eK:Grow pr c ⟨w',c.B,c.O⟩:=⟨rfl,GZ,qe,nP,zB,gm,fun b hb _=>iH b hb,fun b ho=>.inl ho,fun _ be _ hb=>⟨be,hb,.refl be⟩⟩
 refine ⟨⟨fun i=>?_,h.inj,h.jT,fun b hO=>Nat.lt_of_lt_of_le (h.vu b hO) gm⟩,eK,fun i=>js.refl _⟩
 exact (h.gH i).mono eK.le (fun i=>js.refl _) fun be b hb tO=>iH b ((h.gH i).lt hb tO)
theorem cG.TQ {c:Cx} {m:Mem} (h:cG c m) {b:Nat} (hb:c.w.heap.size≤b):¬ c.X b:=by
 rintro (hO | ho)
 ·have:=h.vu b hO; omega
 ·have:=h.yB ho; omega
def aF (P:Program) (f:Nat) (args:List LV) (m:Mem) (lv:LV) (m':Mem):Prop :=
 ∀ (c:Cx) (vs:List Value),cG c m→aE c args vs →
  Calls P f vs.toArray c.w fun en w'=>∃ v c',en=.returned v∧c'.w=w'∧cG c' m'∧ar c' lv v∧Grow (fun id=>m id ≠ .none) c c'
def Mem.over (m mc:Mem):Mem:=fun i=>match mc i with | some x=>some x | .none=>m i
theorem aF.frame {P:Program} {f:Nat} {args:List LV} {mc iN m:Mem} {lv:LV} (h:aF P f args mc lv iN)
  (jH:∀ id,mc id ≠ .none→m id=mc id) (oT:∀ id,mc id=.none→iN id ≠ .none→m id=.none)
  (hargs:∀ id,LV.cD id args=false→mc id ≠ .none) (kY:∀ id le,mc id=some le→∀ j,le.iU j=false→mc j ≠ .none)
  (pr:Nat→Prop) (c:Cx) (vs:List Value) (hm:cG c m) (ha:aE c args vs) :
  Calls P f vs.toArray c.w fun en w'=>∃ v c',en=.returned v∧c'.w=w'∧cG c' (m.over iN)∧ar c' lv v∧Step pr c c':=by
 classical
 let c0:Cx:=⟨c.w,fun id=>if mc id=.none then .none else c.B id,fun b=>c.O b ∨ ∃ id be,mc id=.none∧c.B id=some be∧be.has b⟩
 have hX:∀ b,c0.X b ↔ c.X b:=by
  intro b
  constructor
  ·rintro ((hO | ⟨id,be,_,h2,h3⟩) | ⟨id,be,h2,h3⟩)
   ·exact .inl hO
   ·exact .inr ⟨id,be,h2,h3⟩
   ·by_cases hi:mc id=.none
    ·simp [c0,hi] at h2
    ·simp only [c0,hi,if_false] at h2; exact .inr ⟨id,be,h2,h3⟩
  ·rintro (hO | ⟨id,be,h2,h3⟩)
   ·exact .inl (.inl hO)
   ·by_cases hi:mc id=.none
    ·exact .inl (.inr ⟨id,be,hi,h2,h3⟩)
    ·exact .inr ⟨id,be,by simp [c0,hi,h2],h3⟩
 have nN:c.Le c0:=⟨Nat.le_refl _,fun b _ hx=>⟨rfl,fun oC=>hx ((hX b).1 oC)⟩⟩
 have KM:∀ id,mc id ≠ .none→js (c.B id) (c0.B id):=fun id hi=>by simp only [c0,hi,if_false]; exact js.refl _
 have qb : cG c0 mc := by
  refine ⟨fun id=>?_,?_,?_,?_⟩
  ·by_cases hi:mc id=.none
   ·rw [hi]; simp [bJ,c0,hi]
   ·have he:=hm.gH id
    rw [jH id hi] at he
    have hb:c0.B id=c.B id:=by simp [c0,hi]
    rw [hb]
    cases hx:mc id with
    | none=>exact absurd hx hi
    | some le =>
     rw [hx] at he
     cases le with
     | box cs =>
      simp only [bJ] at he ⊢
      obtain ⟨b,us,e,h1,h2,h3,h4⟩:=he
      exact ⟨b,us,e,h1,h2,aE.mono nN cs us (fun j hj=>KM j (kY id _ hx j hj)) h3,h4⟩
     | arr e k xs =>
      simp only [bJ] at he ⊢
      obtain ⟨u,us,h1,h0,h2,h3,h4,h5⟩:=he
      exact ⟨u,us,h1,h0,h2,aE.mono nN xs us (fun j hj=>by rw [az xs h5] at hj; cases hj) h3,h4,h5⟩
     | nest e k os xs =>
      simp only [bJ] at he ⊢
      obtain ⟨u,us,bs,h1,h0,h2,h3,h4⟩:=he
      exact ⟨u,us,bs,h1,h0,h2,h3.mono nN (fun b _=>rfl),h4⟩
     | de e k os xs i o id2 n2 =>
      simp only [bJ] at he ⊢
      obtain ⟨u,us,bs,h1,h0,h2,h3,⟨ws,v,q1,q2,q3⟩,h4⟩:=he
      exact ⟨u,us,bs,h1,h0,h2,h3.mono nN (fun b _=>rfl),⟨ws,v,q1,q2,ar.mono nN (.arr id2 n2) v (fun j hj=>KM j (kY id _ hx j hj)) q3⟩,h4⟩
     | dead=>simpa only [bJ] using he
     | map kt vt es =>
      simp only [bJ] at he ⊢
      obtain ⟨b,j3,ck,h1,h2,h3,h4,h5,h6,h7⟩:=he
      exact ⟨b,j3,ck,h1,h2,aE.mono nN _ _ (fun j hj=>by rw [az _ h5] at hj; cases hj) h3,aE.mono nN _ _ (fun j hj=>by rw [az _ h6] at hj; cases hj) h4,h5,h6,h7⟩
  ·intro i i' be dK b h1 h2 h3 h4
   by_cases hi:mc i=.none
   ·simp [c0,hi] at h1
   ·by_cases fD:mc i'=.none
    ·simp [c0,fD] at h2
    ·simp only [c0,hi,fD,if_false] at h1 h2; exact hm.inj i i' be dK b h1 h2 h3 h4
  ·rintro b ⟨id,be,h1,h2⟩ hO
   by_cases hi:mc id=.none
   ·simp [c0,hi] at h1
   ·simp only [c0,hi,if_false] at h1
    rcases hO with hO | ⟨j,dK,h3,h4,h5⟩
    ·exact hm.jT b ⟨id,be,h1,h2⟩ hO
    ·have:=hm.inj id j be dK b h1 h4 h2 h5
     subst this; exact hi h3
  ·rintro b (hO | ⟨j,dK,h3,h4,h5⟩)
   ·exact hm.vu b hO
   ·exact hm.yB ⟨j,dK,h4,h5⟩
 have Wt:aE c0 args vs:=aE.mono nN args vs (fun id cj=>KM id (hargs id cj)) ha
 refine (h c0 vs qb Wt).mono ?_
 rintro en w' ⟨v,c1,rfl,rfl,k5,iR,hg⟩
 have tX:∀ id,mc id ≠ .none→∃ be dK,c.B id=some be∧c1.B id=some dK∧be.jE dK:=by
  intro id hi
  have he:=qb.gH id
  cases hx:mc id with
  | none=>exact absurd hx hi
  | some le =>
   have hb:c0.B id=c.B id:=by simp [c0,hi]
   cases Ll:c0.B id with
   | none=>rw [hx,Ll] at he; cases le <;> simp [bJ] at he
   | some be =>
    obtain ⟨dK,h1,h2⟩:=hg.CZ id be hi Ll
    exact ⟨be,dK,by rw [← hb]; exact Ll,h1,h2⟩
 have kZ:∀ id,mc id ≠ .none→iN id ≠ .none:=by
  intro id hi fD
  have he:=k5.gH id
  rw [fD] at he
  simp only [bJ] at he
  obtain ⟨be,dK,_,h2,_⟩:=tX id hi
  rw [he] at h2; cases h2
 have Lq:∀ id be,c.B id=some be→mc id=.none→iN id=.none:=by
  intro id be hb hi
  by_cases fD:iN id=.none
  ·exact fD
  ·have:=hm.fresh (oT id hi fD); rw [this] at hb; cases hb
 let c':Cx:=⟨c1.w,fun id=>if iN id=.none then c.B id else c1.B id,c.O⟩
 have Li : ∀ b, c'.X b ↔ c1.X b := by
  intro b
  constructor
  ·rintro (hO | ⟨id,be,h2,h3⟩)
   ·exact .inl (by rw [hg.O]; exact .inl hO)
   ·by_cases hi:iN id=.none
    ·simp only [c',hi,if_true] at h2
     have hn:mc id=.none:=by
      cases hx:mc id with
      | none=>rfl
      | some le=>exact absurd hi (kZ id (by simp [hx]))
     exact .inl (by rw [hg.O]; exact .inr ⟨id,be,hn,h2,h3⟩)
    ·simp only [c',hi,if_false] at h2; exact .inr ⟨id,be,h2,h3⟩
  ·rintro (hO | ⟨id,be,h2,h3⟩)
   ·rw [hg.O] at hO
    rcases hO with hO | ⟨id,be,h1,h2,h3⟩
    ·exact .inl hO
    ·exact .inr ⟨id,be,by simp [c',Lq id be h2 h1,h2],h3⟩
   ·refine .inr ⟨id,be,?_,h3⟩
    have:iN id ≠ .none:=fun hn=>by have:=k5.fresh hn; rw [this] at h2; cases h2
    simp [c',this,h2]
 have FZ:c1.Le c':=⟨Nat.le_refl _,fun b _ hx=>⟨rfl,fun oC=>hx ((Li b).1 oC)⟩⟩
 have Lf:∀ id,js (c1.B id) (c'.B id):=by
  intro id
  by_cases hi:iN id=.none
  ·rw [k5.fresh hi]; trivial
  ·simp only [c',hi,if_false]; exact js.refl _
 have Sa:∀ id be,c.B id=some be→∃ dK,c'.B id=some dK∧be.jE dK:=by
  intro id be hb
  by_cases hi:iN id=.none
  ·exact ⟨be,by simp [c',hi,hb],.refl be⟩
  ·simp only [c',hi,if_false]
   by_cases hc:mc id=.none
   ·have:=Lq id be hb hc; exact absurd this hi
   ·obtain ⟨RX,dK,h1,h2,h3⟩:=tX id hc
    rw [hb] at h1; cases h1
    exact ⟨dK,h2,h3⟩
 have eK:Grow pr c c':=by
  refine ⟨rfl,hg.os,hg.tape,hg.output,hg.drawn,hg.size,fun b hb ho=>hg.gT b hb ?_,?_,fun id be _ hb=>Sa id be hb⟩
  ·rintro ⟨id,be,h1,h2⟩
   by_cases hi:mc id=.none
   ·simp [c0,hi] at h1
   ·simp only [c0,hi,if_false] at h1; exact ho ⟨id,be,h1,h2⟩
  ·rintro b ⟨id,be,h1,h2⟩
   by_cases hi:iN id=.none
   ·simp only [c',hi,if_true] at h1; exact .inl ⟨id,be,h1,h2⟩
   ·simp only [c',hi,if_false] at h1
    rcases hg.own b ⟨id,be,h1,h2⟩ with ⟨j,dK,h3,h4⟩ | hs
    ·by_cases hj:mc j=.none
     ·simp [c0,hj] at h3
     ·simp only [c0,hj,if_false] at h3; exact .inl ⟨j,dK,h3,h4⟩
    ·exact .inr hs
 have hble:∀ id,js (c.B id) (c'.B id):=by
  intro id
  cases hb:c.B id with
  | none=>trivial
  | some be =>
   obtain ⟨dK,h1,h2⟩:=Sa id be hb
   rw [h1]
   cases be with
   | box b n=>simp only [BE.jE] at h2; subst h2; exact js.refl _
   | arr u k len ins=>simp only [BE.jE] at h2; obtain ⟨u',lO,lL,rfl,h3,h4⟩:=h2; exact ⟨_,_,_,rfl,h3,h4⟩
   | mp b=>simp only [BE.jE] at h2; subst h2; exact js.refl _
 refine ⟨v,c',rfl,rfl,⟨fun id=>?_,?_,?_,?_⟩,ar.mono FZ lv v (fun id _=>Lf id) iR,eK,hble⟩
 ·by_cases hi:iN id=.none
  ·have hb:c'.B id=c.B id:=by simp [c',hi]
   have OT:m.over iN id=m id:=by simp [Mem.over,hi]
   rw [OT,hb]
   refine (hm.gH id).mono eK.le hble fun be b h1 h2=>?_
   refine hg.gT b ((hm.gH id).lt h1 h2) ?_
   rintro ⟨j,dK,h3,h4⟩
   by_cases hj:mc j=.none
   ·simp [c0,hj] at h3
   ·simp only [c0,hj,if_false] at h3
    have:=hm.inj id j be dK b h1 h3 h2 h4
    subst this
    exact absurd hi (kZ id hj)
  ·have hb:c'.B id=c1.B id:=by simp [c',hi]
   cases hx:iN id with
   | none=>exact absurd hx hi
   | some le =>
    have OT:m.over iN id=iN id:=by simp [Mem.over,hx]
    rw [OT,hb]
    exact (k5.gH id).mono FZ Lf fun _ _ _ _=>rfl
 ·intro i i' be dK b h1 h2 h3 h4
  by_cases hi:iN i=.none <;> by_cases fD:iN i'=.none
  ·simp only [c',hi,fD,if_true] at h1 h2; exact hm.inj i i' be dK b h1 h2 h3 h4
  ·simp only [c',hi,if_true] at h1
   simp only [c',fD,if_false] at h2
   refine absurd ?_ (k5.jT b ⟨i',dK,h2,h4⟩)
   rw [hg.O]
   refine .inr ⟨i,be,?_,h1,h3⟩
   cases hx:mc i with
   | none=>rfl
   | some le=>exact absurd hi (kZ i (by simp [hx]))
  ·simp only [c',hi,if_false] at h1
   simp only [c',fD,if_true] at h2
   refine absurd ?_ (k5.jT b ⟨i,be,h1,h3⟩)
   rw [hg.O]
   refine .inr ⟨i',dK,?_,h2,h4⟩
   cases hx:mc i' with
   | none=>rfl
   | some le=>exact absurd fD (kZ i' (by simp [hx]))
  ·simp only [c',hi,fD,if_false] at h1 h2; exact k5.inj i i' be dK b h1 h2 h3 h4
 ·rintro b ⟨id,be,h1,h2⟩ hO
  by_cases hi:iN id=.none
  ·simp only [c',hi,if_true] at h1; exact hm.jT b ⟨id,be,h1,h2⟩ hO
  ·simp only [c',hi,if_false] at h1; exact k5.jT b ⟨id,be,h1,h2⟩ (by rw [hg.O]; exact .inl hO)
 ·intro b hO; exact Nat.lt_of_lt_of_le (hm.vu b hO) hg.size
end Go.L
namespace Go.L
def tsize (P:Program) (t:TypeId):Nat:=((P.info? t).map (·.size)).getD 0
def tagg (P:Program) (t:TypeId):Bool:=match P.underlying t with | some (.struct _)=>true | some (.array _ _)=>true | _=>false
def tok (P:Program) (t:TypeId):Bool:=(P.info? t).isSome && (P.underlying t).isSome
def telem (P:Program) (t:TypeId):Option Nat:=match P.underlying t with | some (.slice e)=>some e | _=>.none
def tfield (P:Program) (t:TypeId) (f:Nat):Option (Nat × Nat):=match P.underlying t with | some (.struct fs)=>(fs[f]?).map fun x=>(x.offset,x.type) | _=>.none
def xK (P:Program) (t:TypeId):Bool:=match P.underlying t with | some .bool=>true | _=>false
def tint (P:Program) (t:TypeId):Option IntKind:=match P.underlying t with | some (.int k)=>some k | _=>.none
def fQ (P:Program) (t:TypeId):Bool:=match P.info? t with
 | some i=>(match i.zero with | some z=>z.cells.size == i.size && z.cells.all (·.oneCell') | .none=>false) && decide (0<i.size) && decide (i.bytes≤256)
 | .none=>false
def yv:Value→LV
 | .int k n=>.int k n
 | .bool b=>.bool b
 | .slice .none 0 0=>.nil
 | .pointer .none=>.nilp
 | .nilFunc=>.nilf
 | .string s=>.str s
 | _=>.fg
def Gd:Value→LV
 | .agg cs=>.agg (cs.toList.map yv)
 | v=>yv v
def tzero (P:Program) (t:TypeId):Option LV:=match P.info? t with
 | some i=>(match i.zero with | some z=>if z.cells.all (·.oneCell') then some (Gd z) else .none | .none=>.none)
 | .none=>.none
def tbuild (P:Program) (t:TypeId):Bool:=match P.underlying t with
 | some (.struct fields)=>(fields.toList.mapM (fun f=>(P.info? f.type).map fun i=>(f.offset,i.size))).isSome
 | _=>false
def cP (e:Env):Operand→LV
 | .tmp t=>e t
 | .const v=>Gd v
 | .global _=>.fg
 | .func f=>.fn f []
def rep (cs:List LV) (o:Nat) (ns:List LV):List LV:=cs.take o++ns++cs.drop (o+ns.length)
def kc:LV→Option Value
 | .int k n=>some (.int k n)
 | .bool b=>some (.bool b)
 | _=>.none
def eJ:List LV→Option (List Value)
 | []=>some []
 | x :: xs=>match kc x,eJ xs with | some v,some vs=>some (v :: vs) | _,_=>.none
def pV (P:Program) (t:TypeId) (xs ys:List LV) (b:Bool):Prop :=
 P.eqGuardType P.depth t=false∧∃ vs us,eJ xs=some vs∧eJ ys=some us∧∀ w,(Op.equal t (.agg vs.toArray) (.agg us.toArray)).run P w=.ok b w
def loadC (P:Program) (t:TypeId) (cs:List LV) (K:LV→Prop):Prop :=
 tok P t=true∧if tagg P t=true then tsize P t≤cs.length∧K (.agg (cs.take (tsize P t))) else match cs with | x :: _=>K x | []=>False
def pB (op:BinOp) (k:IntKind) (a b:Int) (K:LV→Prop):Prop :=
 match op with
 | .add=>K (.int k (k.wrap (a+b)))
 | .sub=>K (.int k (k.wrap (a - b)))
 | .mul=>K (.int k (k.wrap (a * b)))
 | .quo=>b ≠ 0∧K (.int k (k.wrap (a.tdiv b)))
 | .rem=>b ≠ 0∧K (.int k (a.tmod b))
 | .eql=>K (.bool (a == b))
 | .neq=>K (.bool (a != b))
 | .lss=>K (.bool (decide (a<b)))
 | .leq=>K (.bool (decide (a≤b)))
 | .gtr=>K (.bool (decide (a > b)))
 | .geq=>K (.bool (decide (a ≥ b)))
 | _=>False
def nj (P:Program) (t:TypeId):List LV→List (Nat × LV)→Option (List LV)
 | cs,[]=>some cs
 | cs,(i,x) :: r=>match tfield P t i with
  | some (off,ft)=>if x.cells.length=tsize P ft∧off+x.cells.length≤cs.length∧tok P ft=true∧x.cells.all LV.scalar=true then nj P t (rep cs off x.cells) r else .none
  | .none=>.none
def By (y:LV) (o:Nat) (x:LV):Option LV :=
 match y with
 | .agg cs=>if o+x.cells.length≤cs.length∧cs.all LV.scalar=true then some (.agg (rep cs o x.cells)) else .none
 | _=>if o=0∧x.scalar=true∧y.scalar=true then some x else .none
def DV (P:Program) (f:Nat) (args:List LV) (m:Mem) (K:LV→Mem→Prop):Prop :=
 ∃ lv mc iN,aF P f args mc lv iN∧(∀ id,mc id ≠ .none→m id=mc id)∧(∀ id,mc id=.none→iN id ≠ .none→m id=.none) ∧
  (∀ id,LV.cD id args=false→mc id ≠ .none)∧(∀ id le,mc id=some le→∀ j,le.iU j=false→mc j ≠ .none)∧K lv (m.over iN)
def rU (k:Nat) (xs:List LV):Prop:=∀ x ∈ xs,x.pure=true∧x.cells.length=k∧x.cells.all LV.scalar=true
def LOp (P:Program) (pr:Nat→Prop) (ro:List Nat) (o:Oper) (ev:Operand→LV) (m:Mem) (K:LV→Mem→Prop):Prop :=
 match o.op with
 | .move x=>K (ev x) m
 | .assign x=>K (ev x) m
 | .pick c a b=>match ev c with | .bool t=>K (if t then ev a else ev b) m | _=>False
 | .alloc t=>match tzero P t,o.dst with
  | some z,some d=>m (100+d)=.none∧K (.ptr (100+d) 0) (m.put (100+d) (.box z.cells))
  | _,_=>False
 | .box _ x=>match o.dst with
  | some d=>(ev x).cells.all LV.scalar=true ∧
   if ro.contains d=true then K (.sptr (ev x).cells) m
   else m (100+d)=.none∧K (.ptr (100+d) 0) (m.put (100+d) (.box (ev x).cells))
  | .none=>False
 | .build t parts=>tbuild P t=true∧match tzero P t with
  | some (.agg z)=>match nj P t z (parts.toList.map fun p=>(p.1,ev p.2)) with
   | some cs=>K (.agg cs) m
   | .none=>False
  | _=>False
 | .buildSlice t len parts=>match telem P t with
  | some e=>fQ P e=true∧len * tsize P e≤16777216∧parts.toList.map (·.1)=List.range len∧rU (tsize P e) (parts.toList.map fun p=>ev p.2)∧K (.lst (tsize P e) (parts.toList.map fun p=>ev p.2)) m
  | .none=>False
 | .load t a=>match ev a with
  | .sptr cs=>loadC P t cs fun lv=>K lv m
  | .ptr id o=>match m id with
   | some (.box cs)=>o≤cs.length∧loadC P t (cs.drop o) fun lv=>K lv m
   | _=>False
  | .eptr id n i o=>match m id with
   | some (.arr _ _ xs)=>n=xs.length∧∃ x,xs[i]?=some x∧x.cells.all LV.scalar=true∧o≤x.cells.length∧loadC P t (x.cells.drop o) fun lv=>K lv m
   | _=>False
  | _=>False
 | .store t a x=>(ev x).cells.all LV.scalar=true∧tok P t=true∧tsize P t=(ev x).cells.length∧match ev a with
  | .ptr id o=>match m id with
   | some (.box cs)=>o+(ev x).cells.length≤cs.length∧K .fg (m.put id (.box (rep cs o (ev x).cells)))
   | _=>False
  | .eptr id n i o=>match m id with
   | some (.arr e k xs)=>n=xs.length∧LV.bt (ev x).cells=true∧∃ y z,xs[i]?=some y∧By y o (ev x)=some z∧K .fg (m.put id (.arr e k (xs.set i z)))
   | _=>False
  | _=>False
 | .nilCheck x=>match ev x with
  | .ptr _ _=>K (ev x) m
  | .sptr _=>K (ev x) m
  | .eptr id n _ _=>(match m id with | some (.arr _ _ xs)=>n=xs.length | _=>False)∧K (ev x) m
  | .fn _ _=>K (ev x) m
  | _=>False
 | .binOp op t x y _=>match ev x,ev y with
  | .int k a,.int k' b=>k=k'∧pB op k a b fun lv=>K lv m
  | .bool a,.bool b=>xK P t=true∧(match op with | .eql=>K (.bool (a == b)) m | .neq=>K (.bool (!(a == b))) m | _=>False)
  | .agg xs,.agg ys=>∃ b,pV P t xs ys b∧(match op with | .eql=>K (.bool b) m | .neq=>K (.bool (!b)) m | _=>False)
  | _,_=>False
 | .unOp op _ x=>match op,ev x with
  | .not,.bool b=>K (.bool (!b)) m
  | .neg,.int k n=>K (.int k (k.wrap (0 - n))) m
  | _,_=>False
 | .convert s t x=>tok P s=true∧match tint P t,ev x with
  | some k,.int _ n=>K (.int k (k.wrap n)) m
  | _,_=>False
 | .slice t x lo hi mx=>(telem P t).isSome=true∧tok P ((telem P t).getD 0)=true∧mx=.none∧match ev x with
  | .lst k xs=>some k=(telem P t).map (tsize P)∧∃ l h:Nat,(match lo with | .none=>l=0 | some y=>ev y=.int .i64 l)∧(match hi with | .none=>h=xs.length | some y=>ev y=.int .i64 h) ∧
    l≤h∧h≤xs.length∧K (.lst k ((xs.take h).drop l)) m
  | .nil=>(match lo with | .none=>True | some y=>ev y=.int .i64 0)∧(match hi with | .none=>True | some y=>ev y=.int .i64 0)∧K .nil m
  | _=>False
 | .fieldAddr t x f=>match tfield P t f with
  | some (off,ft)=>tok P ft=true∧tsize P ft ≠ 0∧match ev x with
   | .sptr cs=>off≤cs.length∧K (.sptr (cs.drop off)) m
   | .ptr id o=>K (.ptr id (o+off)) m
   | .eptr id n i o=>(match m id with | some (.arr _ _ xs)=>n=xs.length | _=>False)∧K (.eptr id n i (o+off)) m
   | _=>False
  | .none=>False
 | .field t x f=>match tfield P t f,ev x with
  | some (off,ft),.agg cs=>off≤cs.length∧loadC P ft (cs.drop off) fun lv=>K lv m
  | _,_=>False
 | .indexAddr t x i=>match telem P t,ev x,ev i with
  | some e,.lst k xs,.int _ n=>tok P e=true∧k=tsize P e∧0≤n∧∃ y,xs[n.toNat]?=some y∧y.cells.all LV.scalar=true∧K (.sptr y.cells) m
  | some e,.arr id l,.int _ n=>match m id with
   | some (.arr _ k xs)=>tok P e=true∧l=xs.length∧k=tsize P e∧0≤n∧n<l∧K (.eptr id l n.toNat 0) m
   | _=>False
  | _,_,_=>False
 | .extract t i=>match ev t with
  | .tup vs=>∃ v,vs[i]?=some v∧K v m
  | _=>False
 | .makeFunc f first cap=>match f with
  | .func f=>first=#[]∧K (.fn f (cap.toList.map ev)) m
  | _=>False
 | .makeSlice t l c=>match telem P t,tzero P ((telem P t).getD 0),ev l,ev c,o.dst with
  | some e,some z,.int .i64 n,.int .i64 n',some d=>n=n'∧0≤n∧n≤549755813888∧fQ P e=true∧z.pure=true∧m (100+d)=.none ∧
    K (.arr (100+d) n.toNat) (m.put (100+d) (.arr e (tsize P e) (List.replicate n.toNat z)))
  | _,_,_,_,_=>False
 | .call c=>match c.callee with
  | .builtin .len=>match c.args.toList,c.argTypes.toList with
   | [x],[t]=>(telem P t).isSome=true∧match ev x with
    | .lst _ xs=>K (.int .i64 xs.length) m
    | .nil=>K (.int .i64 0) m
    | .arr id n=>(match m id with | some (.arr _ _ xs)=>n=xs.length | _=>False)∧K (.int .i64 n) m
    | _=>False
   | _,_=>False
  | .builtin .append=>match c.args.toList,c.argTypes.toList with
   | [x, y], [t, t'] => t = t' ∧ match telem P t with
    | some e=>fQ P e=true∧∃ ys,(ev y=.lst (tsize P e) ys ∨ (ev y=.nil∧ys=[]))∧match ev x with
     | .arr id n=>¬ pr id∧match m id with
      | some (.arr e' k xs)=>e'=e∧k=tsize P e∧n=xs.length∧xs.length+ys.length≤549755813888∧K (.arr id (n+ys.length)) (m.put id (.arr e k (xs++ys)))
      | _=>False
     | .nil=>match o.dst with
      | some d=>m (100+d)=.none∧ys.length≤549755813888∧K (.arr (100+d) ys.length) (m.put (100+d) (.arr e (tsize P e) ys))
      | .none=>False
     | _=>False
    | .none=>False
   | _,_=>False
  | .value x=>match ev x with
   | .fn f cap => (∃ fn, P.funcs[f]? = some fn ∧ (fn.name == "runtime.NumGoroutine") = false ∧ fn.body.isNone = false) ∧ DV P f (c.args.toList.map ev ++ cap) m K
   | _=>False
  | _=>False
 | _=>False
def DW (P:Program) (pr:Nat→Prop) (ro:List Nat) (ops:Array Oper) (o:Oper) (K:Env→Mem→Prop) (e:Env) (m:Mem):Prop :=
 match o.guard with
 | .none=>LOp P pr ro o (cP e) m fun lv m'=>K (e.fW o.dst lv) m'
 | some (j,want)=>match (ops[j]?).bind (·.dst) with
  | some g=>match e g with
   | .bool t=>if t=want then LOp P pr ro o (cP e) m fun lv m'=>K (e.fW o.dst lv) m' else K (e.fW o.dst (.tup [])) m
   | .tup []=>K (e.fW o.dst (.tup [])) m
   | _=>False
  | .none=>False
def cw (P:Program) (pr:Nat→Prop) (o:Oper) (ev:Operand→LV) (m:Mem) (lv:LV) (m':Mem):Prop :=
 ∀ (c:Cx) (a:Act) (Q:Exit→Act→World→Prop),(∀ x,ar c (ev x) (a.eval x))→cG c m →
  o.wp P a c.w (fun a' w'=>∃ v c',a'=a.put o.dst v∧c'.w=w'∧ar c' lv v∧cG c' m'∧Step pr c c') Q
end Go.L
namespace Go.L
section lists
theorem gC (v:Value) (vs:List Value):flat (v :: vs)=v.cells.toList++flat vs:=rfl
theorem fC (vs us:List Value):flat (vs++us)=flat vs++flat us:=by simp [flat]
theorem ed {k:Nat}:∀ {vs:List Value},(∀ v ∈ vs,v.cells.size=k)→(flat vs).length=vs.length * k
 | [],_=>by simp [flat]
 | v :: vs,h=>by
  rw [gC,List.length_append,ed (k:=k) (fun u hu=>h u (by simp [hu])),List.length_cons,Array.length_toList,h v (by simp),Nat.add_mul,Nat.one_mul,Nat.add_comm]
theorem ja {k:Nat} {vs:List Value} (h:∀ v ∈ vs,v.cells.size=k) {i:Nat} {u:Value} (hu:vs[i]?=some u) :
  flat vs=flat (vs.take i)++(u.cells.toList++flat (vs.drop (i+1)))∧(flat (vs.take i)).length=i * k:=by
 have hi:i<vs.length:=(List.getElem?_eq_some_iff.1 hu).1
 have he:vs[i]=u:=(List.getElem?_eq_some_iff.1 hu).2
 constructor
 ·rw [← gC,← he,← List.drop_eq_getElem_cons hi,← fC,List.take_append_drop]
 ·rw [ed (k:=k) (fun v hv=>h v (List.mem_of_mem_take hv)),List.length_take,Nat.min_eq_left (by omega)]
theorem mu {w:World} {b off:Nat} {l1 l2 l3:List Value} (h:w.rangeAt b off (l1++(l2++l3))):w.rangeAt b (off+l1.length) l2:=by
 intro j v hv
 have hj:j<l2.length:=(List.getElem?_eq_some_iff.1 hv).1
 have:=h (l1.length+j) v (by rw [List.getElem?_append_right (by omega)]; simp [List.getElem?_append_left hj,hv])
 rw [Nat.add_assoc]; exact this
theorem iJ {w:World} {b off:Nat} {l:List Value} (h:w.rangeAt b off l) (n:Nat):w.rangeAt b (off+n) (l.drop n):=by
 intro j v hv
 rw [List.getElem?_drop] at hv
 rw [Nat.add_assoc]; exact h (n+j) v hv
theorem yH {w:World} {b off:Nat} {l:List Value} (h:w.rangeAt b off l) (n:Nat):w.rangeAt b off (l.take n):=by
 intro j v hv
 refine h j v ?_
 rw [List.getElem?_take] at hv
 split at hv
 ·exact hv
 ·cases hv
theorem sa (w:World) (vs:List Value) (t:TypeId):(w.alloc (.cells vs.toArray t)).rangeAt w.heap.size 0 vs:=by
 intro j v hv
 rw [World.cell?_alloc_new]
 simpa using hv
theorem ob {w:World} {b:Nat} {vs:List Value} {e:TypeId} {fr:Nat × Nat} (h:w.heap[b]?=some (.cells vs.toArray e fr)):w.rangeAt b 0 vs:=by
 intro j v hv
 simp [World.cell?,h,hv]
theorem gr {w:World} {e k n:Nat} {u:Value} {vs:List Value} (h:w.ownsRow 0 e k u n vs) {b:Nat} (hb:u.ownBlock=some b):w.rangeAt b 0 vs:=by
 intro j v hv
 have:=h.cells hb j v hv
 rw [Addr.add_mid] at this
 exact this
end lists
theorem uF {xs:List LV} (h:LV.bt xs=true) (n:Nat):LV.bt (xs.drop n)=true :=
 c6.2 fun x hx=>c6.1 h x (List.mem_of_mem_drop hx)
theorem uG {xs:List LV} (h:LV.bt xs=true) (n:Nat):LV.bt (xs.take n)=true :=
 c6.2 fun x hx=>c6.1 h x (List.mem_of_mem_take hx)
theorem jV {xs ys:List LV} (h:LV.bt xs=true) (h':LV.bt ys=true):LV.bt (xs++ys)=true :=
 c6.2 fun x hx=>(List.mem_append.1 hx).elim (c6.1 h x) (c6.1 h' x)
theorem rz (c:Cx) (v:Value):ar c (yv v) v:=by
 unfold yv
 split <;> simp [ar]
theorem ry (c:Cx):∀ (vs:List Value),aE c (vs.map yv) vs
 | []=>by simp [aE]
 | v :: vs=>by simp only [List.map_cons,aE]; exact ⟨v,vs,rfl,rz c v,ry c vs⟩
theorem lT (c:Cx) (v:Value):ar c (Gd v) v:=by
 unfold Gd
 split
 ·rename_i cs; simp only [ar]; exact ⟨cs.toList,by simp,ry c _⟩
 ·exact rz c v
theorem CV (v:Value):(yv v).cells=[yv v]:=by
 unfold yv
 split <;> rfl
theorem oc (c:Cx) (z:Value):aE c (Gd z).cells z.cells.toList:=by
 unfold Gd
 split
 ·rename_i cs; simp only [LV.cells,Value.cells]; exact ry c _
 ·rename_i h
  rw [CV]
  have:z.cells=#[z]:=by cases z <;> simp_all [Value.cells]
  rw [this]
  simp only [aE]
  exact ⟨z,[],rfl,rz c z,rfl⟩
section ops
variable {P:Program} {pr:Nat→Prop} {o:Oper} {ev:Operand→LV} {m m':Mem} {lv:LV}
theorem cw.value (h:∀ (c:Cx) (a:Act),(∀ x,ar c (ev x) (a.eval x))→cG c m→∃ v c',(execOp a.eval o).run P c.w=.ok (.value v) c'.w∧ar c' lv v∧cG c' m'∧Step pr c c'):cw P pr o ev m lv m':=by
 intro c a Q bS hm
 obtain ⟨v,c',hr,h1,h2,h3⟩:=h c a bS hm
 unfold Oper.wp
 rw [hr]
 exact ⟨v,c',rfl,rfl,h1,h2,h3⟩
theorem cw.same (h:∀ (c:Cx) (a:Act),(∀ x,ar c (ev x) (a.eval x))→cG c m→∃ v,(execOp a.eval o).run P c.w=.ok (.value v) c.w∧ar c lv v):cw P pr o ev m lv m :=
 cw.value fun c a bS hm=>let ⟨v,hr,h1⟩:=h c a bS hm; ⟨v,c,hr,h1,hm,Step.refl pr c⟩
theorem Eo (x:Operand) (ho:o.op=.move x ∨ o.op=.assign x):cw P pr o ev m (ev x) m :=
 cw.same fun c a bS _=>⟨a.eval x,by rcases ho with ho | ho <;> simp [execOp,ho],bS x⟩
theorem LX (x y z:Operand) (t:Bool) (ho:o.op=.pick x y z) (hx:ev x=.bool t):cw P pr o ev m (if t then ev y else ev z) m :=
 cw.same fun c a bS _=>by
  have h:=bS x
  rw [hx] at h
  simp only [ar] at h
  refine ⟨if t then a.eval y else a.eval z,?_,?_⟩
  ·simp [execOp,ho,h,asBool]
  ·cases t
   ·exact bS z
   ·exact bS y
theorem Em {c:Cx} {m:Mem} (hm:cG c m) (id:Nat) (cj:m id=.none) (cs:List LV) (vs:List Value) (t:TypeId) (hl:aE c cs vs) (h1:∀ v ∈ vs,v.oneCell'=true) :
  ∃ c':Cx,c'.w=c.w.alloc (.cells vs.toArray t)∧ar c' (.ptr id 0) (.pointer (some ⟨c.w.heap.size,0,.none⟩))∧cG c' (m.put id (.box cs))∧Step pr c c':=by
 have hB:=hm.fresh cj
 obtain ⟨c',hw,hb,h2,h3⟩:=hm.y4 (pr:=pr) id (.box cs) (.box c.w.heap.size cs.length) (c.w.alloc (.cells vs.toArray t)) rfl rfl rfl (Nat.le_refl _) (by simp)
  (fun b hb _=>o3 c.w _ b hb) (fun b hb=>by simp [BE.has] at hb; exact .inr (by omega)) (by rw [hB]; trivial) (fun _ dr h0=>by rw [hB] at h0; cases h0)
  (fun c' hw hle hble=>by
   simp only [bJ]
   exact ⟨c.w.heap.size,vs,t,rfl,by rw [hw]; exact heap_alloc_new c.w _,aE.mono hle cs vs (fun id _=>hble id) hl,h1⟩)
 exact ⟨c',hw,by simp only [ar]; exact ⟨_,_,hb,rfl⟩,h2,h3⟩
theorem Aa (t:TypeId) (d:Nat) (z:LV) (ho:o.op=.alloc t) (hz:tzero P t=some z) (cj:m (100+d)=.none):cw P pr o ev m (.ptr (100+d) 0) (m.put (100+d) (.box z.cells)) :=
 cw.value fun c a bS hm=>by
  unfold tzero at hz
  split at hz
  ·rename_i i hi
   split at hz
   ·rename_i zv y2
    split at hz
    ·rename_i nw
     cases hz
     have H9:∀ v ∈ zv.cells.toList,v.oneCell'=true:=fun v hv=>(Array.all_eq_true_iff_forall_mem.1 nw) v (by simpa using hv)
     obtain ⟨c',hw,hr,h2,h3⟩:=Em (pr:=pr) hm (100+d) cj (Gd zv).cells zv.cells.toList t (oc c zv) H9
     refine ⟨_,c',?_,hr,h2,h3⟩
     rw [hw]
     simp [execOp,ho,Instr.alloc,zeroValue,typeInfo,hi,y2,newVar,newRow]
    ·cases hz
   ·cases hz
  ·cases hz
theorem Qz (t:TypeId) (x:Operand) (d:Nat) (ho:o.op=.box t x) (hs:(ev x).cells.all LV.scalar=true) (cj:m (100+d)=.none):cw P pr o ev m (.ptr (100+d) 0) (m.put (100+d) (.box (ev x).cells)) :=
 cw.value fun c a bS hm=>by
  obtain ⟨hl,h1⟩:=(bS x).cellsOf hs
  obtain ⟨c',hw,hr,h2,h3⟩:=Em (pr:=pr) hm (100+d) cj (ev x).cells (a.eval x).cells.toList t hl (fun v hv=>h1 v (by simpa using hv))
  refine ⟨_,c',?_,hr,h2,h3⟩
  rw [hw]
  simp [execOp,ho,Instr.box,newVar,newRow]
theorem Gf (t:TypeId) (x:Operand) (ho:o.op=.box t x) (hs:(ev x).cells.all LV.scalar=true):cw P pr o ev m (.sptr (ev x).cells) m :=
 cw.value fun c a bS hm=>by
  obtain ⟨hl,h1⟩:=(bS x).cellsOf hs
  obtain ⟨h2,h3⟩:=hm.ext (pr:=pr) (c.w.alloc (.cells (a.eval x).cells.toList.toArray t)) rfl rfl rfl (Nat.le_refl _) (by simp) (fun b hb=>o3 c.w _ b hb)
  refine ⟨.pointer (some ⟨c.w.heap.size,0,.none⟩),_,by simp [execOp,ho,Instr.box,newVar,newRow],?_,h2,h3⟩
  simp only [ar]
  refine ⟨c.w.heap.size,0,(a.eval x).cells.toList,rfl,by simp,?_,h3.U7 hl,fun v hv=>h1 v (by simpa using hv),sa c.w _ t⟩
  exact hm.TQ (Nat.le_refl _)
theorem gw {w:World} {t:TypeId} {b off:Nat} {cs:List LV} {vs:List Value} {c:Cx} (ht:tok P t=true) (hl:aE c cs vs) (hr:w.rangeAt b off vs) :
  (tagg P t=true→tsize P t≤cs.length→(Instr.loadAt t (.pointer (some ⟨b,off,.none⟩))).run P w=.ok (.agg (vs.take (tsize P t)).toArray) w) ∧
  (tagg P t=false→∀ v fR,vs=v :: fR→(Instr.loadAt t (.pointer (some ⟨b,off,.none⟩))).run P w=.ok v w):=by
 unfold tok at ht
 cases hi:P.info? t with
 | none=>simp [hi] at ht
 | some i =>
  cases hu:P.underlying t with
  | none=>simp [hu] at ht
  | some d =>
   constructor
   ·intro hg hs
    have fe:tsize P t=i.size:=by simp [tsize,hi]
    refine run_loadAt_mid w b off t _ d (yH hr _) hu ?_ ?_
    ·simp only [tagg,hu] at hg
     cases d <;> simp_all
    ·simp only [hi,Option.map_some,List.length_take,fe]
     rw [fe,hl.length] at hs
     rw [Nat.min_eq_left hs]
   ·intro hg v fR he
    subst he
    have hc:w.cell? ⟨b,off,.none⟩=some v:=by simpa using hr 0 v (by simp)
    have HI:(isAgg t).run P w=.ok false w:=by
     unfold isAgg
     rw [Sem.run_bind,run_underlying hu w]
     simp only [tagg,hu] at hg
     cases d <;> simp_all
    simp [Instr.loadAt,Instr.sureAddr,loadVar,Sem.run_bind,HI,hc]
theorem kK {t:TypeId} {cs:List LV} {K:LV→Prop} (h:loadC P t cs K) :
  ∃ lv,K lv∧∀ (c:Cx) (b off:Nat) (vs:List Value),aE c cs vs→c.w.rangeAt b off vs→∃ v,(Instr.loadAt t (.pointer (some ⟨b,off,.none⟩))).run P c.w=.ok v c.w∧ar c lv v:=by
 obtain ⟨ht,h⟩:=h
 by_cases hg:tagg P t=true
 ·rw [if_pos hg] at h
  refine ⟨_,h.2,fun c b off vs hl hr=>?_⟩
  refine ⟨_,(gw ht hl hr).1 hg h.1,?_⟩
  simp only [ar]
  exact ⟨_,rfl,hl.take _⟩
 ·rw [if_neg hg] at h
  match cs,h with
  | x :: cs,h =>
   refine ⟨x,h,fun c b off vs hl hr=>?_⟩
   have oz:=hl
   simp only [aE] at oz
   obtain ⟨v,fR,rfl,hv,_⟩:=oz
   exact ⟨v,(gw ht hl hr).2 (by simpa using hg) v fR rfl,hv⟩
theorem pG {t:TypeId} {x:Operand} (ho:o.op=.load t x)
  (h:∀ (c:Cx) (a:Act),(∀ x,ar c (ev x) (a.eval x))→cG c m→∃ b off,a.eval x=.pointer (some ⟨b,off,.none⟩)∧∃ v,(Instr.loadAt t (.pointer (some ⟨b,off,.none⟩))).run P c.w=.ok v c.w∧ar c lv v):cw P pr o ev m lv m :=
 cw.same fun c a bS hm=>by
  obtain ⟨b,off,hx,v,hr,hv⟩:=h c a bS hm
  exact ⟨v,by simp [execOp,ho,hx,hr],hv⟩
end ops
end Go.L
namespace Go.L
section ops
variable {P:Program} {pr:Nat→Prop} {o:Oper} {ev:Operand→LV} {m m':Mem} {lv:LV}
theorem j9 {c:Cx} {m:Mem} (hm:cG c m) {id:Nat} {cs:List LV} (h:m id=some (.box cs)):∃ b vs e,c.B id=some (.box b cs.length)∧c.w.heap[b]?=some (.cells vs.toArray e (0,0))∧aE c cs vs∧∀ v ∈ vs,v.oneCell'=true:=by
 have:=hm.gH id
 rw [h] at this
 simp only [bJ] at this
 exact this
theorem lF {c:Cx} {m:Mem} (hm:cG c m) {id:Nat} {e k:Nat} {xs:List LV} (h:m id=some (.arr e k xs)):∃ u vs,c.B id=some (.arr u k xs.length [])∧0<k∧c.w.ownsRow 0 e k u xs.length (flat vs)∧aE c xs vs∧(∀ v ∈ vs,v.cells.size=k∧∀ y ∈ v.cells,y.oneCell'=true)∧LV.bt xs=true:=by
 have:=hm.gH id
 rw [h] at this
 simp only [bJ] at this
 exact this
theorem K8 {c:Cx} {m:Mem} (hm:cG c m) {id n i off e k:Nat} {xs:List LV} {v:Value} (hv:ar c (.eptr id n i off) v) (cj:m id=some (.arr e k xs)) (hn:n=xs.length) {x:LV} (hx:xs[i]?=some x) (hs:x.cells.all LV.scalar=true) (ho:off≤x.cells.length) :
  ∃ b vs,v=.pointer (some ⟨b,i * k+off,.none⟩)∧aE c (x.cells.drop off) vs∧c.w.rangeAt b (i * k+off) vs:=by
 obtain ⟨u,vs,hB,hk,bN,hl,hc,hp⟩:=lF hm cj
 simp only [ar] at hv
 obtain ⟨_,u',k',len,lL,kA,hle,hv⟩:=hv
 rw [hB] at kA
 cases kA
 obtain ⟨b,hb,rfl⟩:=hv hn
 obtain ⟨y,hy,SP⟩:=hl.get hx
 obtain ⟨h1,h2⟩:=ja (k:=k) (fun v hv=>(hc v hv).1) hy
 have hra:=gr bN hb
 rw [h1] at hra
 have:=mu hra
 rw [h2] at this
 simp only [Nat.zero_add] at this
 exact ⟨b,_,rfl,(SP.cellsOf hs).1.drop off,iJ this off⟩
theorem Dx {t:TypeId} {x:Operand} {K:LV→Mem→Prop} (ho:o.op=.load t x) (h:LOp P pr [] o ev m K):∃ lv m',K lv m'∧cw P pr o ev m lv m':=by
 simp only [LOp,ho] at h
 cases hx:ev x <;> simp only [hx] at h
 case sptr cs =>
  obtain ⟨lv,hK,hr⟩:=kK h
  refine ⟨lv,m,hK,pG ho fun c a bS hm=>?_⟩
  have hv:=bS x
  rw [hx] at hv
  simp only [ar] at hv
  obtain ⟨b,off,vs,he,_,_,hl,_,hra⟩:=hv
  exact ⟨b,off,he,hr c b off vs hl hra⟩
 case ptr id off =>
  cases hm:m id with
  | none=>simp [hm] at h
  | some le =>
   cases le with
   | map _ _ _=>simp [hm] at h
   | nest _ _ _ _=>simp [hm] at h
   | de _ _ _ _ _ _ _ _=>simp [hm] at h
   | dead=>simp [hm] at h
   | arr e k xs=>simp [hm] at h
   | box cs =>
    simp only [hm] at h
    obtain ⟨lv,hK,hr⟩:=kK h.2
    refine ⟨lv,m,hK,pG ho fun c a bS hM=>?_⟩
    obtain ⟨b,vs,e,hB,hh,hl,h1⟩:=j9 hM hm
    have hv:=bS x
    rw [hx] at hv
    simp only [ar] at hv
    obtain ⟨b',n,kA,he⟩:=hv
    rw [hB] at kA
    cases kA
    have hra:=iJ (ob hh) off
    simp only [Nat.zero_add] at hra
    exact ⟨b,off,he,hr c b off _ (hl.drop off) hra⟩
 case eptr id n i off =>
  cases hm:m id with
  | none=>simp [hm] at h
  | some le =>
   cases le with
   | map _ _ _=>simp [hm] at h
   | nest _ _ _ _=>simp [hm] at h
   | de _ _ _ _ _ _ _ _=>simp [hm] at h
   | dead=>simp [hm] at h
   | box cs=>simp [hm] at h
   | arr e k xs =>
    simp only [hm] at h
    obtain ⟨hn,y,hy,hs,Ly,h⟩:=h
    obtain ⟨lv,hK,hr⟩:=kK h
    refine ⟨lv,m,hK,pG ho fun c a bS hM=>?_⟩
    have hv:=bS x
    rw [hx] at hv
    obtain ⟨b,vs,he,hl,hra⟩:=K8 hM hv hm hn hy hs Ly
    exact ⟨b,_,he,hr c b _ vs hl hra⟩
theorem gV {w:World} {t:TypeId} {b off:Nat} {cur:Array Value} {e:TypeId} {v:Value} (ht:tok P t=true) (hs:tsize P t=v.cells.size) (hh:w.heap[b]?=some (.cells cur e (0,0))) (hl:off+v.cells.size≤cur.size) (h1:∀ y ∈ v.cells,y.oneCell'=true) :
  (Instr.storeAt t (.pointer (some ⟨b,off,.none⟩)) v).run P w=.ok () (w.setRow b (cur.toList.take off++v.cells.toList++cur.toList.drop (off+v.cells.toList.length)).toArray):=by
 unfold tok at ht
 cases hi:P.info? t with
 | none=>simp [hi] at ht
 | some i =>
  have fe:v.cells.size=i.size:=by rw [← hs]; simp [tsize,hi]
  have vy:=run_storeCells_at (P:=P) b off e v.cells.toList 0 cur w hh (by simpa using hl) (fun y hy=>h1 y (by simpa using hy))
  simp only [Nat.add_zero] at vy
  simp [Instr.storeAt,Instr.sureAddr,storeVar,sizeOf,typeInfo,hi,fe,vy]
theorem cw.skip (h:∀ (c:Cx) (a:Act),(∀ x,ar c (ev x) (a.eval x))→cG c m→∃ c',(execOp a.eval o).run P c.w=.ok .skip c'.w∧cG c' m'∧Step pr c c'):cw P pr o ev m .fg m':=by
 intro c a Q bS hm
 obtain ⟨c',hr,h2,h3⟩:=h c a bS hm
 unfold Oper.wp
 rw [hr]
 exact ⟨undef,c',rfl,rfl,by simp [ar],h2,h3⟩
theorem Ds {cs ns:List LV} {off:Nat} (h:off+ns.length≤cs.length):(rep cs off ns).length=cs.length:=by
 simp [rep]; omega
theorem BH {t:TypeId} {x y:Operand} {K:LV→Mem→Prop} (ho:o.op=.store t x y) (h:LOp P pr [] o ev m K):∃ lv m',K lv m'∧cw P pr o ev m lv m':=by
 simp only [LOp,ho] at h
 obtain ⟨vw,SU,SX,h⟩:=h
 cases hx:ev x <;> simp only [hx] at h
 case ptr id off =>
  cases hm:m id with
  | none=>simp [hm] at h
  | some le =>
   cases le with
   | map _ _ _=>simp [hm] at h
   | nest _ _ _ _=>simp [hm] at h
   | de _ _ _ _ _ _ _ _=>simp [hm] at h
   | dead=>simp [hm] at h
   | arr e k xs=>simp [hm] at h
   | box cs =>
    simp only [hm] at h
    obtain ⟨Ly,hK⟩:=h
    refine ⟨_,_,hK,cw.skip fun c a bS hM=>?_⟩
    obtain ⟨b,vs,e,hB,hh,hl,h1⟩:=j9 hM hm
    have hv:=bS x
    rw [hx] at hv
    simp only [ar] at hv
    obtain ⟨b',n,kA,he⟩:=hv
    rw [hB] at kA
    cases kA
    obtain ⟨F3,rR⟩:=(bS y).cellsOf vw
    have hlen:(ev y).cells.length=(a.eval y).cells.size:=by rw [F3.length]; simp
    have hcl:=hl.length
    have dt:=gV (P:=P) (t:=t) (v:=a.eval y) (off:=off) SU (by rw [SX,hlen]) hh (by simp; omega) rR
    obtain ⟨c',hw,hb,h2,h3⟩:=hM.y4 (pr:=pr) id (.box (rep cs off (ev y).cells)) (.box b cs.length)
     (c.w.setRow b (vs.toArray.toList.take off++(a.eval y).cells.toList++vs.toArray.toList.drop (off+(a.eval y).cells.toList.length)).toArray) rfl rfl rfl (Nat.le_refl _) (by simp)
     (fun b' iG eE=>setRow_other _ _ _ _ (fun e=>eE _ hB (by rw [e]; exact rfl)))
     (fun b' iG=>.inl ⟨_,hB,iG⟩) (by rw [hB]; exact js.refl _) (fun _ dr h0=>by rw [hB] at h0; cases h0; exact .refl _)
     (fun c' hw hle hble=>by
      simp only [bJ]
      refine ⟨b,_,e,by rw [Ds Ly],by rw [hw]; exact setRow_heap c.w b _ _ e _ hh,?_,?_⟩
      ·refine aE.mono hle _ _ (fun id _=>hble id) ?_
       unfold rep
       rw [F3.length]
       simp only [List.toList_toArray]
       exact ((hl.take off).append F3).append (hl.drop _)
      ·intro v hv
       simp only [List.toList_toArray,List.mem_append] at hv
       rcases hv with (hv | hv) | hv
       ·exact h1 v (List.mem_of_mem_take hv)
       ·exact rR v (by simpa using hv)
       ·exact h1 v (List.mem_of_mem_drop hv))
    refine ⟨c',?_,h2,h3⟩
    rw [hw]
    simp [execOp,ho,he,dt]
 case eptr id n i off =>
  cases hm:m id with
  | none=>simp [hm] at h
  | some le =>
   cases le with
   | map _ _ _=>simp [hm] at h
   | nest _ _ _ _=>simp [hm] at h
   | de _ _ _ _ _ _ _ _=>simp [hm] at h
   | dead=>simp [hm] at h
   | box cs=>simp [hm] at h
   | arr e k xs =>
    simp only [hm] at h
    obtain ⟨hn,hp,z,z',hz,jd,hK⟩:=h
    refine ⟨_,_,hK,cw.skip fun c a bS hM=>?_⟩
    obtain ⟨u,vs,hB,hk,bN,hl,hc,VL⟩:=lF hM hm
    have hv:=bS x
    rw [hx] at hv
    simp only [ar] at hv
    obtain ⟨_,u',k',len,lL,kA,zF,hv⟩:=hv
    rw [hB] at kA
    cases kA
    obtain ⟨b,hb,he⟩:=hv hn
    obtain ⟨y',VP,SP⟩:=hl.get hz
    have hi:i<xs.length:=(List.getElem?_eq_some_iff.1 hz).1
    have hyk:y'.cells.size=k:=(hc y' (List.mem_of_getElem? VP)).1
    obtain ⟨F3,rR⟩:=(bS y).cellsOf vw
    have hlen:(ev y).cells.length=(a.eval y).cells.size:=by rw [F3.length]; simp
    obtain ⟨v',XC,Pe,Zj,X2⟩:∃ v',ar c z' v'∧v'.cells.toList=y'.cells.toList.take off++(a.eval y).cells.toList++y'.cells.toList.drop (off+(a.eval y).cells.toList.length)∧off+(a.eval y).cells.size≤y'.cells.size∧z'.pure=true:=by
     unfold By at jd
     split at jd
     ·rename_i cs
      split at jd
      ·rename_i HL
       cases jd
       simp only [ar] at SP ⊢
       obtain ⟨zs,rfl,X5⟩:=SP
       refine ⟨.agg (zs.take off++(a.eval y).cells.toList++zs.drop (off+(a.eval y).cells.toList.length)).toArray,⟨_,rfl,?_⟩,by simp [Value.cells],?_,?_⟩
       ·unfold rep
        rw [F3.length]
        exact ((X5.take off).append F3).append (X5.drop _)
       ·have h5:=X5.length
        have h6:=HL.1
        show off+(a.eval y).cells.size≤zs.toArray.size
        simp only [List.size_toArray]; omega
       ·have Zu:LV.bt cs=true:=by have:=c6.1 VL _ (List.mem_of_getElem? hz); simpa [LV.pure] using this
        simp only [LV.pure,rep]
        exact jV (jV (uG Zu _) hp) (uF Zu _)
      ·cases jd
     ·split at jd
      ·rename_i HL
       obtain ⟨rfl,BW,X1⟩:=HL
       cases jd
       have h1:=eZ BW (bS y)
       have h2:=eZ X1 SP
       refine ⟨a.eval y,bS y,?_,?_,?_⟩
       ·rw [dF h1,dF h2]; simp
       ·rw [dF h1,dF h2]; simp
       ·rw [nb BW] at hp; simpa [LV.bt] using hp
      ·cases jd
    obtain ⟨SD,kh⟩:=bN
    rcases kh with ⟨rfl,h0⟩ | ⟨g,cap,cur,rfl,yh,hg,mh,hcm,hcs,wE⟩
    ·omega
    ·simp only [Value.ownBlock,Option.some.injEq] at hb
     subst hb
     have Ls:i * k+k≤xs.length * k:=by
      have:=Nat.mul_le_mul_right k (show i+1≤xs.length by omega)
      rw [Nat.add_mul,Nat.one_mul] at this; exact this
     have Ze:xs.length * k≤cap * k:=Nat.mul_le_mul_right k mh
     have hfit:i * k+off+(a.eval y).cells.size≤cur.size:=by omega
     have dt:=gV (P:=P) (t:=t) (v:=a.eval y) (off:=i * k+off) SU (by rw [SX,hlen]) hg hfit rR
     obtain ⟨f1,f2⟩:=ja (k:=k) (fun v hv=>(hc v hv).1) VP
     have nU:=hl.length
     have Sz:i<vs.length:=by omega
     have oT:flat (vs.set i v')=(flat vs).take (i * k+off)++(a.eval y).cells.toList++(flat vs).drop (i * k+off+(a.eval y).cells.toList.length):=by
      have e1:vs.set i v'=vs.take i++v' :: vs.drop (i+1):=by rw [List.set_eq_take_append_cons_drop,if_pos Sz]
      rw [e1,fC,gC,Pe,f1,← f2]
      have e2:(a.eval y).cells.toList.length=(a.eval y).cells.size:=by simp
      have e3:y'.cells.toList.length=y'.cells.size:=by simp
      rw [List.take_length_add_append,Nat.add_assoc (flat (vs.take i)).length,List.drop_length_add_append,List.take_append_of_le_length (by omega),List.drop_append_of_le_length (by omega)]
      simp
     have OK:(cur.toList.take (i * k+off)++(a.eval y).cells.toList++cur.toList.drop (i * k+off+(a.eval y).cells.toList.length)).take (xs.length * k)=flat (vs.set i v'):=by
      rw [oT,← wE]
      have e2:(a.eval y).cells.toList.length=(a.eval y).cells.size:=by simp
      have e4:cur.toList.length=cur.size:=by simp
      apply List.ext_getElem?
      intro j
      simp only [List.getElem?_take,List.getElem?_append,List.length_append,List.length_take,List.getElem?_drop,e2,e4]
      repeat' split
      all_goals first | rfl | omega | (congr 1; omega) | skip
     obtain ⟨c',hw,iG,h2,h3⟩:=hM.y4 (pr:=pr) id (.arr e k (xs.set i z')) (.arr (.slice (some ⟨g,0,.none⟩) xs.length cap) k xs.length [])
      (c.w.setRow g (cur.toList.take (i * k+off)++(a.eval y).cells.toList++cur.toList.drop (i * k+off+(a.eval y).cells.toList.length)).toArray) rfl rfl rfl (Nat.le_refl _) (by simp)
      (fun b' iG eE=>setRow_other _ _ _ _ (fun e=>eE _ hB (.inl (by rw [e]; rfl))))
      (fun b' iG=>.inl ⟨_,hB,iG⟩) (by rw [hB]; exact js.refl _) (fun _ dr h0=>by rw [hB] at h0; cases h0; exact .refl _)
      (fun c' hw hle hble=>by
       simp only [bJ,List.length_set]
       refine ⟨.slice (some ⟨g,0,.none⟩) xs.length cap,vs.set i v',rfl,hk,⟨?_,.inr ⟨g,cap,_,rfl,yh,by rw [hw]; exact setRow_heap c.w g _ _ e _ hg,mh,hcm,?_,?_⟩⟩,?_,?_,?_⟩
       ·rw [oT]
        have e2:(a.eval y).cells.toList.length=(a.eval y).cells.size:=by simp
        simp only [List.length_append,List.length_take,List.length_drop,List.length_set,SD,e2]
        omega
       ·have e2:(a.eval y).cells.toList.length=(a.eval y).cells.size:=by simp
        simp only [List.size_toArray,List.length_append,List.length_take,List.length_drop,Array.length_toList]
        omega
       ·exact OK
       ·refine aE.mono hle _ _ (fun id _=>hble id) (aE.of (by simpa using nU) fun j x' w' oC KR=>?_)
        by_cases hj:j=i
        ·subst hj
         simp only [List.getElem?_set_self hi,Option.some.injEq] at oC
         simp only [List.getElem?_set_self Sz,Option.some.injEq] at KR
         subst oC; subst KR; exact XC
        ·rw [List.getElem?_set_ne (Ne.symm hj)] at oC KR
         obtain ⟨Rk,S3,W9⟩:=hl.get oC
         rw [KR] at S3; cases S3; exact W9
       ·intro v hv
        rcases List.mem_or_eq_of_mem_set hv with hv | hv
        ·exact hc v hv
        ·subst hv
         have fe:v.cells.size=k:=by
          have:=congrArg List.length Pe
          have e2:(a.eval y).cells.toList.length=(a.eval y).cells.size:=by simp
          simp only [List.length_append,List.length_take,List.length_drop,Array.length_toList] at this
          omega
         refine ⟨fe,fun y0 X0=>?_⟩
         have Pt:y0 ∈ v.cells.toList:=by simpa using X0
         rw [Pe] at Pt
         simp only [List.mem_append] at Pt
         rcases Pt with (hq | hq) | hq
         ·exact (hc y' (List.mem_of_getElem? VP)).2 y0 (by simpa using List.mem_of_mem_take hq)
         ·exact rR y0 (by simpa using hq)
         ·exact (hc y' (List.mem_of_getElem? VP)).2 y0 (by simpa using List.mem_of_mem_drop hq)
       ·refine c6.2 fun x' oC=>?_
        rcases List.mem_or_eq_of_mem_set oC with oC | oC
        ·exact c6.1 VL x' oC
        ·subst oC; exact X2)
     refine ⟨c',?_,h2,h3⟩
     rw [hw]
     simp [execOp,ho,he,dt]
end ops
end Go.L
namespace Go.L
section ops
variable {P:Program} {pr:Nat→Prop} {o:Oper} {ev:Operand→LV} {m m':Mem} {lv:LV} {K:LV→Mem→Prop}
theorem gY {c:Cx} {m:Mem} (hm:cG c m) {id n e k:Nat} {xs:List LV} {v:Value} (hv:ar c (.arr id n) v) (cj:m id=some (.arr e k xs)) (hn:n=xs.length) :
  ∃ vs,c.B id=some (.arr v k xs.length [])∧0<k∧c.w.ownsRow 0 e k v xs.length (flat vs)∧aE c xs vs∧(∀ v ∈ vs,v.cells.size=k∧∀ y ∈ v.cells,y.oneCell'=true)∧LV.bt xs=true:=by
 obtain ⟨u,vs,hB,hk,bN,hl,hc,VL⟩:=lF hm cj
 simp only [ar] at hv
 obtain ⟨_,u',k',len,lL,kA,zF,hv⟩:=hv
 rw [hB] at kA
 cases kA
 have:=hv hn
 subst this
 exact ⟨vs,hB,hk,bN,hl,hc,VL⟩
theorem ef {w:World} {e k n:Nat} {v:Value} {vs:List Value} (h:w.ownsRow 0 e k v n vs):∃ a cap,v=.slice a n cap:=by
 rcases h.2 with ⟨rfl,rfl⟩ | ⟨g,cap,cur,rfl,_⟩
 ·exact ⟨_,_,rfl⟩
 ·exact ⟨_,_,rfl⟩
theorem uW {x:Operand} (ho:o.op=.nilCheck x) (h:LOp P pr [] o ev m K):∃ lv m',K lv m'∧cw P pr o ev m lv m':=by
 simp only [LOp,ho] at h
 cases hx:ev x <;> simp only [hx] at h
 case ptr id off =>
  refine ⟨_,_,h,cw.same fun c a bS hm=>?_⟩
  have hv:=bS x
  rw [hx] at hv
  have sS:=hv
  simp only [ar] at sS
  obtain ⟨b,n,_,he⟩:=sS
  exact ⟨a.eval x,by simp [execOp,ho,he],hv⟩
 case sptr cs =>
  refine ⟨_,_,h,cw.same fun c a bS hm=>?_⟩
  have hv:=bS x
  rw [hx] at hv
  have sS:=hv
  simp only [ar] at sS
  obtain ⟨b,off,vs,he,_⟩:=sS
  exact ⟨a.eval x,by simp [execOp,ho,he],hv⟩
 case eptr id n i off =>
  obtain ⟨hn,hK⟩:=h
  refine ⟨_,_,hK,cw.same fun c a bS hm=>?_⟩
  have hv:=bS x
  rw [hx] at hv
  cases cj:m id with
  | none=>simp [cj] at hn
  | some le =>
   cases le with
   | map _ _ _=>simp [cj] at hn
   | nest _ _ _ _=>simp [cj] at hn
   | de _ _ _ _ _ _ _ _=>simp [cj] at hn
   | dead=>simp [cj] at hn
   | box cs=>simp [cj] at hn
   | arr e k xs =>
    simp only [cj] at hn
    obtain ⟨u,vs,hB,_⟩:=lF hm cj
    have sS:=hv
    simp only [ar] at sS
    obtain ⟨_,u',k',len,lL,kA,zF,sS⟩:=sS
    rw [hB] at kA
    cases kA
    obtain ⟨b,_,he⟩:=sS hn
    exact ⟨a.eval x,by simp [execOp,ho,he],hv⟩
 case fn f cap =>
  refine ⟨_,_,h,cw.same fun c a bS hm=>?_⟩
  have hv:=bS x
  rw [hx] at hv
  have sS:=hv
  simp only [ar] at sS
  obtain ⟨vs,he,_⟩:=sS
  exact ⟨a.eval x,by simp [execOp,ho,he],hv⟩
theorem pf {c:Cx}:∀ {xs:List LV} {vs us:List Value},eJ xs=some us→aE c xs vs→vs=us
 | [],vs,us,h,hr=>by simp [eJ] at h; simp [aE] at hr; rw [hr,h]
 | x :: xs,vs,us,h,hr=>by
  simp only [aE] at hr
  obtain ⟨v,fR,rfl,hv,kJ⟩:=hr
  simp only [eJ] at h
  split at h
  ·rename_i v0 Vt h1 h2
   cases h
   rw [pf h2 kJ]
   cases x <;> simp [kc] at h1 <;> simp only [ar] at hv <;> subst h1 <;> subst hv <;> rfl
  ·cases h
theorem BC {op:BinOp} {t t':TypeId} {x y:Operand} (ho:o.op=.binOp op t x y t') (h:LOp P pr [] o ev m K):∃ lv m',K lv m'∧cw P pr o ev m lv m':=by
 simp only [LOp,ho] at h
 cases hx:ev x <;> simp only [hx] at h
 case int k a =>
  cases hy:ev y <;> simp only [hy] at h
  case int k' b =>
   obtain ⟨rfl,h⟩:=h
   have guard:∀ w,(eqGuard op t x y (.int k a) (.int k b)).run P w=.ok () w:=by
    intro w; unfold eqGuard; cases op <;> simp
   have key:∀ lv,(∀ w,(binOp op t (.int k a) (.int k b)).run P w=.ok lv w)→∀ l:LV,(∀ c,ar c l lv)→cw P pr o ev m l m:=by
    intro lv hr l hl
    refine cw.same fun c ac bS hm=>?_
    have oU:=bS x
    have lX:=bS y
    rw [hx] at oU
    rw [hy] at lX
    simp only [ar] at oU lX
    refine ⟨lv,?_,hl c⟩
    simp [execOp,ho,oU,lX,guard,hr]
   cases op <;> simp only [pB] at h
   case add=>exact ⟨_,_,h,key (.int k (k.wrap (a+b))) (fun w=>by simp [binOp,Op.intArith]) _ (fun c=>by simp [ar])⟩
   case sub=>exact ⟨_,_,h,key (.int k (k.wrap (a - b))) (fun w=>by simp [binOp,Op.intArith]) _ (fun c=>by simp [ar])⟩
   case mul=>exact ⟨_,_,h,key (.int k (k.wrap (a * b))) (fun w=>by simp [binOp,Op.intArith]) _ (fun c=>by simp [ar])⟩
   case quo=>exact ⟨_,_,h.2,key (.int k (k.wrap (a.tdiv b))) (fun w=>by simp [binOp,Op.intDiv,h.1]) _ (fun c=>by simp [ar])⟩
   case rem=>exact ⟨_,_,h.2,key (.int k (a.tmod b)) (fun w=>by simp [binOp,Op.intDiv,h.1]) _ (fun c=>by simp [ar])⟩
   case eql=>exact ⟨_,_,h,key (.bool (a == b)) (fun w=>by simp [binOp,Op.intCmp]) _ (fun c=>by simp [ar])⟩
   case neq=>exact ⟨_,_,h,key (.bool (a != b)) (fun w=>by simp [binOp,Op.intCmp]) _ (fun c=>by simp [ar])⟩
   case lss=>exact ⟨_,_,h,key (.bool (decide (a<b))) (fun w=>by simp [binOp,Op.intCmp]) _ (fun c=>by simp [ar])⟩
   case leq=>exact ⟨_,_,h,key (.bool (decide (a≤b))) (fun w=>by simp [binOp,Op.intCmp]) _ (fun c=>by simp [ar])⟩
   case gtr=>exact ⟨_,_,h,key (.bool (decide (a > b))) (fun w=>by simp [binOp,Op.intCmp]) _ (fun c=>by simp [ar])⟩
   case geq=>exact ⟨_,_,h,key (.bool (decide (a ≥ b))) (fun w=>by simp [binOp,Op.intCmp]) _ (fun c=>by simp [ar])⟩
 case bool a =>
  cases hy:ev y <;> simp only [hy] at h
  case bool b =>
   obtain ⟨ht,h⟩:=h
   have hu:P.underlying t=some .bool:=by
    unfold xK at ht
    split at ht
    ·assumption
    ·cases ht
   have guard:∀ w,(eqGuard op t x y (.bool a) (.bool b)).run P w=.ok () w:=by
    intro w; unfold eqGuard; cases op <;> simp
   have key:∀ lv,(∀ w,(binOp op t (.bool a) (.bool b)).run P w=.ok lv w)→∀ l:LV,(∀ c,ar c l lv)→cw P pr o ev m l m:=by
    intro lv hr l hl
    refine cw.same fun c ac bS hm=>?_
    have oU:=bS x
    have lX:=bS y
    rw [hx] at oU
    rw [hy] at lX
    simp only [ar] at oU lX
    refine ⟨lv,?_,hl c⟩
    simp [execOp,ho,oU,lX,guard,hr]
   have heq:∀ w,(Op.equal t (.bool a) (.bool b)).run P w=.ok (a == b) w:=fun w=>run_equalIn_bool' w 9999 t a b hu
   cases op <;> simp only [] at h
   case eql=>exact ⟨_,_,h,key (.bool (a == b)) (fun w=>by simp [binOp,heq]) _ (fun c=>by simp [ar])⟩
   case neq=>exact ⟨_,_,h,key (.bool (!(a == b))) (fun w=>by simp [binOp,heq]) _ (fun c=>by simp [ar])⟩
 case agg xs =>
  cases hy:ev y <;> simp only [hy] at h
  case agg ys =>
   obtain ⟨b,⟨hgd,us,ws,G0,hws,heq⟩,h⟩:=h
   have guard:∀ w,(eqGuard op t x y (.agg us.toArray) (.agg ws.toArray)).run P w=.ok () w:=by
    intro w; unfold eqGuard; cases op <;> simp [hgd]
   have key:∀ lv,(∀ w,(binOp op t (.agg us.toArray) (.agg ws.toArray)).run P w=.ok lv w)→∀ l:LV,(∀ c,ar c l lv)→cw P pr o ev m l m:=by
    intro lv hr l hl
    refine cw.same fun c ac bS hm=>?_
    have oU:=bS x
    have lX:=bS y
    rw [hx] at oU
    rw [hy] at lX
    simp only [ar] at oU lX
    obtain ⟨vs1,oU,dR⟩:=oU
    obtain ⟨ZU,lX,hr2⟩:=lX
    rw [pf G0 dR] at oU
    rw [pf hws hr2] at lX
    refine ⟨lv,?_,hl c⟩
    simp [execOp,ho,oU,lX,guard,hr]
   cases op <;> simp only [] at h
   case eql=>exact ⟨_,_,h,key (.bool b) (fun w=>by simp [binOp,heq]) _ (fun c=>by simp [ar])⟩
   case neq=>exact ⟨_,_,h,key (.bool (!b)) (fun w=>by simp [binOp,heq]) _ (fun c=>by simp [ar])⟩
theorem Dy {op:UnOp} {t:TypeId} {x:Operand} (ho:o.op=.unOp op t x) (h:LOp P pr [] o ev m K):∃ lv m',K lv m'∧cw P pr o ev m lv m':=by
 simp only [LOp,ho] at h
 cases op <;> cases hx:ev x <;> simp only [hx] at h
 case neg.int k n =>
   refine ⟨_,_,h,cw.same fun c a bS hm=>?_⟩
   have hv:=bS x
   rw [hx] at hv
   simp only [ar] at hv
   exact ⟨_,by simp [execOp,ho,hv,Op.unary,Op.intArith]; rfl,by simp [ar]⟩
 case not.bool b =>
   refine ⟨_,_,h,cw.same fun c a bS hm=>?_⟩
   have hv:=bS x
   rw [hx] at hv
   simp only [ar] at hv
   exact ⟨_,by simp [execOp,ho,hv,Op.unary]; rfl,by simp [ar]⟩
theorem wc {s t:TypeId} {x:Operand} (ho:o.op=.convert s t x) (h:LOp P pr [] o ev m K):∃ lv m',K lv m'∧cw P pr o ev m lv m':=by
 simp only [LOp,ho] at h
 obtain ⟨hs,h⟩:=h
 cases ht:tint P t <;> simp only [ht] at h
 case some k =>
  cases hx:ev x <;> simp only [hx] at h
  case int k' n =>
   refine ⟨_,_,h,cw.same fun c a bS hm=>?_⟩
   have hv:=bS x
   rw [hx] at hv
   simp only [ar] at hv
   have hu:P.underlying t=some (.int k):=by
    unfold tint at ht
    split at ht
    ·cases ht; assumption
    ·cases ht
   unfold tok at hs
   cases G0:P.underlying s with
   | none=>simp [G0] at hs
   | some d =>
    refine ⟨.int k (k.wrap n),?_,by simp [ar]⟩
    simp [execOp,ho,hv,convert,run_underlying hu,run_underlying G0,Conv.intToInt]
theorem sG {t:TypeId} {x:Operand} {f:Nat} (ho:o.op=.fieldAddr t x f) (h:LOp P pr [] o ev m K):∃ lv m',K lv m'∧cw P pr o ev m lv m':=by
 simp only [LOp,ho] at h
 cases oB:tfield P t f <;> simp only [oB] at h
 case some q =>
  obtain ⟨off,ft⟩:=q
  simp only at h
  obtain ⟨gP,fe,h⟩:=h
  obtain ⟨fs,fd,hu,Ee,rfl,rfl⟩:∃ fs fd,P.underlying t=some (.struct fs)∧fs[f]?=some fd∧fd.offset=off∧fd.type=ft:=by
   unfold tfield at oB
   split at oB
   ·rename_i fs hu
    cases hf:fs[f]? with
    | none=>simp [hf] at oB
    | some fd=>simp [hf] at oB; exact ⟨fs,fd,hu,hf,oB.1,oB.2⟩
   ·cases oB
  have dt:∀ (w:World) (b q:Nat),(Instr.fieldAt t (.pointer (some ⟨b,q,.none⟩)) f).run P w=.ok (.pointer (some ⟨b,q+fd.offset,.none⟩)) w:=by
   intro w b q
   have hi:∃ i,P.info? fd.type=some i∧i.size ≠ 0:=by
    unfold tok at gP
    cases hi:P.info? fd.type with
    | none=>simp [hi] at gP
    | some i=>exact ⟨i,rfl,by simpa [tsize,hi] using fe⟩
   obtain ⟨i,hi,hi0⟩:=hi
   simp [Instr.fieldAt,run_underlying hu,Ee,Instr.sureAddr,fieldPlace,sizeOf,typeInfo,hi,hi0,Addr.add_mid]
  cases hx:ev x <;> simp only [hx] at h
  case sptr cs =>
   refine ⟨_,_,h.2,cw.same fun c a bS hm=>?_⟩
   have hv:=bS x
   rw [hx] at hv
   simp only [ar] at hv
   obtain ⟨b,q,vs,he,hb,hX,hl,h1,hra⟩:=hv
   refine ⟨_,by simp [execOp,ho,he,dt]; rfl,?_⟩
   simp only [ar]
   exact ⟨b,q+fd.offset,vs.drop fd.offset,rfl,hb,hX,hl.drop _,fun y hy=>h1 y (List.mem_of_mem_drop hy),iJ hra _⟩
  case ptr id q =>
   refine ⟨_,_,h,cw.same fun c a bS hm=>?_⟩
   have hv:=bS x
   rw [hx] at hv
   simp only [ar] at hv
   obtain ⟨b,n,hB,he⟩:=hv
   refine ⟨_,by simp [execOp,ho,he,dt]; rfl,?_⟩
   simp only [ar]
   exact ⟨b,n,hB,rfl⟩
  case eptr id n i q =>
   obtain ⟨hn,hK⟩:=h
   refine ⟨_,_,hK,cw.same fun c a bS hm=>?_⟩
   have hv:=bS x
   rw [hx] at hv
   cases cj:m id with
   | none=>simp [cj] at hn
   | some le =>
    cases le with
    | map _ _ _=>simp [cj] at hn
    | nest _ _ _ _=>simp [cj] at hn
    | de _ _ _ _ _ _ _ _=>simp [cj] at hn
    | dead=>simp [cj] at hn
    | box cs=>simp [cj] at hn
    | arr e k xs =>
     simp only [cj] at hn
     obtain ⟨u,vs,hB,_⟩:=lF hm cj
     simp only [ar] at hv
     obtain ⟨_,u',k',len,lL,kA,zF,hv⟩:=hv
     rw [hB] at kA
     cases kA
     obtain ⟨b,hb,he⟩:=hv hn
     refine ⟨_,by simp [execOp,ho,he,dt]; rfl,?_⟩
     simp only [ar]
     exact ⟨rfl,u,k,xs.length,_,hB,zF,fun _=>⟨b,hb,by rw [Nat.add_assoc]⟩⟩
theorem Kh {t:TypeId} {cs:List LV} {off:Nat} (h:loadC P t (cs.drop off) fun lv=>K lv m) (Ly:off≤cs.length) :
  ∃ lv,K lv m∧∀ (c:Cx) (vs:List Value),aE c cs vs→∃ v,(part t vs.toArray off).run P c.w=.ok v c.w∧ar c lv v:=by
 obtain ⟨ht,h⟩:=h
 unfold tok at ht
 cases hi:P.info? t with
 | none=>simp [hi] at ht
 | some i =>
  cases hu:P.underlying t with
  | none=>simp [hu] at ht
  | some d =>
   have fe:tsize P t=i.size:=by simp [tsize,hi]
   by_cases hg:tagg P t=true
   ·rw [if_pos hg] at h
    refine ⟨_,h.2,fun c vs hl=>?_⟩
    have HI:(isAgg t).run P c.w=.ok true c.w:=by
     unfold isAgg
     rw [Sem.run_bind,run_underlying hu c.w]
     simp only [tagg,hu] at hg
     cases d <;> simp_all
    refine ⟨.agg ((vs.drop off).take (tsize P t)).toArray,?_,?_⟩
    ·simp only [part,Sem.run_bind,HI,Result.andThen_ok,if_true,sizeOf,typeInfo,run_program,hi,Sem.run_pure,fe]
     congr 2
     simp [List.extract_eq_take_drop]
    ·simp only [ar]
     exact ⟨_,rfl,(hl.drop off).take _⟩
   ·rw [if_neg hg] at h
    cases hcs:cs.drop off with
    | nil=>simp [hcs] at h
    | cons x r =>
     simp only [hcs] at h
     refine ⟨x,h,fun c vs hl=>?_⟩
     have HI:(isAgg t).run P c.w=.ok false c.w:=by
      unfold isAgg
      rw [Sem.run_bind,run_underlying hu c.w]
      simp only [tagg,hu] at hg
      cases d <;> simp_all
     have oz:=hl.drop off
     rw [hcs] at oz
     simp only [aE] at oz
     obtain ⟨v,fR,he,hv,_⟩:=oz
     have HQ:vs[off]?=some v:=by
      have:=congrArg (fun l=>l[0]?) he
      simpa using this
     exact ⟨v,by simp [part,HI,HQ],hv⟩
theorem BF {t:TypeId} {x:Operand} {f:Nat} (ho:o.op=.field t x f) (h:LOp P pr [] o ev m K):∃ lv m',K lv m'∧cw P pr o ev m lv m':=by
 simp only [LOp,ho] at h
 cases oB:tfield P t f <;> simp only [oB] at h
 case some q =>
  obtain ⟨off,ft⟩:=q
  cases hx:ev x <;> simp only [hx] at h
  case agg cs =>
   obtain ⟨lv,hK,hr⟩:=Kh h.2 h.1
   refine ⟨lv,m,hK,cw.same fun c a bS hm=>?_⟩
   obtain ⟨fs,fd,hu,Ee,rfl,rfl⟩:∃ fs fd,P.underlying t=some (.struct fs)∧fs[f]?=some fd∧fd.offset=off∧fd.type=ft:=by
    unfold tfield at oB
    split at oB
    ·rename_i fs hu
     cases hf:fs[f]? with
     | none=>simp [hf] at oB
     | some fd=>simp [hf] at oB; exact ⟨fs,fd,hu,hf,oB.1,oB.2⟩
    ·cases oB
   have hv:=bS x
   rw [hx] at hv
   simp only [ar] at hv
   obtain ⟨vs,he,hl⟩:=hv
   obtain ⟨v,dR,hr2⟩:=hr c vs hl
   exact ⟨v,by simp [execOp,ho,he,Instr.field,run_underlying hu,Ee,asAgg,dR],hr2⟩
theorem we {t:Operand} {i:Nat} (ho:o.op=.extract t i) (h:LOp P pr [] o ev m K):∃ lv m',K lv m'∧cw P pr o ev m lv m':=by
 simp only [LOp,ho] at h
 cases hx:ev t <;> simp only [hx] at h
 case tup vs =>
  obtain ⟨x,oC,hK⟩:=h
  refine ⟨_,_,hK,cw.same fun c a bS hm=>?_⟩
  have hv:=bS t
  rw [hx] at hv
  simp only [ar] at hv
  obtain ⟨us,he,hl⟩:=hv
  obtain ⟨v,iR,hv2⟩:=hl.get oC
  exact ⟨v,by simp [execOp,ho,he,Instr.extract,iR],hv2⟩
theorem uQ {c:Cx} {ev:Operand→LV} {a:Act} (bS:∀ x,ar c (ev x) (a.eval x)):∀ (xs:List Operand),aE c (xs.map ev) (xs.map a.eval)
 | []=>by simp [aE]
 | x :: xs=>by simp only [List.map_cons,aE]; exact ⟨_,_,rfl,bS x,uQ bS xs⟩
theorem uV {f:Fn} {first cap:Array Operand} (ho:o.op=.makeFunc f first cap) (h:LOp P pr [] o ev m K):∃ lv m',K lv m'∧cw P pr o ev m lv m':=by
 simp only [LOp,ho] at h
 cases f <;> simp only [] at h
 case func f =>
  obtain ⟨rfl,hK⟩:=h
  refine ⟨_,_,hK,cw.same fun c a bS hm=>?_⟩
  refine ⟨.func (.func f) #[] (cap.toList.map a.eval).toArray,by simp [execOp,ho,Instr.makeFunc]; rw [← Array.toList_map,Array.toArray_toList],?_⟩
  simp only [ar]
  exact ⟨_,rfl,uQ bS _⟩
theorem sH {t:TypeId} {x i:Operand} (ho:o.op=.indexAddr t x i) (h:LOp P pr [] o ev m K):∃ lv m',K lv m'∧cw P pr o ev m lv m':=by
 simp only [LOp,ho] at h
 cases kB:telem P t <;> simp only [kB] at h
 case some e =>
  have hu:P.underlying t=some (.slice e):=by
   unfold telem at kB
   split at kB
   ·cases kB; assumption
   ·cases kB
  cases hx:ev x <;> simp only [hx] at h
  case lst k xs =>
   cases hi:ev i <;> simp only [hi] at h
   case int ki n =>
    obtain ⟨gP,hk,h0,y,hy,X1,hK⟩:=h
    refine ⟨_,_,hK,cw.same fun c a bS hm=>?_⟩
    have Iv:=bS i
    rw [hi] at Iv
    simp only [ar] at Iv
    have hv:=bS x
    rw [hx] at hv
    simp only [ar] at hv
    obtain ⟨ad,cap,he,hcap,hn,hp,hr⟩:=hv
    have hlt:n.toNat<xs.length:=(List.getElem?_eq_some_iff.1 hy).1
    rcases hr with rfl | ⟨b,off,vs,rfl,hb,hX,hl,hc,hra⟩
    ·simp at hlt
    ·obtain ⟨u,hu1,hu2⟩:=hl.get hy
     obtain ⟨f1,f2⟩:=ja (k:=k) (fun v hv=>(hc v hv).1) hu1
     rw [f1] at hra
     have SM:=mu hra
     rw [f2] at SM
     obtain ⟨ra,XB⟩:=hu2.cellsOf X1
     refine ⟨.pointer (some ⟨b,off+n.toNat * k,.none⟩),?_,?_⟩
     ·unfold tok at gP
      cases yi:P.info? e with
      | none=>simp [yi] at gP
      | some ie =>
       have HW:k=ie.size:=by rw [hk]; simp [tsize,yi]
       have H0:n<(xs.length:Int):=by omega
       simp [execOp,ho,he,Iv,Instr.indexAt,asIntOf,run_underlying hu,h0,H0,sizeOf,typeInfo,yi,Addr.add_mid,HW]
     ·simp only [ar]
      exact ⟨b,_,u.cells.toList,rfl,hb,hX,ra,fun y hy=>XB y (by simpa using hy),SM⟩
  case arr id l =>
   cases hi:ev i <;> simp only [hi] at h
   case int ki n =>
    cases cj:m id with
    | none=>simp [cj] at h
    | some le =>
     cases le with
     | map _ _ _=>simp [cj] at h
     | nest _ _ _ _=>simp [cj] at h
     | de _ _ _ _ _ _ _ _=>simp [cj] at h
     | dead=>simp [cj] at h
     | box cs=>simp [cj] at h
     | arr e' k xs =>
      simp only [cj] at h
      obtain ⟨gP,oz,hk,h0,hlt,hK⟩:=h
      refine ⟨_,_,hK,cw.same fun c a bS hm=>?_⟩
      have Iv:=bS i
      rw [hi] at Iv
      simp only [ar] at Iv
      have hv:=bS x
      rw [hx] at hv
      obtain ⟨vs,hB,HV,bN,hl,hc,hp⟩:=gY hm hv cj oz
      rcases bN.2 with ⟨_,h00⟩ | ⟨g,cap,cur,Pp,_⟩
      ·omega
      ·refine ⟨.pointer (some ⟨g,n.toNat * k,.none⟩),?_,?_⟩
       ·unfold tok at gP
        cases yi:P.info? e with
        | none=>simp [yi] at gP
        | some ie =>
         have HW:k=ie.size:=by rw [hk]; simp [tsize,yi]
         have H0:n<(xs.length:Int):=by omega
         simp [execOp,ho,Pp,Iv,Instr.indexAt,asIntOf,run_underlying hu,h0,H0,sizeOf,typeInfo,yi,Addr.add_mid,HW]
       ·simp only [ar]
        exact ⟨rfl,_,k,xs.length,_,hB,by omega,fun _=>⟨g,by rw [Pp]; rfl,by simp⟩⟩
end ops
end Go.L
namespace Go.L
section ops
variable {P:Program} {pr:Nat→Prop} {o:Oper} {ev:Operand→LV} {m m':Mem} {lv:LV} {K:LV→Mem→Prop}
theorem fX {t e:TypeId} (h:telem P t=some e):P.underlying t=some (.slice e):=by
 unfold telem at h
 split at h
 ·cases h; assumption
 ·cases h
theorem BG {t:TypeId} {x:Operand} {lo hi mx:Option Operand} (ho:o.op=.slice t x lo hi mx) (h:LOp P pr [] o ev m K):∃ lv m',K lv m'∧cw P pr o ev m lv m':=by
 simp only [LOp,ho] at h
 obtain ⟨kB,wE,rfl,h⟩:=h
 obtain ⟨e,kB⟩:=Option.isSome_iff_exists.1 kB
 have hu:=fX kB
 have ML:∃ ie,P.info? e=some ie:=by
  simp only [kB,Option.getD_some] at wE
  unfold tok at wE
  cases hi:P.info? e with
  | none=>simp [hi] at wE
  | some ie=>exact ⟨ie,rfl⟩
 cases hx:ev x <;> simp only [hx] at h
 case nil =>
  obtain ⟨GX,KO,hK⟩:=h
  refine ⟨_,_,hK,cw.same fun c a bS hm=>?_⟩
  have hv:=bS x
  rw [hx] at hv
  simp only [ar] at hv
  refine ⟨.slice .none 0 0,?_,by simp [ar]⟩
  have h1:∀ y,lo=some y→a.eval y=.int .i64 0:=fun y hy=>by
   subst hy; simp only at GX; have:=bS y; rw [GX] at this; simpa only [ar] using this
  have h2:∀ y,hi=some y→a.eval y=.int .i64 0:=fun y hy=>by
   subst hy; simp only at KO; have:=bS y; rw [KO] at this; simpa only [ar] using this
  obtain ⟨ie,yi⟩:=ML
  cases lo <;> cases hi <;> simp_all [execOp,Instr.sliceAt,run_underlying hu,Instr.slice,Instr.sliceBounds,Instr.sliceBound,asIntOf,sizeOf,typeInfo]
 case lst k xs =>
  obtain ⟨hk,l,h',GX,KO,hlh,hhx,hK⟩:=h
  refine ⟨_,_,hK,cw.same fun c a bS hm=>?_⟩
  have hv:=bS x
  rw [hx] at hv
  simp only [ar] at hv
  obtain ⟨ad,cap,he,hcap,hn,hp,hr⟩:=hv
  have h1:∀ y,lo=some y→a.eval y=.int .i64 l:=fun y hy=>by
   subst hy; simp only at GX; have:=bS y; rw [GX] at this; simpa only [ar] using this
  have h2:∀ y,hi=some y→a.eval y=.int .i64 h':=fun y hy=>by
   subst hy; simp only at KO; have:=bS y; rw [KO] at this; simpa only [ar] using this
  obtain ⟨ie,yi⟩:=ML
  have HW:k=ie.size:=by simpa [kB,tsize,yi] using hk
  have dt:(execOp a.eval o).run P c.w=.ok (.value (.slice (if cap=l then ad else ad.map (·.add (l * ie.size))) (h' - l) (cap - l))) c.w:=by
   have g1:(Instr.sliceBounds true xs.length cap (lo.map a.eval) (hi.map a.eval) .none).run P c.w=.ok (l,h',cap) c.w:=by
    have b2:(h':Int)≤cap:=by omega
    have b1:(l:Int)≤h':=by omega
    cases lo <;> cases hi <;> simp_all [Instr.sliceBounds,Instr.sliceBound,asIntOf]
   simp [execOp,ho,he,Instr.sliceAt,run_underlying hu,Instr.slice,g1,sizeOf,typeInfo,yi]
  refine ⟨_,dt,?_⟩
  simp only [ar]
  have hlen:((xs.take h').drop l).length=h' - l:=by simp; omega
  refine ⟨_,cap - l,by rw [hlen],by rw [hlen]; omega,fun h0=>?_,uF (uG hp _) _,?_⟩
  ·have:ad=.none:=by
    split at h0
    ·exact h0
    ·simpa using h0
   have:=hn this; omega
  ·by_cases WG:(xs.take h').drop l=[]
   ·exact .inl WG
   ·right
    have Lz:0<h' - l:=by rw [← hlen]; exact List.length_pos_iff.2 WG
    rcases hr with rfl | ⟨b,off,vs,rfl,hb,hX,hl,hc,hra⟩
    ·simp at WG
    ·refine ⟨b,off+l * k,(vs.take h').drop l,?_,hb,hX,(hl.take h').drop l,fun u hu=>hc u (List.mem_of_mem_take (List.mem_of_mem_drop hu)),?_⟩
     ·rw [if_neg (by omega)]; simp [Addr.add_mid,HW]
     ·have e1:vs=vs.take l++((vs.take h').drop l++vs.drop h'):=by
       rw [← List.append_assoc]
       have:vs.take l=(vs.take h').take l:=by rw [List.take_take,Nat.min_eq_left hlh]
       rw [this,List.take_append_drop,List.take_append_drop]
      rw [e1,fC,fC] at hra
      have:=mu hra
      rwa [ed (k:=k) (fun v hv=>(hc v (List.mem_of_mem_take hv)).1),List.length_take,Nat.min_eq_left (by have:=hl.length; omega)] at this
theorem GG {c0:Call} (ho:o.op=.call c0) (hc:c0.callee=.builtin .len) (h:LOp P pr [] o ev m K):∃ lv m',K lv m'∧cw P pr o ev m lv m':=by
 obtain ⟨cl,args,Rg⟩:=c0
 simp only at hc
 subst hc
 simp only [LOp,ho] at h
 split at h
 ·rename_i x t hargs vS
  obtain rfl:args=#[x]:=by apply Array.ext'; simpa using hargs
  obtain rfl:Rg=#[t]:=by apply Array.ext'; simpa using vS
  obtain ⟨kB,h⟩:=h
  obtain ⟨e,kB⟩:=Option.isSome_iff_exists.1 kB
  have hu:=fX kB
  have run:∀ (a:Act) (w:World) ad n cap,a.eval x=.slice ad n cap→(execOp a.eval o).run P w=.ok (.value (.int .i64 n)) w:=by
   intro a w ad n cap he
   simp [execOp,ho,resolve,invoke,builtin,Builtin.len_,he,run_underlying hu,goInt]
  cases hx:ev x <;> simp only [hx] at h
  case nil =>
   refine ⟨_,_,h,cw.same fun c a bS hm=>?_⟩
   have hv:=bS x
   rw [hx] at hv
   simp only [ar] at hv
   exact ⟨_,run a c.w _ _ _ hv,by simp [ar]⟩
  case lst k xs =>
   refine ⟨_,_,h,cw.same fun c a bS hm=>?_⟩
   have hv:=bS x
   rw [hx] at hv
   simp only [ar] at hv
   obtain ⟨ad,cap,he,_⟩:=hv
   exact ⟨_,run a c.w _ _ _ he,by simp [ar]⟩
  case arr id n =>
   obtain ⟨hn,hK⟩:=h
   refine ⟨_,_,hK,cw.same fun c a bS hm=>?_⟩
   have hv:=bS x
   rw [hx] at hv
   cases cj:m id with
   | none=>simp [cj] at hn
   | some le =>
    cases le with
    | map _ _ _=>simp [cj] at hn
    | nest _ _ _ _=>simp [cj] at hn
    | de _ _ _ _ _ _ _ _=>simp [cj] at hn
    | dead=>simp [cj] at hn
    | box cs=>simp [cj] at hn
    | arr e' k xs =>
     simp only [cj] at hn
     obtain ⟨vs,hB,HV,bN,hl,hc,hp⟩:=gY hm hv cj hn
     obtain ⟨ad,cap,he⟩:=ef bN
     exact ⟨_,run a c.w _ _ _ he,by simp [ar,hn]⟩
 ·cases h
theorem Dw {c0:Call} {x:Operand} (ho:o.op=.call c0) (hc:c0.callee=.value x) (h:LOp P pr [] o ev m K):∃ lv m',K lv m'∧cw P pr o ev m lv m':=by
 obtain ⟨cl,args,Rg⟩:=c0
 simp only at hc
 subst hc
 simp only [LOp,ho] at h
 cases hx:ev x <;> simp only [hx] at h
 case fn f cap =>
  obtain ⟨⟨fn,hf,ua,nL⟩,lv,mc,iN,nh,h1,h2,h3,h4,hK⟩:=h
  refine ⟨lv,_,hK,fun c a Q bS hm=>?_⟩
  have hv:=bS x
  rw [hx] at hv
  simp only [ar] at hv
  obtain ⟨us,he,hl⟩:=hv
  have dt:(execOp a.eval o).run P c.w=.ok (.enter f ((args.toList.map a.eval)++us).toArray) c.w:=by
   have e1:Array.map a.eval args++us.toArray=((args.toList.map a.eval)++us).toArray:=by
    apply Array.ext'; simp
   have px : ¬ fn.name = "runtime.NumGoroutine" := by simpa using ua
   have po:¬ fn.body=.none:=fun hn=>by rw [hn] at nL; cases nL
   simp [execOp,ho,resolve,Deferred.ofValue,he,invoke,callFunc,hf,px,po,e1]
  unfold Oper.wp
  rw [dt]
  simp only [Oper.upon]
  refine (nh.frame (m:=m) h1 h2 h3 h4 pr c _ hm ((uQ bS _).append hl)).mono ?_
  rintro en w' ⟨v,c',rfl,rfl,j6,sS,hs⟩
  exact ⟨v,c',rfl,rfl,sS,j6,hs⟩
end ops
end Go.L
namespace Go.L
section ops
variable {P:Program} {pr:Nat→Prop} {o:Oper} {ev:Operand→LV} {m m':Mem} {lv:LV} {K:LV→Mem→Prop}
theorem pJ {e:TypeId} (h:fQ P e=true):∃ i z,P.info? e=some i∧i.zero=some z∧z.cells.size=i.size∧(∀ v ∈ z.cells,v.oneCell'=true)∧0<i.size∧i.bytes≤256∧tsize P e=i.size:=by
 unfold fQ at h
 split at h
 ·rename_i i hi
  split at h
  ·rename_i z hz
   simp only [Bool.and_eq_true,decide_eq_true_eq,beq_iff_eq] at h
   exact ⟨i,z,hi,hz,h.1.1.1,fun v hv=>(Array.all_eq_true_iff_forall_mem.1 h.1.1.2) v hv,h.1.2,h.2,by simp [tsize,hi]⟩
  ·simp at h
 ·cases h
theorem Q8 {c:Cx} {y:LV} {ys:List LV} {k:Nat} {v:Value} (hy:y=.lst k ys ∨ (y=.nil∧ys=[])) (hv:ar c y v) :
  (ys=[]∧v=.slice .none 0 0) ∨ ∃ ad cap us,v=.slice (some ad) ys.length cap∧aE c ys us∧(∀ u ∈ us,u.cells.size=k∧∀ y ∈ u.cells,y.oneCell'=true)∧LV.bt ys=true∧∀ j u,(flat us)[j]?=some u→c.w.cell? (ad.add j)=some u:=by
 rcases hy with rfl | ⟨rfl,rfl⟩
 ·simp only [ar] at hv
  obtain ⟨a,cap,rfl,hcap,hn,hp,hr⟩:=hv
  rcases hr with rfl | ⟨b,off,vs,rfl,hb,hX,hl,hc,hra⟩
  ·cases a with
   | none=>left; have:=hn rfl; subst this; exact ⟨rfl,rfl⟩
   | some ad=>right; exact ⟨ad,cap,[],rfl,by simp [aE],by simp,by simp [LV.bt],by simp [flat]⟩
  ·right
   exact ⟨_,cap,vs,rfl,hl,hc,hp,fun j u hu=>by rw [Addr.add_mid]; exact hra j u hu⟩
 ·simp only [ar] at hv
  exact .inl ⟨rfl,hv⟩
theorem fy {w:World} {t ty e:TypeId} {i:TypeInfo} {z:Value} (ht:P.underlying t=some (.slice e)) (hi:P.info? e=some i) (hz:i.zero=some z) (sV:z.cells.size=i.size) (fe:0<i.size) (Lo:i.bytes≤256)
  {v:Value} {n:Nat} {xs:List Value} (bN:w.ownsRow 0 e i.size v n xs) {a:Addr} {q cap:Nat} {news:List Value} (hl:news.length=q * i.size) (ni:∀ j u,news[j]?=some u→w.cell? (a.add j)=some u) (h1:∀ u ∈ news,u.oneCell'=true)
  (hb:n+q≤549755813888) :
  ∃ v' w',(Builtin.append_ #[t,t] ty #[v,.slice (some a) q cap]).run P w=.ok v' w'∧w'.ownsRow 0 e i.size v' (n+q) (xs++news)∧w.grownBy w' v.ownBlock∧(∀ b,v'.ownBlock=some b→v.ownBlock=some b ∨ w.heap.size≤b)∧(q=0→v'=v)∧w.drawn≤w'.drawn:=by
 have hmul:(n+q) * i.bytes≤140737488355328:=by
  have:=Nat.mul_le_mul hb Lo
  omega
 have Wn:n+q≤maxLen:=by simp only [maxLen]; omega
 obtain ⟨v',w',hr,h2,h3,h4⟩:=run_append_own (P:=P) w 0 t ty e i z i.size i.bytes ht hi hz rfl rfl sV fe v n xs bN a q cap news hl ni h1 Wn hmul (Nat.zero_le _)
 refine ⟨v',w',hr,h2,h3,?_⟩
 rcases bN.2 with ⟨rfl,rfl⟩ | ⟨g,Od,cur,rfl,Ec,hg,mh,hcm,hcs,Zx⟩
 ·by_cases hq:q=0
  ·have sS:v'=.slice .none 0 0:=h4.2 ⟨rfl,hq⟩
   subst sS
   subst hq
   have hn:news=[]:=List.eq_nil_of_length_eq_zero (by simpa using hl)
   have hr3:(Builtin.append_ #[t,t] ty #[.slice .none 0 0,.slice (some a) 0 cap]).run P w=.ok (.slice .none 0 0) w:=by
    simp [Builtin.append_,run_underlying ht,sizeOf,typeInfo,hi,Builtin.lenOf,Builtin.firstCells,loadCells,loadCellsFrom]
   rw [hr] at hr3
   cases hr3
   exact ⟨fun b hb=>by simp [Value.ownBlock] at hb,fun _=>rfl,Nat.le_refl _⟩
  ·have hr2:=run_append_nil (P:=P) w t ty e i z ht hi hz a q cap news hl ni (by omega) (by omega) (by have iG:=hmul; simp only [Nat.zero_add] at iG; omega)
   rw [hr] at hr2
   cases hr2
   exact ⟨fun b hb=>by simp [Value.ownBlock] at hb; exact .inr (by omega),fun h=>absurd h hq,by simp⟩
 ·by_cases ug:n+q≤Od
  ·have hfit:n * i.size+news.length≤cur.size:=by rw [hl,hcs,← Nat.add_mul]; exact Nat.mul_le_mul_right _ ug
   have hr2:=run_append_room (P:=P) w t ty e i ht hi g n Od cur hg a q cap news hl ni h1 ug hfit
   rw [hr] at hr2
   cases hr2
   exact ⟨fun b hb=>.inl (by simpa [Value.ownBlock] using hb),(fun h=>by subst h; rfl),Nat.le_refl _⟩
  ·have holds:∀ j u,xs[j]?=some u→w.cell? ((⟨g,0,.none⟩:Addr).add j)=some u:=bN.cells (g:=g) rfl
   have hr2:=run_append_grow (P:=P) w t ty e i z ht hi hz ⟨g,0,.none⟩ n Od xs bN.1 holds a q cap news hl ni (by omega) (by simp only [maxLen] at Wn; omega) (growslice_fits (by omega) hmul)
   rw [hr] at hr2
   cases hr2
   exact ⟨fun b hb=>by simp [Value.ownBlock] at hb; exact .inr (by omega),(fun h=>by omega),by simp⟩
theorem yL {c0:Call} (ho:o.op=.call c0) (hc:c0.callee=.builtin .append) (h:LOp P pr [] o ev m K):∃ lv m',K lv m'∧cw P pr o ev m lv m':=by
 obtain ⟨cl,args,Rg⟩:=c0
 simp only at hc
 subst hc
 simp only [LOp,ho] at h
 split at h
 ·rename_i x y t t' hargs vS
  obtain rfl:args=#[x,y]:=by apply Array.ext'; simpa using hargs
  obtain rfl:Rg=#[t,t']:=by apply Array.ext'; simpa using vS
  obtain ⟨rfl,h⟩:=h
  cases kB:telem P t <;> simp only [kB] at h
  case some e =>
   have hu:=fX kB
   obtain ⟨kh,ys,hy,h⟩:=h
   obtain ⟨i,z,hi,hz,sV,vU,fe,Lo,rQ⟩:=pJ kh
   have MH:∀ (a:Act) (w:World),(execOp a.eval o).run P w=((Builtin.append_ #[t,t] o.type #[a.eval x,a.eval y]).run P w).andThen fun v w'=>.ok (.value v) w':=by
    intro a w
    simp [execOp,ho,resolve,invoke,builtin]
   have main:∀ (c:Cx) (a:Act),(∀ x,ar c (ev x) (a.eval x))→cG c m→∀ (u:Value) (n:Nat) (xs:List LV) (vs:List Value),a.eval x=u→c.w.ownsRow 0 e i.size u n (flat vs)→n=xs.length→aE c xs vs→(∀ v ∈ vs,v.cells.size=i.size∧∀ y ∈ v.cells,y.oneCell'=true)→LV.bt xs=true→n+ys.length≤549755813888 →
     ∃ v' w',(execOp a.eval o).run P c.w=.ok (.value v') w'∧(∃ us,w'.ownsRow 0 e i.size v' (n+ys.length) (flat (vs++us))∧aE c (xs++ys) (vs++us)∧(∀ v ∈ vs++us,v.cells.size=i.size∧∀ y ∈ v.cells,y.oneCell'=true)∧LV.bt (xs++ys)=true) ∧
      c.w.grownBy w' u.ownBlock∧(∀ b,v'.ownBlock=some b→u.ownBlock=some b ∨ c.w.heap.size≤b)∧(ys.length=0→v'=u)∧c.w.drawn≤w'.drawn:=by
    intro c a bS hm u n xs vs hx bN hn hl hc hp hb
    rcases Q8 (k:=tsize P e) hy (bS y) with ⟨rfl,hv⟩ | ⟨ad,cap,us,hv,Zq,VE,hpu,hra⟩
    ·refine ⟨u,c.w,?_,⟨[],by simpa using bN,by simpa using hl,by simpa using hc,by simpa using hp⟩,⟨rfl,rfl,rfl,Nat.le_refl _,fun _ _ _=>rfl⟩,fun b hb=>.inl hb,fun _=>rfl,Nat.le_refl _⟩
     rw [MH,hx,hv,run_append_owned_none (P:=P) (w:=c.w) 0 t o.type e i i.size hu hi u n _ bN]
     rfl
    ·have WZ:=Zq.length
     rw [rQ] at VE
     have FN:(flat us).length=ys.length * i.size:=by rw [ed (k:=i.size) (fun v hv=>(VE v hv).1),WZ]
     obtain ⟨v',w',hr,h2,h3,h4,h5,h6⟩:=fy (P:=P) (ty:=o.type) hu hi hz sV fe Lo bN (cap:=cap) FN hra (fun q hq=>by
      simp only [flat,List.mem_flatMap] at hq
      obtain ⟨v,hv,hq⟩:=hq
      exact (VE v hv).2 q (by simpa using hq)) hb
     refine ⟨v',w',?_,⟨us,by rw [fC]; exact h2,hl.append Zq,fun v hv=>(List.mem_append.1 hv).elim (hc v) (VE v),jV hp hpu⟩,h3,h4,h5,h6⟩
     rw [MH,hx,hv,hr]
     rfl
   cases hx:ev x <;> simp only [hx] at h
   case arr id n =>
    obtain ⟨hnp,h⟩:=h
    cases cj:m id with
    | none=>simp [cj] at h
    | some le =>
     cases le with
     | map _ _ _=>simp [cj] at h
     | nest _ _ _ _=>simp [cj] at h
     | de _ _ _ _ _ _ _ _=>simp [cj] at h
     | dead=>simp [cj] at h
     | box cs=>simp [cj] at h
     | arr e' k xs =>
      simp only [cj] at h
      obtain ⟨rfl,hk,hn,hb,hK⟩:=h
      refine ⟨_,_,hK,cw.value fun c a bS hm=>?_⟩
      have hv:=bS x
      rw [hx] at hv
      obtain ⟨vs,hB,HV,bN,hl,hc,hp⟩:=gY hm hv cj hn
      have wC:k=i.size:=by rw [hk,rQ]
      subst wC
      obtain ⟨v',w',hr,⟨us,q1,q2,q3,q4⟩,q5,q6,q7,q8⟩:=main c a bS hm _ _ xs vs rfl bN rfl hl hc hp hb
      obtain ⟨c',hw,iG,h2,h3⟩:=hm.y4 (pr:=pr) id (.arr e' i.size (xs++ys)) (.arr v' i.size (xs.length+ys.length) []) w' q5.os q5.tape q5.output q8 q5.size
       (fun b iG eE=>q5.block b iG (fun hh=>eE _ hB (.inl hh.symm)))
       (fun b iG=>iG.elim (fun iG=>(q6 b iG).imp (fun hh=>⟨_,hB,.inl hh⟩) (fun hh=>hh)) (fun hh=>by cases hh))
       (by rw [hB]; exact ⟨_,_,_,rfl,by omega,fun hh=>q7 (by omega)⟩) (fun mi=>absurd mi hnp)
       (fun c' hw hle hble=>by
        simp only [bJ,List.length_append]
        exact ⟨v',vs++us,rfl,HV,by rw [hw]; exact q1,aE.mono hle _ _ (fun id _=>hble id) q2,q3,q4⟩)
      refine ⟨v',c',by rw [hw]; exact hr,?_,h2,h3⟩
      simp only [ar]
      refine ⟨?_,v',_,_,_,iG,by omega,fun _=>rfl⟩
      obtain ⟨ad,cp,he⟩:=ef q1
      rw [he]; rfl
   case nil =>
    cases hd:o.dst <;> simp only [hd] at h
    case some d =>
     obtain ⟨cj,hb,hK⟩:=h
     refine ⟨_,_,hK,cw.value fun c a bS hm=>?_⟩
     have hv:=bS x
     rw [hx] at hv
     simp only [ar] at hv
     have hB:=hm.fresh cj
     obtain ⟨v',w',hr,⟨us,q1,q2,q3,q4⟩,q5,q6,q7,q8⟩:=main c a bS hm _ 0 [] [] hv (World.ownsRow_nil c.w 0 e i.size) rfl (by simp [aE]) (by simp) (by simp [LV.bt]) (by omega)
     simp only [Nat.zero_add,List.nil_append] at q1 q2 q3 q4
     obtain ⟨c',hw,iG,h2,h3⟩:=hm.y4 (pr:=pr) (100+d) (.arr e (tsize P e) ys) (.arr v' (tsize P e) ys.length []) w' q5.os q5.tape q5.output q8 q5.size
      (fun b iG _=>q5.block b iG (fun hh=>by simp [Value.ownBlock] at hh))
      (fun b iG=>iG.elim (fun iG=>(q6 b iG).elim (fun hh=>by simp [Value.ownBlock] at hh) .inr) (fun hh=>by cases hh))
      (by rw [hB]; trivial) (fun _ dr h0=>by rw [hB] at h0; cases h0)
      (fun c' hw hle hble=>by
       simp only [bJ,rQ]
       exact ⟨v',us,rfl,fe,by rw [hw]; exact q1,aE.mono hle _ _ (fun id _=>hble id) q2,q3,q4⟩)
     refine ⟨v',c',by rw [hw]; exact hr,?_,h2,h3⟩
     simp only [ar]
     refine ⟨?_,v',_,_,_,iG,by omega,fun _=>rfl⟩
     obtain ⟨ad,cp,he⟩:=ef q1
     rw [he]; rfl
 ·cases h
theorem flat_get {k:Nat} (hk:0<k):∀ {vs:List Value},(∀ v ∈ vs,v.cells.size=k)→∀ j,(flat vs)[j]?=(vs[j / k]?).bind fun v=>v.cells[j % k]?
 | [],_,j=>by simp [flat]
 | v :: vs,h,j=>by
  have hv:v.cells.toList.length=k:=by simpa using h v (by simp)
  rw [gC]
  by_cases hj:j<k
  ·rw [List.getElem?_append_left (by omega),Nat.div_eq_of_lt hj,Nat.mod_eq_of_lt hj]
   simp
  ·rw [List.getElem?_append_right (by omega),flat_get hk (fun u hu=>h u (by simp [hu])),hv]
   have e1:j / k=(j - k) / k+1:=by
    rw [show j=(j - k)+k by omega,Nat.add_div_right _ hk]; simp
   have e2:j % k=(j - k) % k:=by
    conv=>lhs; rw [show j=(j - k)+k by omega,Nat.add_mod_right]
   rw [e1,e2,List.getElem?_cons_succ]
theorem sI {t:TypeId} {x y:Operand} (ho:o.op=.makeSlice t x y) (h:LOp P pr [] o ev m K):∃ lv m',K lv m'∧cw P pr o ev m lv m':=by
 simp only [LOp,ho] at h
 split at h
 ·rename_i e z n n' d kB hz hx hy hd
  obtain ⟨rfl,h0,hb,kh,hp,cj,hK⟩:=h
  have hu:=fX kB
  obtain ⟨i,zv,hi,y2,sV,vU,fe,Lo,rQ⟩:=pJ kh
  refine ⟨_,_,hK,cw.value fun c a bS hm=>?_⟩
  have oU:=bS x
  have lX:=bS y
  rw [hx] at oU
  rw [hy] at lX
  simp only [ar] at oU lX
  have Tl:z=Gd zv:=by
   rw [kB] at hz
   simp only [Option.getD_some,tzero,hi,y2] at hz
   split at hz
   ·cases hz; rfl
   ·cases hz
  subst Tl
  have tP:(i.bytes:Int) * n≤281474976710656:=by
   have h1:(i.bytes:Int) * n≤256 * n:=Int.mul_le_mul_of_nonneg_right (by omega) h0
   omega
  have dt:=run_make (P:=P) c.w t e i zv hu hi y2 .i64 .i64 n n h0 (Int.le_refl _) tP (by omega)
  have hB:=hm.fresh cj
  have kg:(madeCells zv.cells (n.toNat * i.size)).toList=flat (List.replicate n.toNat zv):=by
   apply List.ext_getElem?
   intro j
   rw [flat_get fe (fun v hv=>by rw [List.eq_of_mem_replicate hv]; exact sV)]
   simp only [Array.getElem?_toList,madeCells,Array.getElem?_map,Array.getElem?_range,List.getElem?_replicate,sV]
   by_cases hj:j<n.toNat * i.size
   ·have h1:j / i.size<n.toNat:=(Nat.div_lt_iff_lt_mul fe).2 hj
    have h2:j % i.size<zv.cells.size:=by rw [sV]; exact Nat.mod_lt _ fe
    rw [if_pos hj,if_pos h1]
    simp [h2]
   ·have h1:¬ j / i.size<n.toNat:=fun hh=>hj ((Nat.div_lt_iff_lt_mul fe).1 hh)
    rw [if_neg hj,if_neg h1]
    rfl
  have gm:(madeCells zv.cells (n.toNat * i.size)).size=n.toNat * i.size:=size_madeCells _ _
  obtain ⟨c',hw,iG,h2,h3⟩:=hm.y4 (pr:=pr) (100+d) (.arr e (tsize P e) (List.replicate n.toNat (Gd zv))) (.arr (.slice (some ⟨c.w.heap.size,0,.none⟩) n.toNat n.toNat) (tsize P e) n.toNat [])
   (c.w.alloc (.cells (madeCells zv.cells (n.toNat * i.size)) e)) rfl rfl rfl (Nat.le_refl _) (by simp)
   (fun b iG _=>o3 c.w _ b iG) (fun b iG=>by simp [BE.has,Value.ownBlock] at iG; exact .inr (by omega)) (by rw [hB]; trivial) (fun _ dr h0=>by rw [hB] at h0; cases h0)
   (fun c' hw hle hble=>by
    simp only [bJ,rQ,List.length_replicate]
    refine ⟨_,List.replicate n.toNat zv,rfl,fe,⟨by rw [ed (k:=i.size) (fun v hv=>by rw [List.eq_of_mem_replicate hv]; exact sV)]; simp,.inr ⟨c.w.heap.size,n.toNat,_,rfl,Nat.zero_le _,by rw [hw]; exact heap_alloc_new c.w _,Nat.le_refl _,by simp only [maxLen]; omega,gm,?_⟩⟩,?_,?_,?_⟩
    ·rw [List.take_of_length_le (by rw [Array.length_toList,gm]; exact Nat.le_refl _),kg]
    ·refine aE.of (by simp) fun j q r hq hr=>?_
     rw [List.getElem?_replicate] at hq hr
     split at hq
     ·rename_i hj
      rw [if_pos hj] at hr
      cases hq; cases hr; exact lT c' zv
     ·cases hq
    ·intro v hv
     rw [List.eq_of_mem_replicate hv]
     exact ⟨sV,vU⟩
    ·refine c6.2 fun q hq=>?_
     rw [List.eq_of_mem_replicate hq]; exact hp)
  refine ⟨.slice (some ⟨c.w.heap.size,0,.none⟩) n.toNat n.toNat,c',by rw [hw]; simp [execOp,ho,oU,lX,dt],?_,h2,h3⟩
  simp only [ar]
  exact ⟨rfl,_,_,_,_,iG,Nat.le_refl _,fun _=>rfl⟩
 ·cases h
theorem HG {cells:Array Value} {off:Nat} {l:Array Value} (h:off+l.size≤cells.size) :
  (l.zipIdx.foldl (fun cs (x:Value × Nat)=>cs.setIfInBounds (off+x.2) x.1) cells).toList=cells.toList.take off++l.toList++cells.toList.drop (off+l.toList.length):=by
 obtain ⟨g1,g2⟩:=Great.foldl_set off l.toList 0 cells
 have e0:l.zipIdx.foldl (fun cs (x:Value × Nat)=>cs.setIfInBounds (off+x.2) x.1) cells=(l.toList.zipIdx 0).foldl (fun cs (x:Value × Nat)=>cs.setIfInBounds (off+x.2) x.1) cells:=by
  rw [← Array.foldl_toList]; simp
 rw [e0]
 apply List.ext_getElem?
 intro j
 rw [Array.getElem?_toList,g2 j]
 have e1:l.toList.length=l.size:=by simp
 have e2:cells.toList.length=cells.size:=by simp
 simp only [Nat.add_zero,List.getElem?_append,List.length_append,List.length_take,List.getElem?_take,List.getElem?_drop,e1,e2]
 by_cases h1:j<off
 ·rw [if_neg (by omega),if_pos (by omega),if_pos (by omega),if_pos h1]; simp
 ·by_cases h2:j<off+l.size
  ·rw [if_pos (by omega),if_pos (by omega),if_neg (by omega)]
   congr 1; omega
  ·rw [if_neg (by omega),if_neg (by omega)]
   rw [← Array.getElem?_toList]; congr 1; omega
theorem tI {t:TypeId} {fields:Array Field} {uE:List (Nat × Nat)} (hu:P.underlying t=some (.struct fields)) (vQ:fields.toList.mapM (fun f=>(P.info? f.type).map fun i=>(f.offset,i.size))=some uE) {c:Cx} {a:Act} (bS:∀ x,ar c (ev x) (a.eval x)) :
  ∀ (parts:List (Nat × Operand)) (cs:List LV) (cells:Array Value) (r:List LV),aE c cs cells.toList→nj P t cs (parts.map fun p=>(p.1,ev p.2))=some r →
   ∃ rc,Instr.fill (uE.toArray[·]?) cells (parts.map fun p=>(p.1,a.eval p.2))=some rc∧aE c r rc.toList
 | [],cs,cells,r,hl,h=>by
  simp only [List.map_nil,nj,Option.some.injEq] at h
  subst h
  exact ⟨cells,rfl,hl⟩
 | (i, x) :: parts, cs, cells, r, hl, h => by
  simp only [List.map_cons,nj] at h
  cases oB:tfield P t i with
  | none=>simp [oB] at h
  | some q =>
   obtain ⟨off,ft⟩:=q
   simp only [oB] at h
   split at h
   ·rename_i hc
    obtain ⟨h1,h2,h3,h4⟩:=hc
    obtain ⟨wG,VN⟩:=(bS x).cellsOf h4
    have ZB:(ev x).cells.length=(a.eval x).cells.size:=by rw [wG.length]; simp
    have hcl:cs.length=cells.size:=by rw [hl.length]; simp
    have CE : uE.toArray[i]? = some (off, tsize P ft) := by
     unfold tfield at oB
     rw [hu] at oB
     simp only at oB
     cases hf:fields[i]? with
     | none=>simp [hf] at oB
     | some fd =>
      simp only [hf,Option.map_some,Option.some.injEq,Prod.mk.injEq] at oB
      obtain ⟨rfl,rfl⟩:=oB
      have WN:∀ (fs:List Field) (ps:List (Nat × Nat)),fs.mapM (fun f=>(P.info? f.type).map fun i=>(f.offset,i.size))=some ps→∀ (i:Nat) fd,fs[i]?=some fd→ps[i]?=some (fd.offset,tsize P fd.type):=by
       intro fs
       induction fs with
       | nil=>intro ps _ i fd Ee; simp at Ee
       | cons f fs ih =>
        intro ps zI i fd Ee
        simp only [List.mapM_cons,Option.bind_eq_bind,Option.pure_def] at zI
        cases hi:P.info? f.type with
        | none=>simp [hi] at zI
        | some inf =>
         cases hr:fs.mapM (fun f=>(P.info? f.type).map fun i=>(f.offset,i.size)) with
         | none=>simp [hi,hr] at zI
         | some rest =>
          simp [hi,hr] at zI
          subst zI
          cases i with
          | zero=>simp at Ee; subst Ee; simp [tsize,hi]
          | succ i=>simp at Ee; simpa using ih rest hr i fd Ee
      have:=WN fields.toList uE vQ i fd (by simpa using hf)
      simpa using this
    have wB:=HG (cells:=cells) (off:=off) (l:=(a.eval x).cells) (by omega)
    obtain ⟨rc,Xq,yq⟩:=tI hu vQ bS parts (rep cs off (ev x).cells) ((a.eval x).cells.zipIdx.foldl (fun cs (x:Value × Nat)=>cs.setIfInBounds (off+x.2) x.1) cells) r (by
     rw [wB]
     unfold rep
     rw [wG.length]
     exact ((hl.take off).append wG).append (hl.drop _)) h
    refine ⟨rc,?_,yq⟩
    simp only [List.map_cons]
    unfold Instr.fill
    simp only [CE]
    rw [if_neg (by simp only [ne_eq,Bool.or_eq_true,decide_eq_true_eq,not_or,Decidable.not_not,Nat.not_lt,gt_iff_lt]; omega)]
    exact Xq
   ·cases h
theorem BD {t:TypeId} {parts:Array (Nat × Operand)} (ho:o.op=.build t parts) (h:LOp P pr [] o ev m K):∃ lv m',K lv m'∧cw P pr o ev m lv m':=by
 simp only [LOp,ho] at h
 obtain ⟨RB,h⟩:=h
 split at h
 ·rename_i z hz
  split at h
  ·rename_i cs hf
   refine ⟨_,_,h,cw.same fun c a bS hm=>?_⟩
   unfold tbuild at RB
   split at RB
   ·rename_i fields hu
    obtain ⟨uE,vQ⟩:=Option.isSome_iff_exists.1 RB
    unfold tzero at hz
    split at hz
    ·rename_i i hi
     split at hz
     ·rename_i zv y2
      split at hz
      ·have Pu:Gd zv=.agg z:=by simpa using hz
       have hzl:aE c z zv.cells.toList:=by have:=oc c zv; rw [Pu] at this; exact this
       obtain ⟨rc,Xq,yq⟩:=tI hu vQ bS parts.toList z zv.cells cs hzl hf
       have hb:P.built t (parts.map fun p=>(p.1,a.eval p.2)).toList=some rc:=by
        unfold Program.built
        simp only [hi,hu,y2,vQ,Array.toList_map]
        exact Xq
       have dt:=run_build (P:=P) c.w t _ rc hb
       refine ⟨.agg rc,by simp [execOp,ho,dt],?_⟩
       simp only [ar]
       exact ⟨rc.toList,by simp,yq⟩
      ·cases hz
     ·cases hz
    ·cases hz
   ·cases RB
  ·cases h
 ·cases h
theorem rC {t:TypeId} {len:Nat} {parts:Array (Nat × Operand)} (ho:o.op=.buildSlice t len parts) (h:LOp P pr [] o ev m K):∃ lv m',K lv m'∧cw P pr o ev m lv m':=by
 simp only [LOp,ho] at h
 cases kB:telem P t <;> simp only [kB] at h
 case some e =>
  obtain ⟨kh,RA,HT,HO,hK⟩:=h
  have hu:=fX kB
  obtain ⟨i,zv,hi,y2,sV,vU,fe,Lo,rQ⟩:=pJ kh
  refine ⟨_,_,hK,cw.value fun c a bS hm=>?_⟩
  have nS:parts.toList.length=len:=by have:=congrArg List.length HT; simpa using this
  let vs:=parts.toList.map fun p=>a.eval p.2
  have hl:aE c (parts.toList.map fun p=>ev p.2) vs:=aE.of (by simp [vs]) fun j x v hx hv=>by
   simp only [vs,List.getElem?_map,Option.map_eq_some_iff] at hx hv
   obtain ⟨p,hp,rfl⟩:=hx
   obtain ⟨p',CC,rfl⟩:=hv
   rw [hp] at CC; cases CC; exact bS _
  have hcell:∀ v ∈ vs,v.cells.size=i.size∧∀ y ∈ v.cells,y.oneCell'=true:=by
   intro v hv
   simp only [vs,List.mem_map] at hv
   obtain ⟨p,hp,rfl⟩:=hv
   obtain ⟨_,e1,e2⟩:=HO (ev p.2) (List.mem_map.2 ⟨p,hp,rfl⟩)
   obtain ⟨e3,e4⟩:=(bS p.2).cellsOf e2
   refine ⟨?_,e4⟩
   have:=e3.length
   rw [e1,rQ] at this
   simpa using this.symm
  have Ic:LV.bt (parts.toList.map fun p=>ev p.2)=true:=c6.2 fun x hx=>(HO x hx).1
  have CD:(parts.map fun (p:Nat × Operand)=>(p.1,a.eval p.2)).toList=(vs.zipIdx 0).map fun x=>(x.2,x.1):=by
   apply List.ext_getElem?
   intro j
   have hj:=congrArg (fun l=>l[j]?) HT
   simp only [List.getElem?_map,List.getElem?_range] at hj
   simp only [Array.toList_map,List.getElem?_map,List.getElem?_zipIdx,vs,Nat.zero_add]
   cases hp:parts.toList[j]? with
   | none=>simp
   | some p =>
    rw [hp] at hj
    have ny:j<len:=by
     rw [← nS]; exact (List.getElem?_eq_some_iff.1 hp).1
    rw [List.getElem?_range ny] at hj
    simp at hj
    simp [hj]
  obtain ⟨cells,zD,zE⟩:∃ cells,Instr.fill (fun i'=>some (i' * i.size,i.size)) ((Array.range (len * i.size)).map (zv.cells[· % zv.cells.size]!)) (parts.map fun (p:Nat × Operand)=>(p.1,a.eval p.2)).toList=some cells∧cells.toList=flat vs:=by
   have nU:vs.length=len:=by simp [vs,nS]
   obtain ⟨r,hr,Zw,SO⟩:=Great.fill_dense fe vs 0 ((Array.range (len * i.size)).map (zv.cells[· % zv.cells.size]!)) (fun v hv=>(hcell v hv).1) (by simp [nU])
   refine ⟨r,by rw [CD]; exact hr,?_⟩
   apply List.ext_getElem?
   intro j
   rw [flat_get fe (fun v hv=>(hcell v hv).1),Array.getElem?_toList,SO j]
   simp only [Nat.zero_mul,Nat.zero_le,true_and,Nat.zero_add,Nat.sub_zero,nU]
   by_cases hj:j<len * i.size
   ·rw [if_pos hj]
   ·rw [if_neg hj]
    have h1:¬ j / i.size<len:=fun hh=>hj ((Nat.div_lt_iff_lt_mul fe).1 hh)
    rw [List.getElem?_eq_none (by omega:vs.length≤j / i.size)]
    simp; omega
  have kg:cells=(flat vs).toArray:=by rw [← zE]
  subst kg
  have dt:(execOp a.eval o).run P c.w=.ok (.value (.slice (some ⟨c.w.heap.size,0,.none⟩) len len)) (c.w.alloc (.cells (flat vs).toArray e)):=by
   by_cases MM:len=0
   ·subst MM
    have W8:parts=#[]:=by apply Array.ext'; simpa using nS
    subst W8
    simp [execOp,ho,Instr.buildSlice,run_underlying hu,sizeOf,typeInfo,hi,Instr.fill,newRow,vs,flat,Array.range_zero']
   ·have Lz:¬ len * i.size=0:=by
     intro h0
     rcases Nat.mul_eq_zero.1 h0 with h0 | h0 <;> omega
    have hb:=run_buildSlice (P:=P) c.w t e len (parts.map fun (p:Nat × Operand)=>(p.1,a.eval p.2)) (flat vs).toArray i zv hu hi y2 (by rw [rQ] at RA; omega) Lz zD
    simp [execOp,ho,hb]
  obtain ⟨h2,h3⟩:=hm.ext (pr:=pr) (c.w.alloc (.cells (flat vs).toArray e)) rfl rfl rfl (Nat.le_refl _) (by simp) (fun b hb=>o3 c.w _ b hb)
  refine ⟨_,_,dt,?_,h2,h3⟩
  simp only [ar]
  refine ⟨some ⟨c.w.heap.size,0,.none⟩,len,by simp [nS],by simp [nS],by simp,Ic,.inr ⟨c.w.heap.size,0,vs,rfl,by simp,hm.TQ (Nat.le_refl _),h3.U7 hl,fun u hu=>by rw [rQ]; exact hcell u hu,sa c.w _ e⟩⟩
theorem jY {ro:List Nat} (h:LOp P pr ro o ev m K):∃ lv m',K lv m'∧cw P pr o ev m lv m':=by
 have vv:∀ (ho:∀ t x,o.op ≠ .box t x),LOp P pr [] o ev m K:=by
  intro sR
  unfold LOp at h ⊢
  split at h <;> first | exact h | (rename_i t x ho; exact absurd ho (sR t x))
 cases ho:o.op
 case move x=>simp only [LOp,ho] at h; exact ⟨_,_,h,Eo x (.inl ho)⟩
 case assign x=>simp only [LOp,ho] at h; exact ⟨_,_,h,Eo x (.inr ho)⟩
 case pick x y z =>
  simp only [LOp,ho] at h
  cases hx:ev x <;> simp only [hx] at h
  case bool t=>exact ⟨_,_,h,LX x y z t ho hx⟩
 case alloc t =>
  simp only [LOp,ho] at h
  split at h
  ·rename_i z d hz hd
   exact ⟨_,_,h.2,Aa t d z ho hz h.1⟩
  ·cases h
 case box t x =>
  simp only [LOp,ho] at h
  split at h
  ·rename_i d hd
   obtain ⟨hs,h⟩:=h
   split at h
   ·exact ⟨_,_,h,Gf t x ho hs⟩
   ·exact ⟨_,_,h.2,Qz t x d ho hs h.1⟩
  ·cases h
 case build t parts=>exact BD ho (vv (by simp [ho]))
 case buildSlice t n parts=>exact rC ho (vv (by simp [ho]))
 case load t x=>exact Dx ho (vv (by simp [ho]))
 case store t x y=>exact BH ho (vv (by simp [ho]))
 case nilCheck x=>exact uW ho (vv (by simp [ho]))
 case binOp op t x y t'=>exact BC ho (vv (by simp [ho]))
 case unOp op t x=>exact Dy ho (vv (by simp [ho]))
 case convert s t x=>exact wc ho (vv (by simp [ho]))
 case slice t x lo hi mx=>exact BG ho (vv (by simp [ho]))
 case fieldAddr t x f=>exact sG ho (vv (by simp [ho]))
 case field t x f=>exact BF ho (vv (by simp [ho]))
 case indexAddr t x i=>exact sH ho (vv (by simp [ho]))
 case extract t i=>exact we ho (vv (by simp [ho]))
 case makeFunc f a b=>exact uV ho (vv (by simp [ho]))
 case makeSlice t x y=>exact sI ho (vv (by simp [ho]))
 case call c =>
  cases hc:c.callee
  case value x=>exact Dw ho hc (vv (by simp [ho]))
  case builtin b =>
   cases b
   case len=>exact GG ho hc (vv (by simp [ho]))
   case append=>exact yL ho hc (vv (by simp [ho]))
   all_goals simp [LOp,ho,hc] at h
  all_goals simp [LOp,ho,hc] at h
 all_goals simp [LOp,ho] at h
end ops
end Go.L
namespace Go.L
structure mZ (N:Nat) (c:Cx) (e:Env) (m:Mem) (a:Act):Prop where
 env:∀ i,ar c (e i) (a.tmps.getD i undef)
 mem:cG c m
 size:a.tmps.size=N
 defers:a.defers=[]
theorem mZ.ev {N:Nat} {c:Cx} {e:Env} {m:Mem} {a:Act} (h:mZ N c e m a) (x:Operand):ar c (cP e x) (a.eval x):=by
 cases x with
 | tmp t=>exact h.env t
 | const v=>exact lT c v
 | global g=>simp [cP,ar]
 | func f=>simp only [cP,Act.eval,ar]; exact ⟨[],rfl,by simp [aE]⟩
theorem mZ.put {N:Nat} {pr:Nat→Prop} {c c':Cx} {e:Env} {m m':Mem} {a:Act} (h:mZ N c e m a) (hs:Step pr c c') (hm:cG c' m') {d:Option Nat} (hd:∀ i,d=some i→i<N) {lv:LV} {v:Value} (hv:ar c' lv v):mZ N c' (e.fW d lv) m' (a.put d v):=by
 cases d with
 | none=>exact ⟨fun i=>hs.yJ (h.env i),hm,h.size,h.defers⟩
 | some d =>
  refine ⟨fun i=>?_,hm,by simp [Act.put,h.size],h.defers⟩
  simp only [Env.fW,Env.put,Act.put]
  by_cases hi:i=d
  ·subst hi
   have:i<a.tmps.size:=by rw [h.size]; exact hd i rfl
   simpa [this] using hv
  ·simp only [hi,if_false]
   have:=hs.yJ (h.env i)
   simpa [Array.getElem?_setIfInBounds_ne (Ne.symm hi)] using this
def nD (P:Program) (N:Nat) (pr:Nat→Prop) (code:Code) (e:Env) (m:Mem) (ex:Exit) (e':Env) (m':Mem):Prop :=
 ∀ (c:Cx) (a:Act),mZ N c e m a→code.wp P (fun x a' w'=>x=ex∧∃ c':Cx,c'.w=w'∧mZ N c' e' m' a'∧Grow pr c c') a c.w
def LH (P:Program) (N:Nat) (pr:Nat→Prop) (code:Code) (Q:Exit→Env→Mem→Prop) (e:Env) (m:Mem):Prop :=
 ∃ ex e' m',nD P N pr code e m ex e' m'∧Q ex e' m'
def Wk (pr:Nat→Prop) (e:Env) (m:Mem) (e':Env) (m':Mem):Prop :=
 ∀ (N:Nat) (c:Cx) (a:Act),mZ N c e m a→∃ c':Cx,c'.w=c.w∧mZ N c' e' m' a∧Grow pr c c'
theorem Wk.trans {pr:Nat→Prop} {e e' Y1:Env} {m m' ZH:Mem} (h:Wk pr e m e' m') (k:Wk pr e' m' Y1 ZH):Wk pr e m Y1 ZH:=fun N c a hr=>by
 obtain ⟨c1,hw1,dR,yW⟩:=h N c a hr
 obtain ⟨c2,qf,hr2,hg2⟩:=k N c1 a dR
 exact ⟨c2,qf.trans hw1,hr2,yW.trans hg2⟩
section rules
variable {P:Program} {N:Nat} {pr:Nat→Prop} {Q:Exit→Env→Mem→Prop} {e e':Env} {m m':Mem}
theorem LH.mono {c:Code} {Q':Exit→Env→Mem→Prop} (h:LH P N pr c Q e m) (hq:∀ ex e m,Q ex e m→Q' ex e m):LH P N pr c Q' e m:=by
 obtain ⟨ex,e',m',h1,h2⟩:=h
 exact ⟨ex,e',m',h1,hq _ _ _ h2⟩
theorem nD.wk {c:Code} {ex:Exit} {e2:Env} {m2:Mem} (hw:Wk pr e m e' m') (h:nD P N pr c e' m' ex e2 m2):nD P N pr c e m ex e2 m2:=by
 intro cx a hr
 obtain ⟨c1,hw1,dR,yW⟩:=hw N cx a hr
 rw [← hw1]
 refine wp_mono (h c1 a dR) ?_
 rintro x a' w' ⟨hx,c2,qf,hr2,hg2⟩
 exact ⟨hx,c2,qf,hr2,yW.trans hg2⟩
theorem LH.wk {c:Code} (hw:Wk pr e m e' m') (h:LH P N pr c Q e' m'):LH P N pr c Q e m:=by
 obtain ⟨ex,e2,m2,h1,h2⟩:=h
 exact ⟨ex,e2,m2,h1.wk hw,h2⟩
theorem LH.skip (h:Q .normal e m):LH P N pr .skip Q e m:=⟨_,_,_,fun c a hr=>wp_skip ⟨rfl,c,rfl,hr,.refl pr c⟩,h⟩
theorem LH.ret (h:Q .ret e m):LH P N pr .ret Q e m:=⟨_,_,_,fun c a hr=>wp_ret ⟨rfl,c,rfl,hr,.refl pr c⟩,h⟩
theorem LH.exit {id:Nat} (h:Q (.exit id) e m):LH P N pr (.exit id) Q e m:=⟨_,_,_,fun c a hr=>wp_exit ⟨rfl,c,rfl,hr,.refl pr c⟩,h⟩
def BK (K:Env→Mem→Prop) (Q:Exit→Env→Mem→Prop):Exit→Env→Mem→Prop
 | .normal,e,m=>K e m
 | ex,e,m=>Q ex e m
theorem LH.seq {x y:Code} (h:LH P N pr x (BK (LH P N pr y Q) Q) e m):LH P N pr (.seq x y) Q e m:=by
 obtain ⟨ex,e1,m1,h1,h2⟩:=h
 cases ex with
 | normal =>
  obtain ⟨ex2,e2,m2,h3,h4⟩:=h2
  refine ⟨ex2,e2,m2,fun c a hr=>wp_seq (wp_mono (h1 c a hr) ?_),h4⟩
  rintro x a' w' ⟨rfl,c',rfl,kJ,vO⟩
  refine wp_mono (h3 c' a' kJ) ?_
  rintro x RS Rk ⟨hx,c2,qf,hr2,hg2⟩
  exact ⟨hx,c2,qf,hr2,vO.trans hg2⟩
 | exit id =>
  refine ⟨_,e1,m1,fun c a hr=>wp_seq (wp_mono (h1 c a hr) ?_),h2⟩
  rintro x a' w' ⟨rfl,hq⟩
  exact ⟨rfl,hq⟩
 | goto l =>
  refine ⟨_,e1,m1,fun c a hr=>wp_seq (wp_mono (h1 c a hr) ?_),h2⟩
  rintro x a' w' ⟨rfl,hq⟩
  exact ⟨rfl,hq⟩
 | ret =>
  refine ⟨_,e1,m1,fun c a hr=>wp_seq (wp_mono (h1 c a hr) ?_),h2⟩
  rintro x a' w' ⟨rfl,hq⟩
  exact ⟨rfl,hq⟩
 | panic ch =>
  refine ⟨_,e1,m1,fun c a hr=>wp_seq (wp_mono (h1 c a hr) ?_),h2⟩
  rintro x a' w' ⟨rfl,hq⟩
  exact ⟨rfl,hq⟩
 | outgrown =>
  refine ⟨_,e1,m1,fun c a hr=>wp_seq (wp_mono (h1 c a hr) ?_),h2⟩
  rintro x a' w' ⟨rfl,hq⟩
  exact ⟨rfl,hq⟩
theorem LH.cond {x:Operand} {y z:Code} {t:Bool} (hx:cP e x=.bool t) (h1:t=true→LH P N pr y Q e m) (h2:t=false→LH P N pr z Q e m):LH P N pr (.cond x y z) Q e m:=by
 cases t with
 | true =>
  obtain ⟨ex,e',m',h3,h4⟩:=h1 rfl
  refine ⟨ex,e',m',fun c a hr=>?_,h4⟩
  have:=hr.ev x
  rw [hx] at this
  simp only [ar] at this
  exact wp_cond_true this (h3 c a hr)
 | false =>
  obtain ⟨ex,e',m',h3,h4⟩:=h2 rfl
  refine ⟨ex,e',m',fun c a hr=>?_,h4⟩
  have:=hr.ev x
  rw [hx] at this
  simp only [ar] at this
  exact wp_cond_false this (h3 c a hr)
def l9 (id:Nat) (Q:Exit→Env→Mem→Prop):Exit→Env→Mem→Prop
 | .exit j,e,m=>if j=id then Q .normal e m else Q (.exit j) e m
 | ex,e,m=>Q ex e m
theorem LH.block {id:Nat} {c:Code} (h:LH P N pr c (l9 id Q) e m):LH P N pr (.block id c) Q e m:=by
 obtain ⟨ex,e1,m1,h1,h2⟩:=h
 have gen:∀ VB,(∀ a w,∀ R:Act→World→Prop,R a w→Exit.inBlock id (fun x a w=>x=VB∧R a w) ex a w)→Q VB e1 m1→LH P N pr (.block id c) Q e m:=by
  intro VB hb hq
  refine ⟨VB,e1,m1,fun cx a hr=>wp_block (wp_mono (h1 cx a hr) ?_),hq⟩
  rintro x a' w' ⟨rfl,hh⟩
  exact hb a' w' (fun a' w'=>∃ c':Cx,c'.w=w'∧mZ N c' e1 m1 a'∧Grow pr cx c') hh
 cases ex with
 | exit j =>
  by_cases hj:j=id
  ·subst hj
   simp only [l9,if_true] at h2
   exact gen .normal (fun a w R hR=>by simp [Exit.inBlock,hR]) h2
  ·simp only [l9,hj,if_false] at h2
   exact gen (.exit j) (fun a w R hR=>by simp [Exit.inBlock,hj,hR]) h2
 | normal=>exact gen _ (fun a w R hR=>⟨rfl,hR⟩) h2
 | goto l=>exact gen _ (fun a w R hR=>⟨rfl,hR⟩) h2
 | ret=>exact gen _ (fun a w R hR=>⟨rfl,hR⟩) h2
 | panic ch=>exact gen _ (fun a w R hR=>⟨rfl,hR⟩) h2
 | outgrown=>exact gen _ (fun a w R hR=>⟨rfl,hR⟩) h2
def tq (P:Program) (N:Nat) (pr:Nat→Prop) (c:Code) (ex:Exit) (e':Env) (m':Mem):Nat→Env→Mem→Prop
 | 0,e,m=>ex ≠ .normal∧nD P N pr c e m ex e' m'
 | n+1,e,m=>∃ e1 m1,nD P N pr c e m .normal e1 m1∧tq P N pr c ex e' m' n e1 m1
theorem tq.exec {c:Code} {ex:Exit} {n:Nat} (h:tq P N pr c ex e' m' n e m):nD P N pr (.loop c) e m ex e' m':=by
 intro cx a hr
 refine wp_loop_ghost (fun k a w=>∃ e1 m1,∃ c1:Cx,tq P N pr c ex e' m' k e1 m1∧c1.w=w∧mZ N c1 e1 m1 a∧Grow pr cx c1) n ⟨e,m,cx,h,rfl,hr,.refl pr cx⟩ ?_
 rintro k a w ⟨e1,m1,c1,hR,rfl,dR,yW⟩
 cases k with
 | zero =>
  obtain ⟨eE,hx⟩:=hR
  refine wp_mono (hx c1 a dR) ?_
  rintro x a' w' ⟨rfl,c2,rfl,hr2,hg2⟩
  cases x <;> first | exact absurd rfl eE | exact ⟨rfl,c2,rfl,hr2,yW.trans hg2⟩
 | succ k =>
  obtain ⟨e2,m2,hx,hR⟩:=hR
  refine wp_mono (hx c1 a dR) ?_
  rintro x a' w' ⟨rfl,c2,rfl,hr2,hg2⟩
  exact ⟨k,by omega,e2,m2,c2,hR,rfl,hr2,yW.trans hg2⟩
theorem nD.post {c:Code} {ex:Exit} {e2:Env} {m2:Mem} (h:nD P N pr c e m ex e' m') (hw:Wk pr e' m' e2 m2):nD P N pr c e m ex e2 m2:=by
 intro cx a hr
 refine wp_mono (h cx a hr) ?_
 rintro x a' w' ⟨hx,c1,rfl,dR,yW⟩
 obtain ⟨c2,qf,hr2,hg2⟩:=hw N c1 a' dR
 exact ⟨hx,c2,qf,hr2,yW.trans hg2⟩
def uS (pr:Nat→Prop) (I:Nat→Env→Mem→Prop) (n:Nat) (Q:Exit→Env→Mem→Prop):Exit→Env→Mem→Prop
 | .normal,e,m=>∃ e' m',Wk pr e m e' m'∧∃ k,k<n∧I k e' m'
 | ex,e,m=>Q ex e m
theorem LH.loop {c:Code} (I:Nat→Env→Mem→Prop) (n:Nat) (h0:I n e m) (h:∀ n e m,I n e m→LH P N pr c (uS pr I n Q) e m):LH P N pr (.loop c) Q e m:=by
 have key:∀ n e m,I n e m→∃ ex e' m' k,tq P N pr c ex e' m' k e m∧Q ex e' m':=by
  intro n
  induction n using Nat.strongRecOn with
  | _ n ih =>
   intro e m hI
   obtain ⟨ex,e1,m1,h1,h2⟩:=h n e m hI
   cases ex with
   | normal =>
    obtain ⟨e2,m2,hw,k,hk,hI2⟩:=h2
    obtain ⟨ex,e',m',j,hR,hQ⟩:=ih k hk e2 m2 hI2
    exact ⟨ex,e',m',j+1,⟨e2,m2,h1.post hw,hR⟩,hQ⟩
   | exit id=>exact ⟨_,e1,m1,0,⟨by simp,h1⟩,h2⟩
   | goto l=>exact ⟨_,e1,m1,0,⟨by simp,h1⟩,h2⟩
   | ret=>exact ⟨_,e1,m1,0,⟨by simp,h1⟩,h2⟩
   | panic ch=>exact ⟨_,e1,m1,0,⟨by simp,h1⟩,h2⟩
   | outgrown=>exact ⟨_,e1,m1,0,⟨by simp,h1⟩,h2⟩
 obtain ⟨ex,e',m',k,hR,hQ⟩:=key n e m h0
 exact ⟨ex,e',m',hR.exec,hQ⟩
theorem oQ {ops:Array Oper} {o:Oper} {c:Cx} {a:Act} (hr:mZ N c e m a) (hd:∀ q ∈ ops,∀ i,q.dst=some i→i<N) {j:Nat} {want:Bool} (hg:o.guard=some (j,want)) {g:Nat} (hj:(ops[j]?).bind (·.dst)=some g) {t:Bool} (ht:e g=.bool t) :
  Region.wanted o (yielded ops a.tmps)=(t == want):=by
 have hv:=hr.env g
 rw [ht] at hv
 simp only [ar] at hv
 have WK:g<N:=by
  cases hq:ops[j]? with
  | none=>simp [hq] at hj
  | some q=>simp [hq] at hj; exact hd q (Array.mem_of_getElem? hq) g hj
 have fe:g<a.tmps.size:=by rw [hr.size]; exact WK
 have HQ:a.tmps[g]?=some (.bool t):=by
  rw [Array.getElem?_eq_getElem fe]
  simpa [fe] using hv
 simp [Region.wanted,hg,yielded,hj,HQ]
theorem sr {ops:Array Oper} {o:Oper} {c:Cx} {a:Act} (hr:mZ N c e m a) (hd:∀ q ∈ ops,∀ i,q.dst=some i→i<N) {j:Nat} {want:Bool} (hg:o.guard=some (j,want)) {g:Nat} (hj:(ops[j]?).bind (·.dst)=some g) (ht:e g=.tup []) :
  Region.wanted o (yielded ops a.tmps)=false:=by
 have hv:=hr.env g
 rw [ht] at hv
 simp only [ar,aE] at hv
 obtain ⟨vs,hv,rfl⟩:=hv
 have WK:g<N:=by
  cases hq:ops[j]? with
  | none=>simp [hq] at hj
  | some q=>simp [hq] at hj; exact hd q (Array.mem_of_getElem? hq) g hj
 have fe:g<a.tmps.size:=by rw [hr.size]; exact WK
 have HQ:a.tmps[g]?=some (.tuple #[]):=by
  rw [Array.getElem?_eq_getElem fe]
  simpa [fe] using hv
 simp [Region.wanted,hg,yielded,hj,HQ]
theorem pI (c:Cx):ar c (.tup []) undef:=by
 simp only [ar,aE]
 exact ⟨[],rfl,rfl⟩
theorem zb {ro:List Nat} {ops:Array Oper} {o:Oper} {K:Env→Mem→Prop} (hd:∀ q ∈ ops,∀ i,q.dst=some i→i<N) (Lx:∀ i,o.dst=some i→i<N) (h:DW P pr ro ops o K e m) :
  ∃ lv m',K (e.fW o.dst lv) m'∧∀ (c:Cx) (a:Act) (R:Act→World→Prop) (Q:Exit→Act→World→Prop),mZ N c e m a →
   (∀ a' (c':Cx),mZ N c' (e.fW o.dst lv) m' a'→Step pr c c'→R a' c'.w) →
   if Region.wanted o (yielded ops a.tmps) then o.wp P a c.w R Q ∨ (o.asks P a c.w∧LetsOut Q) else R (a.put o.dst undef) c.w:=by
 have run:∀ (h:LOp P pr ro o (cP e) m fun lv m'=>K (e.fW o.dst lv) m'),∃ lv m',K (e.fW o.dst lv) m'∧∀ (c:Cx) (a:Act) (R:Act→World→Prop) (Q:Exit→Act→World→Prop),mZ N c e m a →
   (∀ a' (c':Cx),mZ N c' (e.fW o.dst lv) m' a'→Step pr c c'→R a' c'.w)→o.wp P a c.w R Q:=by
  intro h
  obtain ⟨lv,m',hK,gP⟩:=jY h
  refine ⟨lv,m',hK,fun c a R Q hr hR=>?_⟩
  refine Oper.wp_mono ?_ (gP c a Q hr.ev hr.mem)
  rintro a' w' ⟨v,c',rfl,rfl,hv,j6,hs⟩
  exact hR _ c' (hr.put hs j6 Lx hv) hs
 unfold DW at h
 split at h
 ·rename_i hg
  obtain ⟨lv,m',hK,dt⟩:=run h
  refine ⟨lv,m',hK,fun c a R Q hr hR=>?_⟩
  rw [if_pos (by simp [Region.wanted,hg])]
  exact .inl (dt c a R Q hr hR)
 ·rename_i j want hg
  split at h
  ·rename_i g hj
   cases ht:e g <;> simp only [ht] at h
   case bool t =>
    split at h
    ·rename_i heq
     obtain ⟨lv,m',hK,dt⟩:=run h
     refine ⟨lv,m',hK,fun c a R Q hr hR=>?_⟩
     rw [oQ hr hd hg hj ht,if_pos (by simpa using heq)]
     exact .inl (dt c a R Q hr hR)
    ·rename_i eE
     refine ⟨.tup [],m,h,fun c a R Q hr hR=>?_⟩
     rw [oQ hr hd hg hj ht,if_neg (by simpa using eE)]
     exact hR _ c (hr.put (Step.refl pr c) hr.mem Lx (pI c)) (Step.refl pr c)
   case tup vs =>
    cases vs with
    | cons x xs=>exact h.elim
    | nil =>
     refine ⟨.tup [],m,h,fun c a R Q hr hR=>?_⟩
     rw [sr hr hd hg hj ht,if_neg (by simp)]
     exact hR _ c (hr.put (Step.refl pr c) hr.mem Lx (pI c)) (Step.refl pr c)
  ·cases h
def kX (N:Nat) (l:List Oper):Bool:=l.all fun o=>match o.dst with | some d=>decide (d<N) | .none=>true
theorem p5 {l:List Oper} (h:kX N l=true):∀ q ∈ l.toArray,∀ i,q.dst=some i→i<N:=by
 intro q hq i hi
 have:=List.all_eq_true.1 h q (by simpa using hq)
 simpa [hi] using this
end rules
end Go.L
namespace Go.L
mutual
def LV.refs:LV→List Nat
 | .sptr cs=>LV.a8 cs
 | .arr i _=>[i]
 | .ptr i _=>[i]
 | .eptr i _ _ _=>[i]
 | .mp i=>[i]
 | .agg cs=>LV.a8 cs
 | .tup cs=>LV.a8 cs
 | .fn _ cs=>LV.a8 cs
 | .bfn _ cs=>LV.a8 cs
 | _=>[]
def LV.a8:List LV→List Nat
 | []=>[]
 | x :: xs=>x.refs++LV.a8 xs
end
mutual
theorem jm {id:Nat}:∀ (x:LV),x.bo id=false→id ∈ x.refs
 | .fg,h | .int _ _,h | .bool _,h | .nil,h | .slen _,h | .full _ _,h | .str _,h | .it _,h | .nilf,h | .nilp,h | .lst _ _,h=>by simp [LV.bo] at h
 | .sptr cs,h=>by simp only [LV.bo] at h; simp only [LV.refs]; exact dw cs h
 | .arr _ _,h | .ptr _ _,h | .eptr _ _ _ _,h | .mp _,h=>by simp [LV.bo] at h; simp [LV.refs,h]
 | .agg cs,h=>by simp only [LV.bo] at h; simp only [LV.refs]; exact dw cs h
 | .tup cs,h=>by simp only [LV.bo] at h; simp only [LV.refs]; exact dw cs h
 | .fn _ cs,h=>by simp only [LV.bo] at h; simp only [LV.refs]; exact dw cs h
 | .bfn _ cs,h=>by simp only [LV.bo] at h; simp only [LV.refs]; exact dw cs h
theorem dw {id:Nat}:∀ (xs:List LV),LV.cD id xs=false→id ∈ LV.a8 xs
 | [],h=>by simp [LV.cD] at h
 | x :: xs,h=>by
  simp only [LV.cD,Bool.and_eq_false_iff] at h
  simp only [LV.a8,List.mem_append]
  exact h.imp (jm x) (dw xs)
end
theorem cG.sub {c:Cx} {m:Mem} (h:cG c m) (m':Mem) (jH:∀ id,m' id=m id ∨ m' id=.none) (kY:∀ id le,m' id=some le→∀ j,le.iU j=false→m' j ≠ .none) :
  ∃ c':Cx,c'.w=c.w∧c'.O=c.O∧cG c' m'∧(∀ x v,(∀ j,x.bo j=false→m' j ≠ .none)→ar c x v→ar c' x v)∧(∀ b,c'.own b→c.own b)∧(∀ b,c.own b→(∀ id be,m' id ≠ .none→c.B id=some be→¬ be.has b)→¬ c'.own b)∧∀ id,m' id ≠ .none→c'.B id=c.B id:=by
 classical
 let c':Cx:=⟨c.w,fun id=>if m' id=.none then .none else c.B id,c.O⟩
 have hB:∀ id,m' id ≠ .none→c'.B id=c.B id:=fun id hi=>by simp [c',hi]
 have bN:∀ b,c'.own b→c.own b:=by
  rintro b ⟨id,be,h1,h2⟩
  by_cases hi:m' id=.none
  ·simp [c',hi] at h1
  ·rw [hB id hi] at h1; exact ⟨id,be,h1,h2⟩
 have hle:c.Le c':=⟨Nat.le_refl _,fun b _ hX=>⟨rfl,fun Li=>hX (Li.imp (fun h=>h) (bN b))⟩⟩
 have hV:∀ x v,(∀ j,x.bo j=false→m' j ≠ .none)→ar c x v→ar c' x v:=fun x v hr hv =>
  ar.mono hle x v (fun id cj=>by rw [hB id (hr id cj)]; exact js.refl _) hv
 refine ⟨c',rfl,rfl,⟨fun id=>?_,?_,fun b ho=>h.jT b (bN b ho),h.vu⟩,hV,bN,?_,hB⟩
 ·by_cases hi:m' id=.none
  ·rw [hi]; simp [bJ,c',hi]
  ·have he:=h.gH id
   rw [← (jH id).resolve_right hi] at he
   rw [hB id hi]
   cases hx:m' id with
   | none=>exact absurd hx hi
   | some le =>
    rw [hx] at he
    cases le with
    | box cs =>
     simp only [bJ] at he ⊢
     obtain ⟨b,us,e,h1,h2,h3,h4⟩:=he
     exact ⟨b,us,e,h1,h2,aE.mono hle cs us (fun j hj=>by rw [hB j (kY id _ hx j hj)]; exact js.refl _) h3,h4⟩
    | arr e k xs =>
     simp only [bJ] at he ⊢
     obtain ⟨u,us,h1,h0,h2,h3,h4,h5⟩:=he
     exact ⟨u,us,h1,h0,h2,aE.mono hle xs us (fun j hj=>by rw [az xs h5] at hj; cases hj) h3,h4,h5⟩
    | nest e k os xs =>
     simp only [bJ] at he ⊢
     obtain ⟨u,us,bs,h1,h0,h2,h3,h4⟩:=he
     exact ⟨u,us,bs,h1,h0,h2,h3.mono hle (fun b _=>rfl),h4⟩
    | de e k os xs i o id2 n2 =>
     simp only [bJ] at he ⊢
     obtain ⟨u,us,bs,h1,h0,h2,h3,⟨ws,v,q1,q2,q3⟩,h4⟩:=he
     exact ⟨u,us,bs,h1,h0,h2,h3.mono hle (fun b _=>rfl),⟨ws,v,q1,q2,ar.mono hle (.arr id2 n2) v (fun j hj=>by rw [hB j (kY id _ hx j hj)]; exact js.refl _) q3⟩,h4⟩
    | dead=>simpa only [bJ] using he
    | map kt vt es =>
     simp only [bJ] at he ⊢
     obtain ⟨b,j3,ck,h1,h2,h3,h4,h5,h6,h7⟩:=he
     exact ⟨b,j3,ck,h1,h2,aE.mono hle _ _ (fun j hj=>by rw [az _ h5] at hj; cases hj) h3,aE.mono hle _ _ (fun j hj=>by rw [az _ h6] at hj; cases hj) h4,h5,h6,h7⟩
 ·intro i i' be dK b h1 h2 h3 h4
  by_cases hi:m' i=.none
  ·simp [c',hi] at h1
  ·by_cases fD:m' i'=.none
   ·simp [c',fD] at h2
   ·rw [hB i hi] at h1; rw [hB i' fD] at h2; exact h.inj i i' be dK b h1 h2 h3 h4
 ·rintro b hob eE ⟨id,be,h1,h2⟩
  by_cases hi:m' id=.none
  ·simp [c',hi] at h1
  ·rw [hB id hi] at h1; exact eE id be hi h1 h2
def av (el:List (Nat × LV)) (ml:List (Nat × LE)):Bool :=
 (el.all fun p=>p.2.refs.all fun j=>ml.any fun q=>q.1 == j) && ml.all fun q=>match q.2 with
  | .box cs=>(LV.a8 cs).all fun j=>ml.any fun q=>q.1 == j
  | .arr _ _ _=>true
  | .map _ _ _=>true
  | .nest _ _ _ _=>true
  | .de _ _ _ _ _ _ id2 _=>ml.any fun q=>q.1 == id2
  | .dead=>true
theorem dS {ml:List (Nat × LE)} {id:Nat} {le:LE} (h:Mem.of ml id=some le):(id,le) ∈ ml:=by
 induction ml with
 | nil=>simp [Mem.of] at h
 | cons p ml ih =>
  obtain ⟨d,v⟩:=p
  simp only [Mem.of] at h
  split at h
  ·rename_i hi; cases h; subst hi; simp
  ·exact List.mem_cons_of_mem _ (ih h)
theorem eL {ml:List (Nat × LE)} {id:Nat} (h:(ml.any fun q=>q.1 == id)=true):Mem.of ml id ≠ .none:=by
 induction ml with
 | nil=>simp at h
 | cons p ml ih =>
  obtain ⟨d,v⟩:=p
  simp only [Mem.of]
  by_cases hd:id=d
  ·simp [hd]
  ·simp only [hd,if_false]
   simp only [List.any_cons,Bool.or_eq_true,beq_iff_eq] at h
   exact ih (h.resolve_left (fun hh=>hd hh.symm))
theorem FC (el:List (Nat × LV)) (i:Nat):Env.of el i=.fg ∨ (i,Env.of el i) ∈ el:=by
 induction el with
 | nil=>exact .inl rfl
 | cons p el ih =>
  obtain ⟨d,v⟩:=p
  simp only [Env.of]
  by_cases hd:i=d
  ·subst hd; simp
  ·simp only [hd,if_false]
   exact ih.imp (fun h=>h) (List.mem_cons_of_mem _)
theorem Wk.cut {pr:Nat→Prop} {e:Env} {m:Mem} (el:List (Nat × LV)) (ml:List (Nat × LE)) (he:∀ p ∈ el,e p.1=p.2) (hm:∀ p ∈ ml,m p.1=some p.2) (hr:av el ml=true) (mi:∀ id,pr id→m id=.none ∨ Mem.of ml id ≠ .none):Wk pr e m (Env.of el) (Mem.of ml):=by
 intro N c a cv
 simp only [av,Bool.and_eq_true,List.all_eq_true] at hr
 obtain ⟨c',hw,hO,j6,hV,bN,_,hB⟩:=cv.mem.sub (Mem.of ml) (fun id=>by
   cases h:Mem.of ml id with
   | none=>exact .inr rfl
   | some le=>exact .inl (hm _ (dS h)).symm)
  (fun id le cj j hj=>by
   have h2:=hr.2 _ (dS cj)
   cases le with
   | box cs =>
    simp only [List.all_eq_true] at h2
    exact eL (h2 j (dw cs hj))
   | de _ _ _ _ _ _ id2 _ =>
    simp only [LE.iU,bne_eq_false_iff_eq] at hj
    subst hj
    exact eL h2
   | _=>simp [LE.iU] at hj)
 refine ⟨c',hw,⟨fun i=>?_,j6,cv.size,cv.defers⟩,?_⟩
 ·rcases FC el i with h | h
  ·rw [h]; simp [ar]
  ·have h1:=he _ h
   simp only at h1
   refine hV _ _ (fun j hj=>eL (hr.1 _ h j (jm _ hj))) ?_
   rw [← h1]; exact cv.env i
 ·refine ⟨hO,by rw [hw],by rw [hw],by rw [hw],by rw [hw]; exact Nat.le_refl _,by rw [hw]; exact Nat.le_refl _,fun b _ _=>by rw [hw],fun b ho=>.inl (bN b ho),fun id be hp hb=>?_⟩
  have:Mem.of ml id ≠ .none:=by
   rcases mi id hp with h0 | h0
   ·have:=cv.mem.fresh h0; rw [this] at hb; cases hb
   ·exact h0
  exact ⟨be,by rw [hB id this]; exact hb,.refl be⟩
mutual
/-- a settled box: ZF Fo V9 Fo of settled cells -/
def LV.bD (id:Nat) (cs:List LV):LV→LV
 | .ptr i o=>if i=id then .sptr (cs.drop o) else .ptr i o
 | .agg l=>.agg (LV.rO id cs l)
 | .tup l=>.tup (LV.rO id cs l)
 | .fn f l=>.fn f (LV.rO id cs l)
 | .bfn f l=>.bfn f (LV.rO id cs l)
 | .arr i n=>if i=id then .fg else .arr i n
 | .eptr i n j o=>if i=id then .fg else .eptr i n j o
 | .mp i=>if i=id then .fg else .mp i
 | .sptr l=>if LV.cD id l=true then .sptr l else .fg
 | x=>x
def LV.rO (id:Nat) (cs:List LV):List LV→List LV
 | []=>[]
 | x :: xs=>x.bD id cs :: LV.rO id cs xs
end
mutual
/-- a settled row: the slice over it Vz a list -/
def LV.fv (id k:Nat) (xs:List LV):LV→LV
 | .arr i n=>if i=id then (if n=xs.length then .lst k xs else .fg) else .arr i n
 | .agg l=>.agg (LV.gj id k xs l)
 | .tup l=>.tup (LV.gj id k xs l)
 | .fn f l=>.fn f (LV.gj id k xs l)
 | .bfn f l=>.bfn f (LV.gj id k xs l)
 | .ptr i o=>if i=id then .fg else .ptr i o
 | .eptr i n j o=>if i=id then .fg else .eptr i n j o
 | .mp i=>if i=id then .fg else .mp i
 | .sptr l=>if LV.cD id l=true then .sptr l else .fg
 | x=>x
def LV.gj (id k:Nat) (xs:List LV):List LV→List LV
 | []=>[]
 | x :: l=>x.fv id k xs :: LV.gj id k xs l
end
def Mem.del (m:Mem) (id:Nat):Mem:=fun i=>if i=id then .none else m i
section Ea
variable {c c':Cx} {id:Nat}
mutual
theorem zr {cs:List LV} (hV:∀ x v,x.bo id=true→ar c x v→ar c' x v) (hp:∀ o v,ar c (.ptr id o) v→ar c' (.sptr (cs.drop o)) v):∀ (x:LV) (v:Value),ar c x v→ar c' (x.bD id cs) v
 | .fg,v,h=>by simp [LV.bD,ar]
 | .int _ _,v,h=>by simp only [LV.bD]; exact hV _ _ (by simp [LV.bo]) h
 | .bool _,v,h=>by simp only [LV.bD]; exact hV _ _ (by simp [LV.bo]) h
 | .nil,v,h=>by simp only [LV.bD]; exact hV _ _ (by simp [LV.bo]) h
 | .slen _,v,h=>by simp only [LV.bD]; exact hV _ _ (by simp [LV.bo]) h
 | .full _ _,v,h=>by simp only [LV.bD]; exact hV _ _ (by simp [LV.bo]) h
 | .str _,v,h=>by simp only [LV.bD]; exact hV _ _ (by simp [LV.bo]) h
 | .it _,v,h=>by simp only [LV.bD]; exact hV _ _ (by simp [LV.bo]) h
 | .nilf,v,h=>by simp only [LV.bD]; exact hV _ _ (by simp [LV.bo]) h
 | .nilp,v,h=>by simp only [LV.bD]; exact hV _ _ (by simp [LV.bo]) h
 | .lst _ _,v,h=>by simp only [LV.bD]; exact hV _ _ (by simp [LV.bo]) h
 | .sptr _,v,h=>by
  simp only [LV.bD]
  split
  ·rename_i hn; exact hV _ _ (by simpa [LV.bo] using hn) h
  ·simp [ar]
 | .arr i n,v,h=>by
  simp only [LV.bD]
  split
  ·simp [ar]
  ·rename_i hi; exact hV _ _ (by simp [LV.bo,hi]) h
 | .ptr i o,v,h=>by
  simp only [LV.bD]
  split
  ·rename_i hi; subst hi; exact hp o v h
  ·rename_i hi; exact hV _ _ (by simp [LV.bo,hi]) h
 | .eptr i n j o,v,h=>by
  simp only [LV.bD]
  split
  ·simp [ar]
  ·rename_i hi; exact hV _ _ (by simp [LV.bo,hi]) h
 | .mp i,v,h=>by
  simp only [LV.bD]
  split
  ·simp [ar]
  ·rename_i hi; exact hV _ _ (by simp [LV.bo,hi]) h
 | .agg l,v,h=>by
  simp only [LV.bD,ar] at h ⊢
  obtain ⟨vs,rfl,hl⟩:=h
  exact ⟨vs,rfl,lK hV hp l vs hl⟩
 | .tup l,v,h=>by
  simp only [LV.bD,ar] at h ⊢
  obtain ⟨vs,rfl,hl⟩:=h
  exact ⟨vs,rfl,lK hV hp l vs hl⟩
 | .fn f l,v,h=>by
  simp only [LV.bD,ar] at h ⊢
  obtain ⟨vs,rfl,hl⟩:=h
  exact ⟨vs,rfl,lK hV hp l vs hl⟩
 | .bfn f l,v,h=>by
  simp only [LV.bD,ar] at h ⊢
  obtain ⟨vs,rfl,hl⟩:=h
  exact ⟨vs,rfl,lK hV hp l vs hl⟩
theorem lK {cs:List LV} (hV:∀ x v,x.bo id=true→ar c x v→ar c' x v) (hp:∀ o v,ar c (.ptr id o) v→ar c' (.sptr (cs.drop o)) v):∀ (xs:List LV) (vs:List Value),aE c xs vs→aE c' (LV.rO id cs xs) vs
 | [],vs,h=>by simpa only [LV.rO,aE] using h
 | x :: xs,vs,h=>by
  simp only [LV.rO,aE] at h ⊢
  obtain ⟨v,fR,rfl,h1,h2⟩:=h
  exact ⟨v,fR,rfl,zr hV hp x v h1,lK hV hp xs fR h2⟩
end
mutual
theorem zq {k:Nat} {xs:List LV} (hV:∀ x v,x.bo id=true→ar c x v→ar c' x v) (hp:∀ v,ar c (.arr id xs.length) v→ar c' (.lst k xs) v):∀ (x:LV) (v:Value),ar c x v→ar c' (x.fv id k xs) v
 | .fg,v,h=>by simp [LV.fv,ar]
 | .int _ _,v,h=>by simp only [LV.fv]; exact hV _ _ (by simp [LV.bo]) h
 | .bool _,v,h=>by simp only [LV.fv]; exact hV _ _ (by simp [LV.bo]) h
 | .nil,v,h=>by simp only [LV.fv]; exact hV _ _ (by simp [LV.bo]) h
 | .slen _,v,h=>by simp only [LV.fv]; exact hV _ _ (by simp [LV.bo]) h
 | .full _ _,v,h=>by simp only [LV.fv]; exact hV _ _ (by simp [LV.bo]) h
 | .str _,v,h=>by simp only [LV.fv]; exact hV _ _ (by simp [LV.bo]) h
 | .it _,v,h=>by simp only [LV.fv]; exact hV _ _ (by simp [LV.bo]) h
 | .nilf,v,h=>by simp only [LV.fv]; exact hV _ _ (by simp [LV.bo]) h
 | .nilp,v,h=>by simp only [LV.fv]; exact hV _ _ (by simp [LV.bo]) h
 | .lst _ _,v,h=>by simp only [LV.fv]; exact hV _ _ (by simp [LV.bo]) h
 | .sptr _,v,h=>by
  simp only [LV.fv]
  split
  ·rename_i hn; exact hV _ _ (by simpa [LV.bo] using hn) h
  ·simp [ar]
 | .arr i n,v,h=>by
  simp only [LV.fv]
  split
  ·rename_i hi
   split
   ·rename_i hn; subst hi; subst hn; exact hp v h
   ·simp [ar]
  ·rename_i hi; exact hV _ _ (by simp [LV.bo,hi]) h
 | .ptr i o,v,h=>by
  simp only [LV.fv]
  split
  ·simp [ar]
  ·rename_i hi; exact hV _ _ (by simp [LV.bo,hi]) h
 | .eptr i n j o,v,h=>by
  simp only [LV.fv]
  split
  ·simp [ar]
  ·rename_i hi; exact hV _ _ (by simp [LV.bo,hi]) h
 | .mp i,v,h=>by
  simp only [LV.fv]
  split
  ·simp [ar]
  ·rename_i hi; exact hV _ _ (by simp [LV.bo,hi]) h
 | .agg l,v,h=>by
  simp only [LV.fv,ar] at h ⊢
  obtain ⟨vs,rfl,hl⟩:=h
  exact ⟨vs,rfl,j5 hV hp l vs hl⟩
 | .tup l,v,h=>by
  simp only [LV.fv,ar] at h ⊢
  obtain ⟨vs,rfl,hl⟩:=h
  exact ⟨vs,rfl,j5 hV hp l vs hl⟩
 | .fn f l,v,h=>by
  simp only [LV.fv,ar] at h ⊢
  obtain ⟨vs,rfl,hl⟩:=h
  exact ⟨vs,rfl,j5 hV hp l vs hl⟩
 | .bfn f l,v,h=>by
  simp only [LV.fv,ar] at h ⊢
  obtain ⟨vs,rfl,hl⟩:=h
  exact ⟨vs,rfl,j5 hV hp l vs hl⟩
theorem j5 {k:Nat} {xs:List LV} (hV:∀ x v,x.bo id=true→ar c x v→ar c' x v) (hp:∀ v,ar c (.arr id xs.length) v→ar c' (.lst k xs) v):∀ (l:List LV) (vs:List Value),aE c l vs→aE c' (LV.gj id k xs l) vs
 | [],vs,h=>by simpa only [LV.gj,aE] using h
 | x :: l,vs,h=>by
  simp only [LV.gj,aE] at h ⊢
  obtain ⟨v,fR,rfl,h1,h2⟩:=h
  exact ⟨v,fR,rfl,zq hV hp x v h1,j5 hV hp l fR h2⟩
end
end Ea
mutual
theorem ql {c:Cx} {j:Nat} (hB:c.B j=.none):∀ (x:LV) (v:Value),ar c x v→x.bo j=true
 | .fg,v,h | .int _ _,v,h | .bool _,v,h | .nil,v,h | .slen _,v,h | .full _ _,v,h | .str _,v,h | .it _,v,h | .nilf,v,h | .nilp,v,h | .lst _ _,v,h=>by simp [LV.bo]
 | .sptr cs,v,h=>by
  simp only [ar] at h
  obtain ⟨b,off,vs,_,_,_,hl,_⟩:=h
  simp only [LV.bo]; exact fS hB cs vs hl
 | .arr i n,v,h=>by
  simp only [ar] at h
  obtain ⟨_,u,k,len,ins,h1,_⟩:=h
  by_cases hi:i=j
  ·subst hi; rw [hB] at h1; cases h1
  ·simp [LV.bo,hi]
 | .ptr i o,v,h=>by
  simp only [ar] at h
  obtain ⟨b,n,h1,_⟩:=h
  by_cases hi:i=j
  ·subst hi; rw [hB] at h1; cases h1
  ·simp [LV.bo,hi]
 | .eptr i n q o,v,h=>by
  simp only [ar] at h
  obtain ⟨_,u,k,len,ins,h1,_⟩:=h
  by_cases hi:i=j
  ·subst hi; rw [hB] at h1; cases h1
  ·simp [LV.bo,hi]
 | .mp i,v,h=>by
  simp only [ar] at h
  obtain ⟨b,h1,_⟩:=h
  by_cases hi:i=j
  ·subst hi; rw [hB] at h1; cases h1
  ·simp [LV.bo,hi]
 | .agg l,v,h=>by
  simp only [ar] at h
  obtain ⟨vs,rfl,hl⟩:=h
  simp only [LV.bo]; exact fS hB l vs hl
 | .tup l,v,h=>by
  simp only [ar] at h
  obtain ⟨vs,rfl,hl⟩:=h
  simp only [LV.bo]; exact fS hB l vs hl
 | .fn f l,v,h=>by
  simp only [ar] at h
  obtain ⟨vs,rfl,hl⟩:=h
  simp only [LV.bo]; exact fS hB l vs hl
 | .bfn f l,v,h=>by
  simp only [ar] at h
  obtain ⟨vs,rfl,hl⟩:=h
  simp only [LV.bo]; exact fS hB l vs hl
theorem fS {c:Cx} {j:Nat} (hB:c.B j=.none):∀ (xs:List LV) (vs:List Value),aE c xs vs→LV.cD j xs=true
 | [],vs,h=>by simp [LV.cD]
 | x :: xs,vs,h=>by
  simp only [aE] at h
  obtain ⟨v,fR,rfl,h1,h2⟩:=h
  simp only [LV.cD,Bool.and_eq_true]
  exact ⟨ql hB x v h1,fS hB xs fR h2⟩
end
theorem yI {c:Cx} {j:Nat} (hB:c.B j=.none) (x:LV) (v:Value) (h:ar c x v) (hx:x.bo j=false):False:=by
 rw [ql hB x v h] at hx; cases hx
theorem cG.del {c:Cx} {m:Mem} (h:cG c m) (id:Nat) (kY:∀ i le,i ≠ id→m i=some le→le.iU id=true) :
  ∃ c':Cx,c'.w=c.w∧c'.O=c.O∧cG c' (m.del id)∧(∀ x v,x.bo id=true→ar c x v→ar c' x v)∧(∀ b,c'.own b→c.own b)∧(∀ b be,c.B id=some be→be.has b→¬ c'.X b)∧∀ i,i ≠ id→c'.B i=c.B i:=by
 obtain ⟨c',hw,hO,j6,hV,bN,SH,hB⟩:=h.sub (m.del id) (fun i=>by unfold Mem.del; split <;> simp) (fun i le hi j hj=>by
  unfold Mem.del at hi ⊢
  split at hi
  ·cases hi
  ·rename_i eE
   have GW:j ≠ id:=fun he=>by subst he; rw [kY i le eE hi] at hj; cases hj
   simp only [GW,if_false]
   intro h0
   have he:=h.gH i
   rw [hi] at he
   have KM:=h.fresh h0
   cases le with
   | box cs =>
    simp only [bJ] at he
    obtain ⟨b,us,e,_,_,hl,_⟩:=he
    obtain ⟨x,hx,hxr⟩:∃ x ∈ cs,x.bo j=false:=by
     have hn:LV.cD j cs=false:=hj
     rw [← Bool.not_eq_true,ur] at hn
     simp only [Classical.not_forall] at hn
     obtain ⟨x,hx,hxn⟩:=hn
     exact ⟨x,hx,by simpa using hxn⟩
    obtain ⟨q,hq⟩:=List.mem_iff_getElem?.1 hx
    obtain ⟨v,_,hv⟩:=hl.get hq
    exact yI KM x v hv hxr
   | de _ _ _ _ _ _ id2 n2 =>
    simp only [bJ] at he
    obtain ⟨_,_,_,_,_,_,_,⟨_,v,_,_,q3⟩,_⟩:=he
    exact yI KM _ v q3 hj
   | _=>simp [LE.iU] at hj)
 refine ⟨c',hw,hO,j6,fun x v hx hv=>hV x v (fun j hj=>?_) hv,bN,fun b be hb tO=>?_,fun i hi=>?_⟩
 ·have GW:j ≠ id:=fun he=>by subst he; rw [hx] at hj; cases hj
  unfold Mem.del
  simp only [GW,if_false]
  intro h0
  exact yI (h.fresh h0) x v hv hj
 ·rintro (Y8 | yY)
  ·rw [hO] at Y8; exact h.jT b ⟨id,be,hb,tO⟩ Y8
  ·refine SH b ⟨id,be,hb,tO⟩ (fun i dK hi Ll Lk=>?_) yY
   have:=h.inj i id dK be b Ll hb Lk tO
   subst this
   unfold Mem.del at hi
   simp at hi
 ·by_cases h0:m.del id i=.none
  ·have h1:=j6.fresh h0
   have h2:m i=.none:=by unfold Mem.del at h0; simpa [hi] using h0
   rw [h1,h.fresh h2]
  ·exact hB i h0
def tM (id:Nat) (ml:List (Nat × LE)):Bool:=ml.all fun q=>q.1 == id || match q.2 with | .box cs=>LV.cD id cs | .arr _ _ _=>true | .map _ _ _=>true | .nest _ _ _ _=>true | .de _ _ _ _ _ _ id2 _=>id2 != id | .dead=>true
theorem Mem.Je (ml:List (Nat × LE)) (id:Nat):(Mem.of ml).del id=Mem.of (ml.filter fun q=>q.1 != id):=by
 funext i
 unfold Mem.del
 induction ml with
 | nil=>simp [Mem.of]
 | cons p ml ih =>
  obtain ⟨d,v⟩:=p
  by_cases hd:d=id
  ·subst hd
   simp only [List.filter_cons,bne_self_eq_false,Bool.false_eq_true,if_false,← ih,Mem.of]
   split
   ·rfl
   ·rename_i hi; simp [hi]
  ·have:(d != id)=true:=by simpa using hd
   simp only [List.filter_cons,this,if_true,Mem.of]
   by_cases hi:i=id
   ·subst hi
    simp only [if_true] at ih ⊢
    rw [if_neg (fun h=>hd h.symm)]; exact ih
   ·simp only [hi,if_false] at ih ⊢
    split
    ·rfl
    ·exact ih
theorem Env.of_map (el:List (Nat × LV)) (f:LV→LV) (hf:f .fg=.fg):(fun i=>f (Env.of el i))=Env.of (el.map fun p=>(p.1,f p.2)):=by
 funext i
 induction el with
 | nil=>simpa [Env.of] using hf
 | cons p el ih =>
  obtain ⟨d,v⟩:=p
  simp only [Env.of,List.map_cons]
  split
  ·rfl
  ·exact ih
theorem nK {id:Nat} {ml:List (Nat × LE)} (h:tM id ml=true):∀ i le,i ≠ id→Mem.of ml i=some le→le.iU id=true:=by
 intro i le hi hm
 have:=List.all_eq_true.1 h _ (dS hm)
 cases le with
 | box cs=>simpa [hi,LE.iU] using this
 | de _ _ _ _ _ _ _ _=>simpa [hi,LE.iU] using this
 | _=>rfl
theorem Wk.bD {pr:Nat→Prop} {el:List (Nat × LV)} {ml:List (Nat × LE)} (id:Nat) (cs:List LV) (cj:Mem.of ml id=some (.box cs)) (hp:LV.bt cs=true) (nM:tM id ml=true) (mi:¬ pr id) :
  Wk pr (Env.of el) (Mem.of ml) (Env.of (el.map fun p=>(p.1,p.2.bD id cs))) (Mem.of (ml.filter fun q=>q.1 != id)):=by
 intro N c a cv
 rw [← Env.of_map el (LV.bD id cs) (by simp [LV.bD]),← Mem.Je]
 obtain ⟨c',hw,hO,j6,hV,bN,hX,hB⟩:=cv.mem.del id (nK nM)
 obtain ⟨b,vs,e,FJ,hh,hl,h1⟩:=j9 cv.mem cj
 refine ⟨c',hw,⟨fun i=>zr hV ?_ _ _ (cv.env i),j6,cv.size,cv.defers⟩,?_⟩
 ·intro o v hv
  simp only [ar] at hv ⊢
  obtain ⟨b',n,kA,rfl⟩:=hv
  rw [FJ] at kA
  cases kA
  have hra:=iJ (ob hh) o
  simp only [Nat.zero_add] at hra
  refine ⟨b,o,vs.drop o,rfl,by rw [hw]; exact (Array.getElem?_eq_some_iff.1 hh).1,hX b _ FJ rfl,?_,fun y hy=>h1 y (List.mem_of_mem_drop hy),by rw [hw]; exact hra⟩
  have hle:c.Le c':=⟨by rw [hw]; exact Nat.le_refl _,fun b _ hx=>⟨by rw [hw],fun oC=>hx (oC.imp (fun h=>by rw [hO] at h; exact h) (bN b))⟩⟩
  exact (aE.mono hle cs vs (fun j hj=>by rw [az cs hp] at hj; cases hj) hl).drop o
 ·refine ⟨hO,by rw [hw],by rw [hw],by rw [hw],by rw [hw]; exact Nat.le_refl _,by rw [hw]; exact Nat.le_refl _,fun b _ _=>by rw [hw],fun b ho=>.inl (bN b ho),fun i be Ib hb=>?_⟩
  exact ⟨be,by rw [hB i (fun h=>mi (h ▸ Ib))]; exact hb,.refl be⟩
theorem Wk.fv {pr:Nat→Prop} {el:List (Nat × LV)} {ml:List (Nat × LE)} (id e k:Nat) (xs:List LV) (cj:Mem.of ml id=some (.arr e k xs)) (nM:tM id ml=true) (mi:¬ pr id) :
  Wk pr (Env.of el) (Mem.of ml) (Env.of (el.map fun p=>(p.1,p.2.fv id k xs))) (Mem.of (ml.filter fun q=>q.1 != id)):=by
 intro N c a cv
 rw [← Env.of_map el (LV.fv id k xs) (by simp [LV.fv]),← Mem.Je]
 obtain ⟨c',hw,hO,j6,hV,bN,hX,hB⟩:=cv.mem.del id (nK nM)
 refine ⟨c',hw,⟨fun i=>zq hV ?_ _ _ (cv.env i),j6,cv.size,cv.defers⟩,?_⟩
 ·intro v hv
  obtain ⟨vs,FJ,hk,nQ,hl,hc,hp⟩:=gY cv.mem hv cj rfl
  simp only [ar]
  have hle:c.Le c':=⟨by rw [hw]; exact Nat.le_refl _,fun b _ hx=>⟨by rw [hw],fun oC=>hx (oC.imp (fun h=>by rw [hO] at h; exact h) (bN b))⟩⟩
  have oz:=aE.mono hle xs vs (fun j hj=>by rw [az xs hp] at hj; cases hj) hl
  rcases nQ.2 with ⟨rfl,h0⟩ | ⟨g,cap,cur,rfl,_,hg,mh,_⟩
  ·exact ⟨.none,0,by rw [h0],by omega,fun _=>rfl,hp,.inl (List.eq_nil_of_length_eq_zero h0)⟩
  ·refine ⟨some ⟨g,0,.none⟩,cap,rfl,mh,by simp,hp,.inr ⟨g,0,vs,rfl,by rw [hw]; exact (Array.getElem?_eq_some_iff.1 hg).1,hX g _ FJ (.inl rfl),oz,hc,?_⟩⟩
   rw [hw]; exact gr nQ rfl
 ·refine ⟨hO,by rw [hw],by rw [hw],by rw [hw],by rw [hw]; exact Nat.le_refl _,by rw [hw]; exact Nat.le_refl _,fun b _ _=>by rw [hw],fun b ho=>.inl (bN b ho),fun i be Ib hb=>?_⟩
  exact ⟨be,by rw [hB i (fun h=>mi (h ▸ Ib))]; exact hb,.refl be⟩
theorem Wk.own {pr:Nat→Prop} {el iP:List (Nat × LV)} {ml:List (Nat × LE)} (id e k:Nat) (cj:Mem.of ml id=.none) (hk:0<k)
  (qH:iP.length=el.length) (hh:∀ i:Nat,∀ p q,el[i]?=some p→iP[i]?=some q→q.1=p.1∧(q.2=p.2 ∨ (p.2=.nil∧q.2=.arr id 0))) :
  Wk pr (Env.of el) (Mem.of ml) (Env.of iP) (Mem.of ((id,.arr e k []) :: ml)):=by
 intro N c a cv
 have hB:=cv.mem.fresh cj
 obtain ⟨c',hw,hb,h2,h3⟩:=cv.mem.y4 (pr:=pr) id (.arr e k []) (.arr (.slice .none 0 0) k 0 []) c.w rfl rfl rfl (Nat.le_refl _) (Nat.le_refl _)
  (fun b _ _=>rfl) (fun b hb=>by simp [BE.has,Value.ownBlock] at hb) (by rw [hB]; trivial) (fun _ dr h0=>by rw [hB] at h0; cases h0)
  (fun c' hw hle hble=>by
   simp only [bJ]
   exact ⟨.slice .none 0 0,[],rfl,hk,by rw [hw]; exact World.ownsRow_nil c.w 0 e k,by simp [aE],by simp,by simp [LV.bt]⟩)
 refine ⟨c',hw,⟨fun i=>?_,?_,cv.size,cv.defers⟩,h3.grow⟩
 ·have key:∀ (el iP:List (Nat × LV)),iP.length=el.length→(∀ i:Nat,∀ p q,el[i]?=some p→iP[i]?=some q→q.1=p.1∧(q.2=p.2 ∨ (p.2=.nil∧q.2=.arr id 0)))→Env.of iP i=Env.of el i ∨ (Env.of el i=.nil∧Env.of iP i=.arr id 0):=by
   intro el
   induction el with
   | nil=>intro iP hl _; have:iP=[]:=List.eq_nil_of_length_eq_zero (by simpa using hl); subst this; exact .inl rfl
   | cons p el ih =>
    intro iP hl hh
    cases iP with
    | nil=>simp at hl
    | cons q iP =>
     obtain ⟨h1,h2⟩:=hh 0 p q (by simp) (by simp)
     obtain ⟨d,v⟩:=p
     obtain ⟨d',v'⟩:=q
     simp only at h1 h2
     subst h1
     simp only [Env.of]
     split
     ·exact h2
     ·exact ih iP (by simpa using hl) (fun i p q hp hq=>hh (i+1) p q (by simpa using hp) (by simpa using hq))
  rcases key el iP qH hh with he | ⟨he,Cw⟩
  ·rw [he]; exact h3.yJ (cv.env i)
  ·rw [Cw]
   have:=cv.env i
   rw [he] at this
   simp only [ar] at this ⊢
   exact ⟨by rw [this]; rfl,_,_,_,_,hb,Nat.le_refl _,fun _=>this⟩
 ·have:(Mem.of ml).put id (.arr e k [])=Mem.of ((id,.arr e k []) :: ml):=rfl
  rw [← this]; exact h2
def Env.args (l:List LV):Env:=fun i=>l.getD i .fg
def iS (P:Program) (e:Env) (m:Mem):List ResultVar→(List LV→Prop)→Prop
 | [],K=>K []
 | .tmp t :: r,K=>iS P e m r fun l=>K (e t :: l)
 | .cell a t :: r,K=>match e a with
  | .ptr id o=>match m id with
   | some (.box cs)=>o≤cs.length∧loadC P t (cs.drop o) fun lv=>iS P e m r fun l=>K (lv :: l)
   | _=>False
  | .sptr cs=>loadC P t cs fun lv=>iS P e m r fun l=>K (lv :: l)
  | _=>False
def rA (tmps:Array Value):ResultVar→Sem Value
 | .tmp t=>pure (tmps.getD t undef)
 | .cell x t=>do loadVar t (← asAddr (tmps.getD x undef))
def oneOf:List LV→LV
 | [x]=>x
 | l=>.tup l
theorem mo {P:Program} {e:Env} {m:Mem}:∀ (rs:List ResultVar) (K:List LV→Prop),iS P e m rs K →
  ∃ l,K l∧∀ (N:Nat) (c:Cx) (a:Act),mZ N c e m a→∃ vs,(rs.mapM (rA a.tmps)).run P c.w=.ok vs c.w∧aE c l vs
 | [],K,h=>⟨[],h,fun N c a hr=>⟨[],by simp,by simp [aE]⟩⟩
 | .tmp t :: r,K,h=>by
  simp only [iS] at h
  obtain ⟨l,hK,hl⟩:=mo r _ h
  refine ⟨_,hK,fun N c a hr=>?_⟩
  obtain ⟨vs,h1,h2⟩:=hl N c a hr
  refine ⟨a.tmps.getD t undef :: vs,by simp only [List.mapM_cons,Sem.run_bind,rA,Sem.run_pure,Result.andThen_ok,h1],?_⟩
  simp only [aE]
  exact ⟨_,_,rfl,hr.env t,h2⟩
 | .cell x t :: r,K,h=>by
  simp only [iS] at h
  have fin:∀ (cs:List LV),loadC P t cs (fun lv=>iS P e m r fun l=>K (lv :: l))→(∀ (N:Nat) (c:Cx) (a:Act),mZ N c e m a→∃ b off vs,a.tmps.getD x undef=.pointer (some ⟨b,off,.none⟩)∧aE c cs vs∧c.w.rangeAt b off vs)→∃ l,K l∧∀ (N:Nat) (c:Cx) (a:Act),mZ N c e m a→∃ vs,((ResultVar.cell x t :: r).mapM (rA a.tmps)).run P c.w=.ok vs c.w∧aE c l vs:=by
   intro cs h Wz
   obtain ⟨lv,hK,hv⟩:=kK h
   obtain ⟨l,yf,hl⟩:=mo r _ hK
   refine ⟨_,yf,fun N c a hr=>?_⟩
   obtain ⟨b,off,us,he,ra,hra⟩:=Wz N c a hr
   obtain ⟨v,iR,hv2⟩:=hv c b off us ra hra
   obtain ⟨vs,h1,h2⟩:=hl N c a hr
   have SF:(loadVar t ⟨b,off,.none⟩).run P c.w=.ok v c.w:=by
    simpa [Instr.loadAt,Instr.sureAddr] using iR
   refine ⟨v :: vs,?_,by simp only [aE]; exact ⟨_,_,rfl,hv2,h2⟩⟩
   simp only [List.mapM_cons,rA,Sem.run_bind,he,asAddr,Sem.run_pure,Result.andThen_ok,SF,h1]
  cases hx:e x <;> simp only [hx] at h
  case sptr cs =>
   refine fin cs h fun N c a hr=>?_
   have:=hr.env x
   rw [hx] at this
   simp only [ar] at this
   obtain ⟨b,off,vs,he,_,_,hl,_,hra⟩:=this
   exact ⟨b,off,vs,he,hl,hra⟩
  case ptr id o =>
   cases hm:m id with
   | none=>simp [hm] at h
   | some le =>
    cases le with
    | map _ _ _=>simp [hm] at h
    | nest _ _ _ _=>simp [hm] at h
    | de _ _ _ _ _ _ _ _=>simp [hm] at h
    | dead=>simp [hm] at h
    | arr _ _ _=>simp [hm] at h
    | box cs =>
     simp only [hm] at h
     refine fin (cs.drop o) h.2 fun N c a hr=>?_
     obtain ⟨b,vs,q,hB,hh,hl,h1⟩:=j9 hr.mem hm
     have:=hr.env x
     rw [hx] at this
     simp only [ar] at this
     obtain ⟨b',n,kA,he⟩:=this
     rw [hB] at kA
     cases kA
     have hra:=iJ (ob hh) o
     simp only [Nat.zero_add] at hra
     exact ⟨b,o,_,he,hl.drop o,hra⟩
def Gx (P:Program) (fn:Func) (pr:Nat→Prop) (R:LV→Mem→Prop):Exit→Env→Mem→Prop
 | .ret,e,m=>iS P e m fn.results.toList fun l=>∃ ml,(∀ p ∈ ml,m p.1=some p.2)∧av [(0,oneOf l)] ml=true∧(∀ id,pr id→m id=.none ∨ Mem.of ml id ≠ .none)∧R (oneOf l) (Mem.of ml)
 | .normal,e,m=>iS P e m fn.results.toList fun l=>∃ ml,(∀ p ∈ ml,m p.1=some p.2)∧av [(0,oneOf l)] ml=true∧(∀ id,pr id→m id=.none ∨ Mem.of ml id ≠ .none)∧R (oneOf l) (Mem.of ml)
 | _,_,_=>False
theorem aF.yw {P:Program} {f:Nat} {fn:Func} {code:Code} {args:List LV} {m:Mem} {R:LV→Mem→Prop} (hf:P.funcs[f]?=some fn) (hb:fn.body=some code) (hn:args.length≤fn.ntmps)
  (h:LH P fn.ntmps (fun id=>m id ≠ .none) code (Gx P fn (fun id=>m id ≠ .none) R) (Env.args args) m):∃ lv m',aF P f args m lv m'∧R lv m':=by
 obtain ⟨ex,e',m1,hx,hq⟩:=h
 have main:(iS P e' m1 fn.results.toList fun l=>∃ ml,(∀ p ∈ ml,m1 p.1=some p.2)∧av [(0,oneOf l)] ml=true∧(∀ id,m id ≠ .none→m1 id=.none ∨ Mem.of ml id ≠ .none)∧R (oneOf l) (Mem.of ml))→(ex=.ret ∨ ex=.normal)→∃ lv m',aF P f args m lv m'∧R lv m':=by
  intro O9 hex
  obtain ⟨l,⟨ml,h1,h2,h3,hR⟩,hl⟩:=mo _ _ O9
  refine ⟨oneOf l,Mem.of ml,fun c vs hm ha=>?_,hR⟩
  refine calls_of_wp hf hb ?_
  have hlen:=ha.length
  have cv:mZ fn.ntmps c (Env.args args) m { tmps:=vs.toArray++Array.replicate (fn.ntmps - vs.toArray.size) undef,defers:=[] }:=by
   refine ⟨fun i=>?_,hm,by simp; omega,rfl⟩
   simp only [Env.args,List.getD_eq_getElem?_getD]
   cases hi:args[i]? with
   | none=>simp [ar]
   | some x =>
    obtain ⟨v,hv,hr⟩:=ha.get hi
    have rP:i<vs.length:=(List.getElem?_eq_some_iff.1 hv).1
    have:(vs.toArray++Array.replicate (fn.ntmps - vs.toArray.size) undef).getD i undef=v:=by
     rw [Array.getD_eq_getD_getElem?,Array.getElem?_append_left (by simpa using rP)]
     simp [hv]
    rw [this]; exact hr
  refine wp_mono (hx c _ cv) ?_
  rintro x a' w' ⟨rfl,c1,rfl,dR,yW⟩
  obtain ⟨us,G0,ra⟩:=hl _ c1 a' dR
  have H9:(results fn a'.tmps).run P c1.w=.ok (if h:us.toArray.size=1 then us.toArray[0] else .tuple us.toArray) c1.w:=by
   have e1:results fn a'.tmps=(do let vs ← fn.results.mapM (rA a'.tmps); pure (if h:vs.size=1 then vs[0] else .tuple vs)):=by
    unfold results
    congr 2
   rw [e1,Array.mapM_eq_mapM_toList]
   simp only [Sem.run_bind,Sem.run_map,G0,Result.andThen_ok,Sem.run_pure]
  have Xs:ar c1 (oneOf l) (if h:us.toArray.size=1 then us.toArray[0] else .tuple us.toArray):=by
   have hll:=ra.length
   match l,us,ra with
   | [],us,ra=>simp only [aE] at ra; subst ra; simp [oneOf,ar,aE]
   | [x],us,ra =>
    simp only [aE] at ra
    obtain ⟨v,fR,rfl,hv,rfl⟩:=ra
    simpa [oneOf] using hv
   | x :: y :: l,us,ra =>
    have fe:¬ us.toArray.size=1:=by have:=ra.length; simp at this ⊢; omega
    rw [dif_neg fe]
    simp only [oneOf,ar]
    exact ⟨us,rfl,ra⟩
  obtain ⟨c2,qf,⟨HP,lp,_,_⟩,hg2⟩:=Wk.cut (pr:=fun id=>m id ≠ .none) (e:=Env.of [(0,oneOf l)]) (m:=m1) [(0,oneOf l)] ml (by simp [Env.of]) h1 h2 (fun id hp=>h3 id hp) 1 c1 { tmps:=#[if h:us.toArray.size=1 then us.toArray[0] else .tuple us.toArray],defers:=[] }
   ⟨fun i=>by
    by_cases hi:i=0
    ·subst hi; simpa [Env.of] using Xs
    ·simp [Env.of,hi,ar],dR.mem,rfl,rfl⟩
  have hv2:=HP 0
  simp only [Env.of,if_true] at hv2
  have zH:a'.defers=[]∧∃ v,(results fn a'.tmps).run P c1.w=.ok v c1.w∧∃ v' c',Ending.returned v=.returned v'∧c'.w=c1.w∧cG c' (Mem.of ml)∧ar c' (oneOf l) v'∧Grow (fun id=>m id ≠ .none) c c' :=
   ⟨dR.defers,_,H9,_,c2,rfl,qf,lp,by simpa using hv2,yW.trans hg2⟩
  rcases hex with rfl | rfl
  ·exact zH
  ·exact zH
 cases ex with
 | ret=>exact main hq (.inl rfl)
 | normal=>exact main hq (.inr rfl)
 | _=>exact hq.elim
def tm (P:Program) (f:Nat) (args:List LV) (lv:LV):Prop:=aF P f args Mem.none lv Mem.none
theorem Mem.wX (m:Mem):m.over Mem.none=m:=by funext i; rfl
theorem Bt {c:Cx} {i j:Nat} {le:LE} (hp:(match le with | .box cs=>LV.bt cs | .arr _ _ _=>true | .map _ _ _=>true | .nest _ _ _ _=>true | .de _ _ _ _ _ _ _ _=>false | .dead=>true)=true) (hm:cG c (Mem.of [(i,le)])) :
  ∃ c':Cx,c'.w=c.w∧c'.O=c.O∧cG c' (Mem.of [(j,le)])∧c'.B j=c.B i∧(∀ b,c'.own b→c.own b):=by
 let c':Cx:=⟨c.w,fun k=>if k=j then c.B i else .none,c.O⟩
 have bN:∀ b,c'.own b→c.own b:=by
  rintro b ⟨k,be,h1,h2⟩
  simp only [c'] at h1
  split at h1
  ·exact ⟨i,be,h1,h2⟩
  ·cases h1
 have hle:c.Le c':=⟨Nat.le_refl _,fun b _ hX=>⟨rfl,fun Li=>hX (Li.imp (fun h=>h) (bN b))⟩⟩
 refine ⟨c',rfl,rfl,⟨fun k=>?_,?_,fun b ho=>hm.jT b (bN b ho),hm.vu⟩,by simp [c'],bN⟩
 ·by_cases hk:k=j
  ·subst hk
   have he:=hm.gH i
   have hb:c'.B k=c.B i:=by simp [c']
   rw [hb]
   simp only [Mem.of,if_true] at he ⊢
   cases le with
   | box cs =>
    simp only [bJ] at he ⊢
    obtain ⟨b,us,e,h1,h2,h3,h4⟩:=he
    exact ⟨b,us,e,h1,h2,aE.mono hle cs us (fun q hq=>by rw [az cs hp] at hq; cases hq) h3,h4⟩
   | arr e k' xs =>
    simp only [bJ] at he ⊢
    obtain ⟨u,us,h1,h0,h2,h3,h4,h5⟩:=he
    exact ⟨u,us,h1,h0,h2,aE.mono hle xs us (fun q hq=>by rw [az xs h5] at hq; cases hq) h3,h4,h5⟩
   | nest e k' os xs =>
    simp only [bJ] at he ⊢
    obtain ⟨u,us,bs,h1,h0,h2,h3,h4⟩:=he
    exact ⟨u,us,bs,h1,h0,h2,h3.mono hle (fun b _=>rfl),h4⟩
   | de _ _ _ _ _ _ _ _=>cases hp
   | dead=>simpa only [bJ] using he
   | map kt vt es =>
    simp only [bJ] at he ⊢
    obtain ⟨b,j3,ck,h1,h2,h3,h4,h5,h6,h7⟩:=he
    exact ⟨b,j3,ck,h1,h2,aE.mono hle _ _ (fun j hj=>by rw [az _ h5] at hj; cases hj) h3,aE.mono hle _ _ (fun j hj=>by rw [az _ h6] at hj; cases hj) h4,h5,h6,h7⟩
  ·simp [Mem.of,hk,bJ,c']
 ·intro k k' be dK b h1 h2 h3 h4
  simp only [c'] at h1 h2
  split at h1
  ·rename_i hk
   split at h2
   ·rename_i KP; rw [hk,KP]
   ·cases h2
  ·cases h1
theorem aF.Gw {P:Program} {f:Nat} {args:List LV} {i o:Nat} {le:LE} (j:Nat) (hp:(match le with | .box cs=>LV.bt cs | .arr _ _ _=>true | .map _ _ _=>true | .nest _ _ _ _=>true | .de _ _ _ _ _ _ _ _=>false | .dead=>true)=true) (h:aF P f args Mem.none (.ptr i o) (Mem.of [(i,le)])):aF P f args Mem.none (.ptr j o) (Mem.of [(j,le)]):=by
 intro c vs hm ha
 refine (h c vs hm ha).mono ?_
 rintro en w' ⟨v,c1,rfl,rfl,k5,iR,hg⟩
 obtain ⟨c2,hw,hO,lp,hB,bN⟩:=Bt (j:=j) hp k5
 refine ⟨v,c2,rfl,hw,lp,?_,⟨by rw [hO,hg.O],by rw [hw]; exact hg.os,by rw [hw]; exact hg.tape,by rw [hw]; exact hg.output,by rw [hw]; exact hg.drawn,by rw [hw]; exact hg.size,fun b hb ho=>by rw [hw]; exact hg.gT b hb ho,fun b ho=>hg.own b (bN b ho),fun id be hp=>absurd rfl hp⟩⟩
 simp only [ar] at iR ⊢
 rw [hB]; exact iR
theorem tm.RZ {P:Program} {f:Nat} {args:List LV} {lv:LV} (h:tm P f args lv) (hp:LV.bt args=true) (m:Mem) {K:LV→Mem→Prop} (hK:K lv m):DV P f args m K:=by
 refine ⟨lv,Mem.none,Mem.none,h,fun id cj=>absurd rfl cj,fun id _ cj=>absurd rfl cj,fun id cj=>?_,(fun id cs cj=>by cases cj),by rw [Mem.wX]; exact hK⟩
 rw [az args hp] at cj; cases cj
theorem tm.calls {P:Program} {f:Nat} {args:List LV} {lv:LV} (h:tm P f args lv) (w:World) (vs:List Value) (ha:aE ⟨w,fun _=>.none,fun _=>False⟩ args vs) :
  Calls P f vs.toArray w fun en w'=>(∃ v c',en=.returned v∧c'.w=w'∧ar c' lv v)∧RowKit.Below w.heap.size w w':=by
 have hm:cG ⟨w,fun _=>.none,fun _=>False⟩ Mem.none :=
  ⟨fun id=>rfl,fun i i' be dK b h1=>by simp at h1,fun b ho=>fun h=>h,fun b h=>h.elim⟩
 refine (h _ vs hm ha).mono ?_
 rintro en w' ⟨v,c',he,rfl,_,hv,hg⟩
 refine ⟨⟨v,c',he,rfl,hv⟩,hg.os,hg.tape,hg.output,hg.size,fun b hb=>hg.gT b hb ?_⟩
 rintro ⟨id,be,h1,_⟩
 simp at h1
end Go.L
namespace Go.L
section
variable {P:Program} {N:Nat} {pr:Nat→Prop} {ro:List Nat} {ops:Array Oper} {e:Env} {m:Mem} {ev:Operand→LV} {d:Option Nat} {ty:TypeId} {pos:String} {af:Array Edge} {g:Option (Nat × Bool)}
theorem o9 (op:Op) (j:Nat) (want:Bool) (K:Env→Mem→Prop):DW P pr ro ops ⟨d,op,ty,pos,af,some (j,want)⟩ K e m=match (ops[j]?).bind (·.dst) with
  | some q=>match e q with
   | .bool t=>if t=want then LOp P pr ro ⟨d,op,ty,pos,af,some (j,want)⟩ (cP e) m fun lv m'=>K (e.fW d lv) m' else K (e.fW d (.tup [])) m
   | .tup []=>K (e.fW d (.tup [])) m
   | _=>False
  | .none=>False:=rfl
section ops
variable {K:LV→Mem→Prop}
@[go_sem] theorem LOp_move (x:Operand):LOp P pr ro ⟨d,.move x,ty,pos,af,g⟩ ev m K=K (ev x) m:=rfl
@[go_sem] theorem LOp_assign (x:Operand):LOp P pr ro ⟨d,.assign x,ty,pos,af,g⟩ ev m K=K (ev x) m:=rfl
@[go_sem] theorem LOp_pick (c a b:Operand):LOp P pr ro ⟨d,.pick c a b,ty,pos,af,g⟩ ev m K=match ev c with | .bool t=>K (if t then ev a else ev b) m | _=>False:=rfl
@[go_sem] theorem LOp_alloc (t:TypeId) (i:Nat):LOp P pr ro ⟨some i,.alloc t,ty,pos,af,g⟩ ev m K=match tzero P t with
  | some z=>m (100+i)=.none∧K (.ptr (100+i) 0) (m.put (100+i) (.box z.cells))
  | .none=>False:=by
 simp only [LOp]; cases tzero P t <;> rfl
@[go_sem] theorem LOp_box (t:TypeId) (x:Operand) (i:Nat):LOp P pr ro ⟨some i,.box t x,ty,pos,af,g⟩ ev m K=((ev x).cells.all LV.scalar=true ∧
      if ro.contains i=true then K (.sptr (ev x).cells) m
      else m (100+i)=.none∧K (.ptr (100+i) 0) (m.put (100+i) (.box (ev x).cells))):=rfl
@[go_sem] theorem LOp_build (t:TypeId) (l:List (Nat × Operand)):LOp P pr ro ⟨d,.build t l.toArray,ty,pos,af,g⟩ ev m K=(tbuild P t=true∧match tzero P t with
  | some (.agg z)=>match nj P t z (l.map fun p=>(p.1,ev p.2)) with
   | some cs=>K (.agg cs) m
   | .none=>False
  | _=>False):=rfl
@[go_sem] theorem LOp_buildSlice (t:TypeId) (len:Nat) (l:List (Nat × Operand)):LOp P pr ro ⟨d,.buildSlice t len l.toArray,ty,pos,af,g⟩ ev m K=match telem P t with
  | some e=>fQ P e=true∧len * tsize P e≤16777216∧l.map (·.1)=List.range len∧rU (tsize P e) (l.map fun p=>ev p.2)∧K (.lst (tsize P e) (l.map fun p=>ev p.2)) m
  | .none=>False:=rfl
@[go_sem] theorem LOp_load (t:TypeId) (a:Operand):LOp P pr ro ⟨d,.load t a,ty,pos,af,g⟩ ev m K=match ev a with
  | .sptr cs=>loadC P t cs fun lv=>K lv m
  | .ptr id o=>match m id with
   | some (.box cs)=>o≤cs.length∧loadC P t (cs.drop o) fun lv=>K lv m
   | _=>False
  | .eptr id n i o=>match m id with
   | some (.arr _ _ xs)=>n=xs.length∧∃ x,xs[i]?=some x∧x.cells.all LV.scalar=true∧o≤x.cells.length∧loadC P t (x.cells.drop o) fun lv=>K lv m
   | _=>False
  | _=>False:=rfl
@[go_sem] theorem LOp_store (t:TypeId) (a x:Operand):LOp P pr ro ⟨d,.store t a x,ty,pos,af,g⟩ ev m K=((ev x).cells.all LV.scalar=true∧tok P t=true∧tsize P t=(ev x).cells.length∧match ev a with
  | .ptr id o=>match m id with
   | some (.box cs)=>o+(ev x).cells.length≤cs.length∧K .fg (m.put id (.box (rep cs o (ev x).cells)))
   | _=>False
  | .eptr id n i o=>match m id with
   | some (.arr e k xs)=>n=xs.length∧LV.bt (ev x).cells=true∧∃ y z,xs[i]?=some y∧By y o (ev x)=some z∧K .fg (m.put id (.arr e k (xs.set i z)))
   | _=>False
  | _=>False):=rfl
@[go_sem] theorem LOp_nilCheck (x:Operand):LOp P pr ro ⟨d,.nilCheck x,ty,pos,af,g⟩ ev m K=match ev x with
  | .ptr _ _=>K (ev x) m
  | .sptr _=>K (ev x) m
  | .eptr id n _ _=>(match m id with | some (.arr _ _ xs)=>n=xs.length | _=>False)∧K (ev x) m
  | .fn _ _=>K (ev x) m
  | _=>False:=rfl
@[go_sem] theorem LOp_binOp (op:BinOp) (t t':TypeId) (x y:Operand):LOp P pr ro ⟨d,.binOp op t x y t',ty,pos,af,g⟩ ev m K=match ev x,ev y with
  | .int k a,.int k' b=>k=k'∧pB op k a b fun lv=>K lv m
  | .bool a,.bool b=>xK P t=true∧(match op with | .eql=>K (.bool (a == b)) m | .neq=>K (.bool (!(a == b))) m | _=>False)
  | .agg xs,.agg ys=>∃ b,pV P t xs ys b∧(match op with | .eql=>K (.bool b) m | .neq=>K (.bool (!b)) m | _=>False)
  | _,_=>False:=rfl
@[go_sem] theorem LOp_not (t:TypeId) (x:Operand):LOp P pr ro ⟨d,.unOp .not t x,ty,pos,af,g⟩ ev m K=match ev x with
  | .bool b=>K (.bool (!b)) m
  | _=>False:=by
 simp only [LOp]; cases ev x <;> rfl
@[go_sem] theorem LOp_convert (s t:TypeId) (x:Operand):LOp P pr ro ⟨d,.convert s t x,ty,pos,af,g⟩ ev m K=(tok P s=true∧match tint P t,ev x with
  | some k,.int _ n=>K (.int k (k.wrap n)) m
  | _,_=>False):=rfl
@[go_sem] theorem LOp_slice (t:TypeId) (x:Operand) (lo hi mx:Option Operand):LOp P pr ro ⟨d,.slice t x lo hi mx,ty,pos,af,g⟩ ev m K=((telem P t).isSome=true∧tok P ((telem P t).getD 0)=true∧mx=.none∧match ev x with
  | .lst k xs=>some k=(telem P t).map (tsize P)∧∃ l h:Nat,(match lo with | .none=>l=0 | some y=>ev y=.int .i64 l)∧(match hi with | .none=>h=xs.length | some y=>ev y=.int .i64 h) ∧
    l≤h∧h≤xs.length∧K (.lst k ((xs.take h).drop l)) m
  | .nil=>(match lo with | .none=>True | some y=>ev y=.int .i64 0)∧(match hi with | .none=>True | some y=>ev y=.int .i64 0)∧K .nil m
  | _=>False):=rfl
@[go_sem] theorem LOp_fieldAddr (t:TypeId) (x:Operand) (f:Nat):LOp P pr ro ⟨d,.fieldAddr t x f,ty,pos,af,g⟩ ev m K=match tfield P t f with
  | some (off,ft)=>tok P ft=true∧tsize P ft ≠ 0∧match ev x with
   | .sptr cs=>off≤cs.length∧K (.sptr (cs.drop off)) m
   | .ptr id o=>K (.ptr id (o+off)) m
   | .eptr id n i o=>(match m id with | some (.arr _ _ xs)=>n=xs.length | _=>False)∧K (.eptr id n i (o+off)) m
   | _=>False
  | .none=>False:=rfl
@[go_sem] theorem LOp_indexAddr (t:TypeId) (x i:Operand):LOp P pr ro ⟨d,.indexAddr t x i,ty,pos,af,g⟩ ev m K=match telem P t,ev x,ev i with
  | some e,.lst k xs,.int _ n=>tok P e=true∧k=tsize P e∧0≤n∧∃ y,xs[n.toNat]?=some y∧y.cells.all LV.scalar=true∧K (.sptr y.cells) m
  | some e,.arr id l,.int _ n=>match m id with
   | some (.arr _ k xs)=>tok P e=true∧l=xs.length∧k=tsize P e∧0≤n∧n<l∧K (.eptr id l n.toNat 0) m
   | _=>False
  | _,_,_=>False:=rfl
@[go_sem] theorem LOp_extract (t:Operand) (i:Nat):LOp P pr ro ⟨d,.extract t i,ty,pos,af,g⟩ ev m K=match ev t with
  | .tup vs=>∃ v,vs[i]?=some v∧K v m
  | _=>False:=rfl
@[go_sem] theorem LOp_makeFunc (f:Nat) (cap:List Operand):LOp P pr ro ⟨d,.makeFunc (.func f) #[] cap.toArray,ty,pos,af,g⟩ ev m K=K (.fn f (cap.map ev)) m:=by
 simp [LOp]
@[go_sem] theorem LOp_makeSlice (t:TypeId) (l c:Operand) (i:Nat):LOp P pr ro ⟨some i,.makeSlice t l c,ty,pos,af,g⟩ ev m K=match telem P t,tzero P ((telem P t).getD 0),ev l,ev c,some i with
  | some e,some z,.int .i64 n,.int .i64 n',some d=>n=n'∧0≤n∧n≤549755813888∧fQ P e=true∧z.pure=true∧m (100+d)=.none ∧
    K (.arr (100+d) n.toNat) (m.put (100+d) (.arr e (tsize P e) (List.replicate n.toNat z)))
  | _,_,_,_,_=>False:=rfl
@[go_sem] theorem LOp_len (x:Operand) (t:TypeId):LOp P pr ro ⟨d,.call ⟨.builtin .len,#[x],#[t]⟩,ty,pos,af,g⟩ ev m K=((telem P t).isSome=true∧match ev x with
        | .lst _ xs=>K (.int .i64 xs.length) m
        | .nil=>K (.int .i64 0) m
        | .arr id n=>(match m id with | some (.arr _ _ xs)=>n=xs.length | _=>False)∧K (.int .i64 n) m
        | _=>False):=rfl
def zf (P:Program) (pr:Nat→Prop) (m:Mem) (i e:Nat) (x:LV) (K:LV→Mem→Prop) (ys:List LV):Prop :=
 match x with
 | .arr id n=>¬ pr id∧match m id with
  | some (.arr e' k xs)=>e'=e∧k=tsize P e∧n=xs.length∧xs.length+ys.length≤549755813888∧K (.arr id (n+ys.length)) (m.put id (.arr e k (xs++ys)))
  | _=>False
 | .nil=>m (100+i)=.none∧ys.length≤549755813888∧K (.arr (100+i) ys.length) (m.put (100+i) (.arr e (tsize P e) ys))
 | _=>False
attribute [go_sem] zf
@[go_sem] theorem LOp_append (x y:Operand) (t t':TypeId) (i:Nat):LOp P pr ro ⟨some i,.call ⟨.builtin .append,#[x,y],#[t,t']⟩,ty,pos,af,g⟩ ev m K=(t=t'∧match telem P t with
        | some e=>fQ P e=true∧match ev y with
          | .lst k ys=>k=tsize P e∧zf P pr m i e (ev x) K ys
          | .nil=>zf P pr m i e (ev x) K []
          | _=>False
        | .none=>False):=by
  have h0:LOp P pr ro ⟨some i,.call ⟨.builtin .append,#[x,y],#[t,t']⟩,ty,pos,af,g⟩ ev m K=(t=t'∧match telem P t with
        | some e=>fQ P e=true∧∃ ys,(ev y=.lst (tsize P e) ys ∨ (ev y=.nil∧ys=[]))∧zf P pr m i e (ev x) K ys
        | .none=>False):=rfl
  rw [h0]
  cases telem P t with
  | none=>rfl
  | some e =>
    simp only
    congr 2
    cases hy:ev y <;> simp
    case lst k ys =>
      constructor
      · rintro ⟨zs,⟨rfl,rfl⟩,h⟩; exact ⟨rfl,h⟩
      · rintro ⟨rfl,h⟩; exact ⟨ys,⟨rfl,rfl⟩,h⟩
@[go_sem] theorem LOp_call (x:Operand) (l:List Operand) (ts:Array TypeId):LOp P pr ro ⟨d,.call ⟨.value x,l.toArray,ts⟩,ty,pos,af,g⟩ ev m K=match ev x with
      | .fn f cap => (∃ fn, P.funcs[f]? = some fn ∧ (fn.name == "runtime.NumGoroutine") = false ∧ fn.body.isNone = false) ∧ DV P f (l.map ev ++ cap) m K
      | _=>False:=rfl
end ops
attribute [go_sem] LV.refs LV.a8 LV.cells pB rep nj LV.scalar LV.pure LV.bt Gd yv By iS oneOf List.all_cons List.all_nil List.map_cons List.map_nil List.drop_zero List.drop_succ_cons List.drop_nil List.take_succ_cons List.take_zero List.take_nil List.length_cons List.length_nil List.nil_append List.cons_append List.getElem?_cons_zero List.getElem?_cons_succ Bool.and_true Bool.true_and Bool.and_self List.getD_cons_zero List.getD_cons_succ List.getD_nil
@[go_sem] theorem loadC_def (t:TypeId) (cs:List LV) (K:LV→Prop):loadC P t cs K=(tok P t=true∧if tagg P t=true then tsize P t≤cs.length∧K (.agg (cs.take (tsize P t))) else match cs with | x :: _=>K x | []=>False):=rfl
def j8 (m:Mem):List (Nat × LE)→Prop
 | []=>True
 | (i,v) :: r=>m i=some v∧j8 m r
theorem j8.all:∀ {l:List (Nat × LE)},j8 m l→∀ p ∈ l,m p.1=some p.2
 | [],_,p,hp=>by cases hp
 | (i,v) :: r,h,p,hp=>by
  rcases List.mem_cons.1 hp with rfl | hp
  ·exact h.1
  ·exact j8.all h.2 p hp
theorem LH.mid {x y:Code} {Q:Exit→Env→Mem→Prop} (M:Env→Mem→Prop) (h1:LH P N pr x (BK M Q) e m) (h2:∀ e m,M e m→LH P N pr y Q e m):LH P N pr (.seq x y) Q e m :=
 LH.seq (h1.mono fun ex e m h=>by cases ex <;> first | exact h2 e m h | exact h)
theorem aF.My {f:Nat} {args:List LV} {lv:LV} {ml cS:List (Nat × LE)} {K:LV→Mem→Prop} (h:aF P f args (Mem.of ml) lv (Mem.of cS)) (hm:j8 m ml) (oT:∀ p ∈ cS,(ml.any fun q=>q.1 == p.1)=true ∨ m p.1=.none) (hargs:av (args.map fun x=>(0,x)) ml=true) (hK:K lv (m.over (Mem.of cS))):DV P f args m K:=by
 simp only [av,Bool.and_eq_true,List.all_eq_true] at hargs
 refine ⟨lv,_,_,h,fun i hi=>?_,fun i hi fD=>?_,fun i hi=>?_,fun i cs hi j hj=>?_,hK⟩
 ·cases hq:Mem.of ml i with
  | none=>exact absurd hq hi
  | some le=>exact hm.all _ (dS hq)
 ·cases hq:Mem.of cS i with
  | none=>exact absurd hq fD
  | some le =>
   rcases oT _ (dS hq) with h1 | h1
   ·exact absurd hi (eL h1)
   ·exact h1
 ·have key:∀ (l:List LV),LV.cD i l=false→∃ x ∈ l,i ∈ x.refs:=by
   intro l
   induction l with
   | nil=>intro h; simp [LV.cD] at h
   | cons x l ih =>
    intro h
    simp only [LV.cD,Bool.and_eq_false_iff] at h
    rcases h with h | h
    ·exact ⟨x,by simp,jm x h⟩
    ·obtain ⟨y,hy,hr⟩:=ih h
     exact ⟨y,by simp [hy],hr⟩
  obtain ⟨x,hx,hr⟩:=key args hi
  exact eL (hargs.1 (0,x) (List.mem_map.2 ⟨x,hx,rfl⟩) i hr)
 ·have h2:=hargs.2 _ (dS hi)
  cases cs with
  | box cs =>
   simp only [List.all_eq_true] at h2
   exact eL (h2 j (dw cs hj))
  | de _ _ _ _ _ _ id2 _ =>
   simp only [LE.iU,bne_eq_false_iff_eq] at hj
   subst hj
   exact eL h2
  | _=>simp [LE.iU] at hj
end
end Go.L
namespace Go.L
section
variable {P:Program} {N:Nat} {pr:Nat→Prop} {ro:List Nat} {o:Oper} {ev La:Operand→LV} {m:Mem} {K:LV→Mem→Prop}
theorem oE {t:TypeId} {cs:List LV} {K:LV→Prop} (h:loadC P t cs K):∃ lv,K lv∧∀ K':LV→Prop,K' lv→loadC P t cs K':=by
 obtain ⟨ht,h⟩:=h
 by_cases hg:tagg P t=true
 ·rw [if_pos hg] at h
  exact ⟨_,h.2,fun K' hK=>⟨ht,by rw [if_pos hg]; exact ⟨h.1,hK⟩⟩⟩
 ·rw [if_neg hg] at h
  match cs,h with
  | x :: cs,h=>exact ⟨x,h,fun K' hK=>⟨ht,by rw [if_neg hg]; exact hK⟩⟩
theorem CO {op:BinOp} {k:IntKind} {a b:Int} {K:LV→Prop} (h:pB op k a b K):∃ lv,K lv∧∀ K':LV→Prop,K' lv→pB op k a b K':=by
 cases op <;> simp only [pB] at h ⊢ <;> first | exact h.elim | exact ⟨_,h,fun K' hK=>hK⟩ | exact ⟨_,h.2,fun K' hK=>⟨h.1,hK⟩⟩
theorem Af {m:Mem} {id:Nat} {x:LE}:m.put id x ≠ Mem.none:=fun h=>by
 have:=congrFun h id
 simp [Mem.put,Mem.none] at this
theorem xU (h:LOp P pr ro o ev m K):∃ lv m',K lv m'∧(∀ K':LV→Mem→Prop,K' lv m'→LOp P pr ro o ev m K')∧(m=Mem.none→m'=Mem.none→∀ m0,∀ K':LV→Mem→Prop,K' lv m0→LOp P pr ro o ev m0 K'):=by
 have plain:∀ lv,K lv m→(∀ m0,∀ K':LV→Mem→Prop,K' lv m0→LOp P pr ro o ev m0 K')→∃ lv m',K lv m'∧(∀ K':LV→Mem→Prop,K' lv m'→LOp P pr ro o ev m K')∧(m=Mem.none→m'=Mem.none→∀ m0,∀ K':LV→Mem→Prop,K' lv m0→LOp P pr ro o ev m0 K') :=
  fun lv hK nw=>⟨lv,m,hK,fun K' yf=>nw m K' yf,fun _ _=>nw⟩
 have reader:∀ lv,K lv m→(∀ K':LV→Mem→Prop,K' lv m→LOp P pr ro o ev m K')→(m=Mem.none→False)→∃ lv m',K lv m'∧(∀ K':LV→Mem→Prop,K' lv m'→LOp P pr ro o ev m K')∧(m=Mem.none→m'=Mem.none→∀ m0,∀ K':LV→Mem→Prop,K' lv m0→LOp P pr ro o ev m0 K') :=
  fun lv hK nw hn=>⟨lv,m,hK,nw,fun h0=>(hn h0).elim⟩
 have writer:∀ lv id x,K lv (m.put id x)→(∀ K':LV→Mem→Prop,K' lv (m.put id x)→LOp P pr ro o ev m K')→∃ lv m',K lv m'∧(∀ K':LV→Mem→Prop,K' lv m'→LOp P pr ro o ev m K')∧(m=Mem.none→m'=Mem.none→∀ m0,∀ K':LV→Mem→Prop,K' lv m0→LOp P pr ro o ev m0 K') :=
  fun lv id x hK nw=>⟨lv,_,hK,nw,fun _ h0=>absurd h0 Af⟩
 obtain ⟨d,op,ty,pos,af,g⟩:=o
 cases op
 case move x=>exact plain _ h fun m0 K' hK=>hK
 case assign x=>exact plain _ h fun m0 K' hK=>hK
 case pick c a b =>
  simp only [LOp] at h
  cases hc:ev c <;> simp only [hc] at h
  case bool t=>exact plain _ h fun m0 K' hK=>by simp only [LOp,hc]; exact hK
 case alloc t =>
  simp only [LOp] at h
  split at h
  ·rename_i z i hz
   exact writer _ _ _ h.2 fun K' hK=>by simp only [LOp,hz]; exact ⟨h.1,hK⟩
  ·cases h
 case box t x =>
  simp only [LOp] at h
  split at h
  ·rename_i i
   obtain ⟨hs,h⟩:=h
   split at h
   ·rename_i vv
    exact plain _ h fun m0 K' hK=>by simp only [LOp]; exact ⟨hs,by rw [if_pos vv]; exact hK⟩
   ·rename_i vv
    exact writer _ _ _ h.2 fun K' hK=>by simp only [LOp]; exact ⟨hs,by rw [if_neg vv]; exact ⟨h.1,hK⟩⟩
  ·cases h
 case build t parts =>
  simp only [LOp] at h
  obtain ⟨RB,h⟩:=h
  split at h
  ·rename_i z hz
   split at h
   ·rename_i cs hf
    exact plain _ h fun m0 K' hK=>by simp only [LOp,hz,hf]; exact ⟨RB,hK⟩
   ·cases h
  ·cases h
 case buildSlice t len parts =>
  simp only [LOp] at h
  cases kB:telem P t <;> simp only [kB] at h
  case some e =>
   obtain ⟨h1,h2,h3,h4,hK⟩:=h
   exact plain _ hK fun m0 K' hK=>by simp only [LOp,kB]; exact ⟨h1,h2,h3,h4,hK⟩
 case load t a =>
  simp only [LOp] at h
  cases hx:ev a <;> simp only [hx] at h
  case sptr cs =>
   obtain ⟨lv,hK,hl⟩:=oE h
   exact plain lv hK fun m0 K' yf=>by simp only [LOp,hx]; exact hl _ yf
  case ptr id o =>
   cases hm:m id with
   | none=>simp [hm] at h
   | some le =>
    cases le with
    | map _ _ _=>simp [hm] at h
    | nest _ _ _ _=>simp [hm] at h
    | de _ _ _ _ _ _ _ _=>simp [hm] at h
    | dead=>simp [hm] at h
    | arr e k xs=>simp [hm] at h
    | box cs =>
     simp only [hm] at h
     obtain ⟨ho,h⟩:=h
     obtain ⟨lv,hK,hl⟩:=oE h
     exact reader lv hK (fun K' yf=>by simp only [LOp,hx,hm]; exact ⟨ho,hl _ yf⟩) (fun h0=>by rw [h0] at hm; cases hm)
  case eptr id n i o =>
   cases hm:m id with
   | none=>simp [hm] at h
   | some le =>
    cases le with
    | map _ _ _=>simp [hm] at h
    | nest _ _ _ _=>simp [hm] at h
    | de _ _ _ _ _ _ _ _=>simp [hm] at h
    | dead=>simp [hm] at h
    | box cs=>simp [hm] at h
    | arr e k xs =>
     simp only [hm] at h
     obtain ⟨h1,x,h2,h3,h4,h⟩:=h
     obtain ⟨lv,hK,hl⟩:=oE h
     exact reader lv hK (fun K' yf=>by simp only [LOp,hx,hm]; exact ⟨h1,x,h2,h3,h4,hl _ yf⟩) (fun h0=>by rw [h0] at hm; cases hm)
 case store t a x =>
  simp only [LOp] at h
  obtain ⟨h1,h2,h3,h⟩:=h
  cases hx:ev a <;> simp only [hx] at h
  case ptr id o =>
   cases hm:m id with
   | none=>simp [hm] at h
   | some le =>
    cases le with
    | map _ _ _=>simp [hm] at h
    | nest _ _ _ _=>simp [hm] at h
    | de _ _ _ _ _ _ _ _=>simp [hm] at h
    | dead=>simp [hm] at h
    | arr e k xs=>simp [hm] at h
    | box cs =>
     simp only [hm] at h
     exact writer _ _ _ h.2 fun K' hK=>by simp only [LOp,hx,hm]; exact ⟨h1,h2,h3,h.1,hK⟩
  case eptr id n i o =>
   cases hm:m id with
   | none=>simp [hm] at h
   | some le =>
    cases le with
    | map _ _ _=>simp [hm] at h
    | nest _ _ _ _=>simp [hm] at h
    | de _ _ _ _ _ _ _ _=>simp [hm] at h
    | dead=>simp [hm] at h
    | box cs=>simp [hm] at h
    | arr e k xs =>
     simp only [hm] at h
     obtain ⟨h4,h5,y,z,h6,h7,hK⟩:=h
     exact writer _ _ _ hK fun K' hK=>by simp only [LOp,hx,hm]; exact ⟨h1,h2,h3,h4,h5,y,z,h6,h7,hK⟩
 case nilCheck x =>
  simp only [LOp] at h
  cases hx:ev x <;> simp only [hx] at h
  case ptr=>exact plain _ h fun m0 K' hK=>by simp only [LOp,hx]; exact hK
  case sptr=>exact plain _ h fun m0 K' hK=>by simp only [LOp,hx]; exact hK
  case fn=>exact plain _ h fun m0 K' hK=>by simp only [LOp,hx]; exact hK
  case eptr id n i o =>
   obtain ⟨h1,hK⟩:=h
   refine reader _ hK (fun K' hK=>by simp only [LOp,hx]; exact ⟨h1,hK⟩) (fun h0=>?_)
   rw [h0] at h1; simp [Mem.none] at h1
 case binOp op t x y t' =>
  simp only [LOp] at h
  cases hx:ev x <;> simp only [hx] at h
  case int k a =>
   cases hy:ev y <;> simp only [hy] at h
   case int k' b =>
    obtain ⟨h1,h⟩:=h
    obtain ⟨lv,hK,hl⟩:=CO h
    exact plain lv hK fun m0 K' yf=>by simp only [LOp,hx,hy]; exact ⟨h1,hl _ yf⟩
  case bool a =>
   cases hy:ev y <;> simp only [hy] at h
   case bool b =>
    obtain ⟨h1,h⟩:=h
    cases op <;> simp only [] at h
    case eql=>exact plain _ h fun m0 K' hK=>by simp only [LOp,hx,hy]; exact ⟨h1,hK⟩
    case neq=>exact plain _ h fun m0 K' hK=>by simp only [LOp,hx,hy]; exact ⟨h1,hK⟩
  case agg xs =>
   cases hy:ev y <;> simp only [hy] at h
   case agg ys =>
    obtain ⟨b,h1,h⟩:=h
    cases op <;> simp only [] at h
    case eql=>exact plain _ h fun m0 K' hK=>by simp only [LOp,hx,hy]; exact ⟨b,h1,hK⟩
    case neq=>exact plain _ h fun m0 K' hK=>by simp only [LOp,hx,hy]; exact ⟨b,h1,hK⟩
 case unOp op t x =>
  simp only [LOp] at h
  cases op <;> cases hx:ev x <;> simp only [hx] at h
  case neg.int=>exact plain _ h fun m0 K' hK=>by simp only [LOp,hx]; exact hK
  case not.bool=>exact plain _ h fun m0 K' hK=>by simp only [LOp,hx]; exact hK
 case convert s t x =>
  simp only [LOp] at h
  obtain ⟨h1,h⟩:=h
  cases ht:tint P t <;> simp only [ht] at h
  case some k =>
   cases hx:ev x <;> simp only [hx] at h
   case int=>exact plain _ h fun m0 K' hK=>by simp only [LOp,ht,hx]; exact ⟨h1,hK⟩
 case slice t x lo hi mx =>
  simp only [LOp] at h
  obtain ⟨h1,h2,h3,h⟩:=h
  cases hx:ev x <;> simp only [hx] at h
  case lst k xs =>
   obtain ⟨h4,l,q,h5,h6,h7,h8,hK⟩:=h
   exact plain _ hK fun m0 K' hK=>by simp only [LOp,hx]; exact ⟨h1,h2,h3,h4,l,q,h5,h6,h7,h8,hK⟩
  case nil =>
   obtain ⟨h5,h6,hK⟩:=h
   exact plain _ hK fun m0 K' hK=>by simp only [LOp,hx]; exact ⟨h1,h2,h3,h5,h6,hK⟩
 case fieldAddr t x f =>
  simp only [LOp] at h
  cases oB:tfield P t f <;> simp only [oB] at h
  case some q =>
   obtain ⟨off,ft⟩:=q
   obtain ⟨h1,h2,h⟩:=h
   cases hx:ev x <;> simp only [hx] at h
   case sptr cs=>exact plain _ h.2 fun m0 K' hK=>by simp only [LOp,oB,hx]; exact ⟨h1,h2,h.1,hK⟩
   case ptr=>exact plain _ h fun m0 K' hK=>by simp only [LOp,oB,hx]; exact ⟨h1,h2,hK⟩
   case eptr id n i o =>
    obtain ⟨h3,hK⟩:=h
    refine reader _ hK (fun K' hK=>by simp only [LOp,oB,hx]; exact ⟨h1,h2,h3,hK⟩) (fun h0=>?_)
    rw [h0] at h3; simp [Mem.none] at h3
 case field t x f =>
  simp only [LOp] at h
  cases oB:tfield P t f <;> simp only [oB] at h
  case some q =>
   obtain ⟨off,ft⟩:=q
   cases hx:ev x <;> simp only [hx] at h
   case agg cs =>
    obtain ⟨h1,h⟩:=h
    obtain ⟨lv,hK,hl⟩:=oE h
    exact plain lv hK fun m0 K' yf=>by simp only [LOp,oB,hx]; exact ⟨h1,hl _ yf⟩
 case indexAddr t x i =>
  simp only [LOp] at h
  cases kB:telem P t <;> simp only [kB] at h
  case some e =>
   cases hx:ev x <;> simp only [hx] at h
   case lst k xs =>
    cases hi:ev i <;> simp only [hi] at h
    case int ki n =>
     obtain ⟨h1,h2,h3,y,h4,h5,hK⟩:=h
     exact plain _ hK fun m0 K' hK=>by simp only [LOp,kB,hx,hi]; exact ⟨h1,h2,h3,y,h4,h5,hK⟩
   case arr id l =>
    cases hi:ev i <;> simp only [hi] at h
    case int ki n =>
     cases hm:m id with
     | none=>simp [hm] at h
     | some le =>
      cases le with
      | map _ _ _=>simp [hm] at h
      | nest _ _ _ _=>simp [hm] at h
      | de _ _ _ _ _ _ _ _=>simp [hm] at h
      | dead=>simp [hm] at h
      | box cs=>simp [hm] at h
      | arr e' k xs =>
       simp only [hm] at h
       obtain ⟨h1,h2,h3,h4,h5,hK⟩:=h
       exact reader _ hK (fun K' hK=>by simp only [LOp,kB,hx,hi,hm]; exact ⟨h1,h2,h3,h4,h5,hK⟩) (fun h0=>by rw [h0] at hm; cases hm)
 case extract t i =>
  simp only [LOp] at h
  cases hx:ev t <;> simp only [hx] at h
  case tup vs =>
   obtain ⟨v,h1,hK⟩:=h
   exact plain _ hK fun m0 K' hK=>by simp only [LOp,hx]; exact ⟨v,h1,hK⟩
 case makeFunc f first cap =>
  simp only [LOp] at h
  cases f <;> simp only [] at h
  case func f=>exact plain _ h.2 fun m0 K' hK=>by simp only [LOp]; exact ⟨h.1,hK⟩
 case makeSlice t l c =>
  simp only [LOp] at h
  split at h
  ·rename_i e z n n' i kB hz hx hy
   obtain ⟨h1,h2,h3,h4,h5,h6,hK⟩:=h
   refine writer _ _ _ hK fun K' hK=>?_
   rw [kB] at hz
   simp only [LOp,kB,hz,hx,hy]
   exact ⟨h1,h2,h3,h4,h5,h6,hK⟩
  ·cases h
 case call c =>
  obtain ⟨callee,args,Rg⟩:=c
  cases callee
  case value x =>
   simp only [LOp] at h
   cases hx:ev x <;> simp only [hx] at h
   case fn f cap =>
    obtain ⟨VI,lv,mc,iN,hc,h1,h2,h3,h4,hK⟩:=h
    refine ⟨lv,_,hK,fun K' yf=>by simp only [LOp,hx]; exact ⟨VI,lv,mc,iN,hc,h1,h2,h3,h4,yf⟩,fun qb j6 m0 K' yf=>?_⟩
    subst qb
    have e1:mc=Mem.none:=by
     funext id
     cases hq:mc id with
     | none=>rfl
     | some le=>have:=h1 id (by simp [hq]); rw [hq] at this; cases this
    have e2:iN=Mem.none:=by
     funext id
     have:=congrFun j6 id
     unfold Mem.over at this
     cases hq:iN id with
     | none=>rfl
     | some le=>simp [hq,Mem.none] at this
    subst e1; subst e2
    simp only [LOp,hx]
    exact ⟨VI,lv,Mem.none,Mem.none,hc,fun id cj=>absurd rfl cj,fun id _ cj=>absurd rfl cj,h3,h4,by rw [Mem.wX]; exact yf⟩
  case builtin b =>
   cases b
   case len =>
    simp only [LOp] at h
    split at h
    ·rename_i x t hargs vS
     obtain ⟨h1,h⟩:=h
     cases hx:ev x <;> simp only [hx] at h
     case lst=>exact plain _ h fun m0 K' hK=>by simp only [LOp,hargs,vS,hx]; exact ⟨h1,hK⟩
     case nil=>exact plain _ h fun m0 K' hK=>by simp only [LOp,hargs,vS,hx]; exact ⟨h1,hK⟩
     case arr id n =>
      obtain ⟨h2,hK⟩:=h
      refine reader _ hK (fun K' hK=>by simp only [LOp,hargs,vS,hx]; exact ⟨h1,h2,hK⟩) (fun h0=>?_)
      rw [h0] at h2; simp [Mem.none] at h2
    ·cases h
   case append =>
    simp only [LOp] at h
    split at h
    ·rename_i x y t t' hargs vS
     obtain ⟨h1,h⟩:=h
     cases kB:telem P t <;> simp only [kB] at h
     case some e =>
      obtain ⟨h2,ys,h3,h⟩:=h
      cases hx:ev x <;> simp only [hx] at h
      case arr id n =>
       obtain ⟨h4,h⟩:=h
       cases hm:m id with
       | none=>simp [hm] at h
       | some le =>
        cases le with
        | map _ _ _=>simp [hm] at h
        | nest _ _ _ _=>simp [hm] at h
        | de _ _ _ _ _ _ _ _=>simp [hm] at h
        | dead=>simp [hm] at h
        | box cs=>simp [hm] at h
        | arr e' k xs =>
         simp only [hm] at h
         obtain ⟨h5,h6,h7,h8,hK⟩:=h
         exact writer _ _ _ hK fun K' hK=>by simp only [LOp,hargs,vS,kB,hx,hm]; exact ⟨h1,h2,ys,h3,h4,h5,h6,h7,h8,hK⟩
      case nil =>
       cases d <;> simp only [] at h
       case some i =>
        obtain ⟨h5,h6,hK⟩:=h
        exact writer _ _ _ hK fun K' hK=>by simp only [LOp,hargs,vS,kB,hx]; exact ⟨h1,h2,ys,h3,h5,h6,hK⟩
    ·cases h
   all_goals exact h.elim
  all_goals exact h.elim
 all_goals exact h.elim
theorem om (bS:∀ x ∈ o.op.operands,ev x=La x) (h:LOp P pr ro o ev m K):LOp P pr ro o La m K:=by
 obtain ⟨d,op,ty,pos,af,g⟩:=o
 have Yf:∀ l:List (Nat × Operand),(∀ x ∈ l.map (·.2),ev x=La x)→(l.map fun p=>ev p.2)=l.map fun p=>La p.2:=fun l hl =>
  List.map_congr_left fun p hp=>hl _ (List.mem_map.2 ⟨p,hp,rfl⟩)
 have TL:∀ l:List (Nat × Operand),(∀ x ∈ l.map (·.2),ev x=La x)→(l.map fun p=>(p.1,ev p.2))=l.map fun p=>(p.1,La p.2):=fun l hl =>
  List.map_congr_left fun p hp=>by rw [hl _ (List.mem_map.2 ⟨p,hp,rfl⟩)]
 cases op <;> simp only [Op.operands] at bS
 case build t parts=>simp only [LOp] at h ⊢; rw [← TL parts.toList (fun x hx=>bS x (by simpa using hx))]; exact h
 case buildSlice t n parts=>simp only [LOp] at h ⊢; rw [← Yf parts.toList (fun x hx=>bS x (by simpa using hx))]; exact h
 case makeFunc f first cap =>
  simp only [LOp] at h ⊢
  cases f <;> simp only [] at h ⊢
  case func f=>rw [← List.map_congr_left (f:=ev) (g:=La) (l:=cap.toList) (fun x hx=>bS x (by simp at hx ⊢; exact .inr hx))]; exact h
 case slice t x lo hi mx =>
  have hx:=bS x (by simp)
  cases lo with
  | none =>
   cases hi with
   | none=>simp only [LOp] at h ⊢; rw [← hx]; exact h
   | some q=>have hq:=bS q (by simp); simp only [LOp] at h ⊢; rw [← hx,← hq]; exact h
  | some r =>
   have hr:=bS r (by simp)
   cases hi with
   | none=>simp only [LOp] at h ⊢; rw [← hx,← hr]; exact h
   | some q=>have hq:=bS q (by simp); simp only [LOp] at h ⊢; rw [← hx,← hr,← hq]; exact h
 case move x=>simp only [LOp] at h ⊢; rw [← bS x (by simp)]; exact h
 case assign x=>simp only [LOp] at h ⊢; rw [← bS x (by simp)]; exact h
 case pick x y z=>simp only [LOp] at h ⊢; rw [← bS x (by simp),← bS y (by simp),← bS z (by simp)]; exact h
 case alloc t=>simp only [LOp] at h ⊢; exact h
 case box t x=>simp only [LOp] at h ⊢; rw [← bS x (by simp)]; exact h
 case load t x=>simp only [LOp] at h ⊢; rw [← bS x (by simp)]; exact h
 case store t x y=>simp only [LOp] at h ⊢; rw [← bS x (by simp),← bS y (by simp)]; exact h
 case nilCheck x=>simp only [LOp] at h ⊢; rw [← bS x (by simp)]; exact h
 case binOp op t x y t'=>simp only [LOp] at h ⊢; rw [← bS x (by simp),← bS y (by simp)]; exact h
 case unOp op t x=>simp only [LOp] at h ⊢; rw [← bS x (by simp)]; exact h
 case convert s t x=>simp only [LOp] at h ⊢; rw [← bS x (by simp)]; exact h
 case fieldAddr t x f=>simp only [LOp] at h ⊢; rw [← bS x (by simp)]; exact h
 case field t x f=>simp only [LOp] at h ⊢; rw [← bS x (by simp)]; exact h
 case indexAddr t x y=>simp only [LOp] at h ⊢; rw [← bS x (by simp),← bS y (by simp)]; exact h
 case extract x i=>simp only [LOp] at h ⊢; rw [← bS x (by simp)]; exact h
 case makeSlice t x y=>simp only [LOp] at h ⊢; rw [← bS x (by simp),← bS y (by simp)]; exact h
 case call c =>
  obtain ⟨callee,args,Rg⟩:=c
  have hargs:args.toList.map ev=args.toList.map La:=List.map_congr_left fun x hx=>bS x (by simp [Call.operands]; exact .inr (by simpa using hx))
  cases callee
  case value x =>
   simp only [LOp] at h ⊢
   rw [← bS x (by simp [Call.operands]),← hargs]; exact h
  case builtin b =>
   cases b <;> simp only [LOp] at h ⊢
   case len =>
    split at h
    ·rename_i x t hx ht
     rw [← bS x (by simp [Call.operands]; rw [← Array.mem_toList_iff,hx]; simp)]; exact h
    ·cases h
   case append =>
    split at h
    ·rename_i x y t t' hx ht
     rw [← bS x (by simp [Call.operands]; rw [← Array.mem_toList_iff,hx]; simp),← bS y (by simp [Call.operands]; rw [← Array.mem_toList_iff,hx]; simp)]; exact h
    ·cases h
  all_goals exact h.elim
 all_goals exact h.elim
end
end Go.L
namespace Go.L
section
variable {P:Program} {N:Nat} {pr:Nat→Prop} {ro:List Nat} {ops:Array Oper}
def bR (P:Program) (pr:Nat→Prop) (o:Oper) (ev:Operand→LV) (m:Mem) (lv:LV) (m':Mem):Prop :=
 ∀ (c:Cx) (a:Act) (Q:Exit→Act→World→Prop),(∀ x ∈ o.op.operands,ar c (ev x) (a.eval x))→cG c m →
  o.wp P a c.w (fun a' w'=>∃ v c',a'=a.put o.dst v∧c'.w=w'∧ar c' lv v∧cG c' m'∧Step pr c c') Q
def gd (ops:Array Oper) (o:Oper) (e:Env):Option Bool :=
 match o.guard with
 | .none=>some true
 | some (j,want)=>match (ops[j]?).bind (·.dst) with
  | some g=>match e g with
   | .bool t=>some (t == want)
   | .tup []=>some false
   | _=>.none
  | .none=>.none
def gn (md:Nat):Nat:=if md<100000 then md - 1000 else md - 100000
def MC (md:Nat):List Nat:=[(md - 1000000000) % 1000,(md - 1000000000) / 1000 % 1000,(md - 1000000000) / 1000000 % 1000].filter fun i=>!(i == 0)
def ss (P:Program) (pr:Nat→Prop) (o:Oper) (ev:Operand→LV) (ids:List Nat) (m:Mem) (lv:LV) (m':Mem):Prop:=(∀ i,i ∉ ids→m' i=m i)∧∀ m0:Mem,(∀ i,i ∈ ids→m0 i=m i)→bR P pr o ev m0 lv (fun i=>if i ∈ ids then m' i else m0 i)
theorem ss.ok {o:Oper} {ev:Operand→LV} {ids:List Nat} {m m':Mem} {lv:LV} (h:ss P pr o ev ids m lv m'):bR P pr o ev m lv m':=by
 have:=h.2 m (fun _ _=>rfl)
 have he:(fun i=>if i ∈ ids then m' i else m i)=m':=by
  funext i
  by_cases hi:i ∈ ids
  ·simp [hi]
  ·simp [hi,h.1 i hi]
 rwa [he] at this
def N5 (P:Program) (pr:Nat→Prop) (ro:List Nat) (o:Oper) (ev:Operand→LV) (id:Nat) (le:LE) (lv:LV):Prop:=∀ m0:Mem,m0 id=some le→∀ K':LV→Mem→Prop,K' lv m0→LOp P pr ro o ev m0 K'
def N6 (P:Program) (pr:Nat→Prop) (ro:List Nat) (o:Oper) (ev:Operand→LV) (id:Nat) (le nW:LE) (lv:LV):Prop:=∀ m0:Mem,m0 id=some le→∀ K':LV→Mem→Prop,K' lv (m0.over (Mem.of [(id,nW)]))→LOp P pr ro o ev m0 K'
def gK (P:Program) (pr:Nat→Prop) (ro:List Nat) (ops:Array Oper) (md:Nat) (o:Oper) (K:Env→Mem→Prop) (e:Env) (m:Mem):Prop :=
 match gd ops o e with
 | some true=>match md with
  | 0=>LOp P pr ro o (cP e) Mem.none fun lv m'=>m'=Mem.none∧K (e.fW o.dst lv) m
  | 1=>LOp P pr ro o (cP e) m fun lv m'=>m'=m∧K (e.fW o.dst lv) m
  | 3=>∃ lv m',bR P pr o (cP e) m lv m'∧K (e.fW o.dst lv) m'
  | 4=>∃ lv,(∀ m0,bR P pr o (cP e) m0 lv m0)∧K (e.fW o.dst lv) m
  | _=>if md<1000 then LOp P pr ro o (cP e) m fun lv m'=>K (e.fW o.dst lv) m'
    else if md<100000 then ∃ lv le,m (gn md)=some le∧N5 P pr ro o (cP e) (gn md) le lv∧K (e.fW o.dst lv) m
    else if md<1000000000 then ∃ lv le nW,m (gn md)=some le∧N6 P pr ro o (cP e) (gn md) le nW lv∧K (e.fW o.dst lv) (m.over (Mem.of [(gn md,nW)]))
    else ∃ lv m',ss P pr o (cP e) (MC md) m lv m'∧K (e.fW o.dst lv) m'
 | some false=>K (e.fW o.dst (.tup [])) m
 | .none=>False
def cQ (P:Program) (pr:Nat→Prop) (ro:List Nat) (ops:Array Oper):List (Oper × Nat)→(Env→Mem→Prop)→Env→Mem→Prop
 | [],K=>K
 | (o,md) :: r,K=>gK P pr ro ops md o (cQ P pr ro ops r K)
def Out (P:Program) (pr:Nat→Prop) (ro:List Nat) (ops:Array Oper) (o:Oper) (e:Env) (md:Nat) (m:Mem) (lv:LV) (m':Mem):Prop :=
 match gd ops o e with
 | some true=>(md=4∧m'=m∧∀ m0,bR P pr o (cP e) m0 lv m0) ∨ ((md=3 ∨ 1000000000≤md)∧(md=3→bR P pr o (cP e) m lv m')∧(1000000000≤md→ss P pr o (cP e) (MC md) m lv m')) ∨ (1000≤md∧md<100000∧m'=m∧∃ le,m (gn md)=some le∧N5 P pr ro o (cP e) (gn md) le lv) ∨ ((100000≤md∧md<1000000000)∧∃ le nW,m (gn md)=some le∧m'=m.over (Mem.of [(gn md,nW)])∧N6 P pr ro o (cP e) (gn md) le nW lv) ∨ (md<1000∧md ≠ 3∧md ≠ 4)∧(md=0→m'=m∧∀ m0,∀ K':LV→Mem→Prop,K' lv m0→LOp P pr ro o (cP e) m0 K')∧(md=1→m'=m)∧∀ K':LV→Mem→Prop,K' lv m'→LOp P pr ro o (cP e) m K'
 | some false=>lv=.tup []∧m'=m
 | .none=>False
theorem Cd {md:Nat} {o:Oper} {K:Env→Mem→Prop} {e:Env} {m:Mem} (h:gK P pr ro ops md o K e m):∃ lv m',K (e.fW o.dst lv) m'∧Out P pr ro ops o e md m lv m':=by
 unfold gK at h
 unfold Out
 cases hg:gd ops o e with
 | none=>simp [hg] at h
 | some b =>
  cases b with
  | false=>simp only [hg] at h ⊢; exact ⟨_,_,h,rfl,rfl⟩
  | true =>
   simp only [hg] at h ⊢
   split at h
   ·obtain ⟨lv,m',⟨j6,hK⟩,h1,h2⟩:=xU h
    exact ⟨lv,m,hK,.inr (.inr (.inr (.inr ⟨by simp,fun _=>⟨rfl,h2 rfl j6⟩,by simp,fun K' yf=>h2 rfl j6 m K' yf⟩)))⟩
   ·obtain ⟨lv,m',⟨rfl,hK⟩,h1,h2⟩:=xU h
    exact ⟨lv,_,hK,.inr (.inr (.inr (.inr ⟨by simp,by simp,fun _=>rfl,h1⟩)))⟩
   ·obtain ⟨lv,m',h1,hK⟩:=h
    exact ⟨lv,m',hK,.inr (.inl ⟨.inl rfl,fun _=>h1,fun h=>absurd h (by decide)⟩)⟩
   ·obtain ⟨lv,h1,hK⟩:=h
    exact ⟨lv,m,hK,.inl ⟨rfl,rfl,h1⟩⟩
   ·rename_i n0 n1 n3 n4
    split at h
    ·rename_i hlt
     obtain ⟨lv,m',hK,h1,h2⟩:=xU h
     exact ⟨lv,m',hK,.inr (.inr (.inr (.inr ⟨⟨hlt,by simpa using n3,by simpa using n4⟩,fun h0=>absurd h0 (by simpa using n0),fun h0=>absurd h0 (by simpa using n1),h1⟩)))⟩
    ·rename_i WM
     split at h
     ·rename_i hlt
      obtain ⟨lv,le,h1,h2,hK⟩:=h
      exact ⟨lv,m,hK,.inr (.inr (.inl ⟨by omega,hlt,rfl,le,h1,h2⟩))⟩
     ·split at h
      ·obtain ⟨lv,le,nW,h1,h2,hK⟩:=h
       exact ⟨lv,_,hK,.inr (.inr (.inr (.inl ⟨by omega,le,nW,h1,rfl,h2⟩)))⟩
      ·obtain ⟨lv,m',h1,hK⟩:=h
       exact ⟨lv,m',hK,.inr (.inl ⟨.inr (by omega),fun h=>absurd h (by simpa using n3),fun _=>h1⟩)⟩
theorem I0 {o:Oper} {e e':Env} (h:∀ t ∈ o.looksAt ops,e t=e' t):∀ x ∈ o.op.operands,cP e x=cP e' x:=by
 intro x hx
 cases x with
 | tmp t =>
  refine h t ?_
  unfold Oper.looksAt
  exact List.mem_append.2 (.inl (List.mem_filterMap.2 ⟨.tmp t,by simpa using hx,rfl⟩))
 | const v=>rfl
 | global g=>rfl
 | func f=>rfl
theorem yb {o:Oper} {e e':Env} (h:∀ t ∈ o.looksAt ops,e t=e' t):gd ops o e=gd ops o e':=by
 unfold gd
 cases hg:o.guard with
 | none=>rfl
 | some q =>
  obtain ⟨j,want⟩:=q
  cases hj:(ops[j]?).bind (·.dst) with
  | none=>simp only [hj]
  | some g =>
   simp only [hj]
   rw [h g]
   unfold Oper.looksAt
   refine List.mem_append.2 (.inr ?_)
   simp [hg,hj]
theorem Out.congr {o:Oper} {e e':Env} {md:Nat} {m m':Mem} {lv:LV} (h:∀ t ∈ o.looksAt ops,e t=e' t) (ho:Out P pr ro ops o e md m lv m'):Out P pr ro ops o e' md m lv m':=by
 unfold Out at ho ⊢
 rw [← yb h]
 have hl:=I0 h
 split at ho
 ·rcases ho with ⟨h3,h4,ho⟩ | ⟨h3,ho,hf⟩ | ⟨g1,g2,g3,le,g4,g5⟩ | ⟨g1,le,nW,g2,g3,g4⟩ | ⟨h3,h1,h2,h4⟩
  ·exact .inl ⟨h3,h4,fun m0 c a Q bS hm=>ho m0 c a Q (fun x hx=>by rw [hl x hx]; exact bS x hx) hm⟩
  ·exact .inr (.inl ⟨h3,fun h c a Q bS hm=>ho h c a Q (fun x hx=>by rw [hl x hx]; exact bS x hx) hm,fun h=>⟨(hf h).1,fun m0 qb c a Q bS hm=>(hf h).2 m0 qb c a Q (fun x hx=>by rw [hl x hx]; exact bS x hx) hm⟩⟩)
  ·exact .inr (.inr (.inl ⟨g1,g2,g3,le,g4,fun m0 qb K' hK=>om hl (g5 m0 qb K' hK)⟩))
  ·exact .inr (.inr (.inr (.inl ⟨g1,le,nW,g2,g3,fun m0 qb K' hK=>om hl (g4 m0 qb K' hK)⟩)))
  ·exact .inr (.inr (.inr (.inr ⟨h3,fun h0=>⟨(h1 h0).1,fun m0 K' hK=>om hl ((h1 h0).2 m0 K' hK)⟩,h2,fun K' hK=>om hl (h4 K' hK)⟩)))
 ·exact ho
 ·exact ho
def sW (o:Oper):Bool:=(match o.op with | .alloc _=>true | _=>false) && o.guard.isNone
def ya (o:Oper):Bool:=(match o.op with | .alloc _=>true | .makeSlice _ _ _=>true | .call c=>(match c.callee with | .value _=>true | _=>false) | _=>false) && o.guard.isNone
def RF (md:Nat):Bool:=Nat.ble 1000 md && Nat.blt md 100000
def RE (md:Nat):Bool:=Nat.ble 1000 md && Nat.blt md 1000000000
def p7 (md:Nat):List Nat:=if Nat.ble 1000000000 md then MC md else [gn md]
def BJ (ops:Array Oper) (x y:Oper × Nat):Bool:=x.1.apart ops y.1 && (x.2 == 0 || y.2 == 0 || (decide (x.2≤1) && decide (y.2≤1)) || (sW y.1 && ya x.1 && x.2 == 2 && y.2 == 2)
 || (RE x.2 && RE y.2 && !(gn x.2 == gn y.2)) || ((RF x.2 || Nat.ble x.2 1) && (RF y.2 || Nat.ble y.2 1)) || (sW y.1 && RE x.2 && y.2 == 2) || (x.2 == 4 || y.2 == 4) || (Nat.ble 1000 x.2 && Nat.ble 1000 y.2 && (p7 x.2).all fun i=>!(p7 y.2).contains i))
theorem s6 {m:Mem} {A B:Nat} {x y:LE} (h:A ≠ B):(m.put A x).put B y=(m.put B y).put A x:=by
 funext i
 simp only [Mem.put]
 by_cases h1:i=A
 ·subst h1; simp [h]
 ·simp [h1]
theorem qT {o:Oper} {ev:Operand→LV} {m m':Mem} {lv:LV} {t:TypeId} (ho:o.op=.alloc t) (h:∀ K':LV→Mem→Prop,K' lv m'→LOp P pr ro o ev m K') :
  ∃ z d,tzero P t=some z∧o.dst=some d∧m (100+d)=.none∧lv=.ptr (100+d) 0∧m'=m.put (100+d) (.box z.cells):=by
 have:=h (fun l mm=>lv=l∧m'=mm) ⟨rfl,rfl⟩
 simp only [LOp,ho] at this
 split at this
 ·rename_i z d hz hd
  exact ⟨z,d,hz,hd,this.1,this.2.1,this.2.2⟩
 ·exact this.elim
theorem FG {o:Oper} {ev:Operand→LV} {m m':Mem} {lv:LV} (hf:ya o=true) (h:∀ K':LV→Mem→Prop,K' lv m'→LOp P pr ro o ev m K') {A:Nat} (hA:m' A=.none) (x:LE) :
  m A=.none∧∀ K':LV→Mem→Prop,K' lv (m'.put A x)→LOp P pr ro o ev (m.put A x) K':=by
 simp only [ya,Bool.and_eq_true] at hf
 cases ho:o.op <;> simp only [ho] at hf <;> try (simp at hf; done)
 case alloc t =>
  obtain ⟨z,d,hz,hd,hm,rfl,rfl⟩:=qT ho h
  have eE:100+d ≠ A:=fun he=>by subst he; simp [Mem.put] at hA
  have MO:m A=.none:=by simp only [Mem.put] at hA; rw [if_neg (Ne.symm eE)] at hA; exact hA
  refine ⟨MO,fun K' hK=>?_⟩
  simp only [LOp,ho,hz,hd]
  refine ⟨by simp only [Mem.put]; rw [if_neg eE]; exact hm,?_⟩
  rw [s6 (Ne.symm eE)]; exact hK
 case makeSlice t l c =>
  have:=h (fun l mm=>lv=l∧m'=mm) ⟨rfl,rfl⟩
  simp only [LOp,ho] at this
  split at this
  ·rename_i e z n n' d he hz hl hc hd
   obtain ⟨hn,h0,hb,hr,hp,hm,rfl,rfl⟩:=this
   have eE:100+d ≠ A:=fun he=>by subst he; simp [Mem.put] at hA
   have MO:m A=.none:=by simp only [Mem.put] at hA; rw [if_neg (Ne.symm eE)] at hA; exact hA
   refine ⟨MO,fun K' hK=>?_⟩
   simp only [LOp,ho]
   rw [hz,hl,hc,hd,he]
   refine ⟨hn,h0,hb,hr,hp,by simp only [Mem.put]; rw [if_neg eE]; exact hm,?_⟩
   rw [s6 (Ne.symm eE)]; exact hK
  ·exact this.elim
 case call c =>
  obtain ⟨cl,args,Rg⟩:=c
  cases cl <;> simp only at hf <;> try (simp at hf; done)
  case value y =>
   have:=h (fun l mm=>lv=l∧m'=mm) ⟨rfl,rfl⟩
   simp only [LOp,ho] at this
   cases hy:ev y <;> simp only [hy] at this
   case fn f cap =>
    obtain ⟨VI,Yd,mc,iN,hc,h1,h2,h3,h4,rfl,rfl⟩:=this
    have OS:iN A=.none:=by
     cases hq:iN A with
     | none=>rfl
     | some q=>simp [Mem.over,hq] at hA
    have MO:m A=.none:=by simpa [Mem.over,OS] using hA
    have hmc:mc A=.none:=by
     cases hq:mc A with
     | none=>rfl
     | some q=>have:=h1 A (by simp [hq]); rw [MO,hq] at this; cases this
    refine ⟨MO,fun K' hK=>?_⟩
    simp only [LOp,ho,hy]
    refine ⟨VI,lv,mc,iN,hc,fun id cj=>?_,fun id cj Sw=>?_,h3,h4,?_⟩
    ·have:id ≠ A:=fun he=>by subst he; exact cj hmc
     simp only [Mem.put]; rw [if_neg this]; exact h1 id cj
    ·have:id ≠ A:=fun he=>by subst he; exact Sw OS
     simp only [Mem.put]; rw [if_neg this]; exact h2 id cj Sw
    ·have:(m.put A x).over iN=(m.over iN).put A x:=by
      funext i
      simp only [Mem.over,Mem.put]
      by_cases hi:i=A
      ·subst hi; simp [OS]
      ·simp only [hi,if_false]
     rw [this]; exact hK
def o2 (P:Program) (pr:Nat→Prop) (ro:List Nat) (ops:Array Oper):List (Oper × Nat)→Env→Mem→Env→Mem→Prop
 | [],e,m,e',m'=>e'=e∧m'=m
 | (o,md) :: r,e,m,e',m'=>∃ lv m1,Out P pr ro ops o e md m lv m1∧o2 P pr ro ops r (e.fW o.dst lv) m1 e' m'
theorem kF:∀ (l:List (Oper × Nat)) {K:Env→Mem→Prop} {e:Env} {m:Mem},cQ P pr ro ops l K e m→∃ e' m',K e' m'∧o2 P pr ro ops l e m e' m'
 | [],K,e,m,h=>⟨e,m,h,rfl,rfl⟩
 | (o,md) :: r,K,e,m,h=>by
  simp only [cQ] at h
  obtain ⟨lv,m1,h1,ho⟩:=Cd h
  obtain ⟨e',m',hK,hc⟩:=kF r h1
  exact ⟨e',m',hK,lv,m1,ho,hc⟩
theorem Gi {e:Env} {x y:Option Nat} {u v:LV} (h:∀ d,x=some d→y ≠ some d):(e.fW x u).fW y v=(e.fW y v).fW x u:=by
 cases x with
 | none=>rfl
 | some a =>
  cases y with
  | none=>rfl
  | some b =>
   have nf:a ≠ b:=fun hh=>h a rfl (by rw [hh])
   funext i
   simp only [Env.fW,Env.put]
   by_cases h1:i=a
   ·subst h1; simp [nf]
   ·simp [h1]
theorem il {e:Env} {o:Oper} {d:Option Nat} {v:LV} (h:∀ i,d=some i→i ∉ o.looksAt ops):∀ t ∈ o.looksAt ops,(e.fW d v) t=e t:=by
 intro t ht
 cases d with
 | none=>rfl
 | some i =>
  have:t ≠ i:=fun hh=>h i rfl (hh ▸ ht)
  simp [Env.fW,Env.put,this]
theorem um {o:Oper} {e:Env} {md:Nat} {m m':Mem} {lv:LV} (h:Out P pr ro ops o e md m lv m') (CA:md≤1):m'=m:=by
 unfold Out at h
 split at h
 ·rcases h with ⟨h3,_⟩ | ⟨h3,_⟩ | ⟨g1,_⟩ | ⟨g1,_⟩ | ⟨_,h1,h2,_⟩
  ·omega
  ·omega
  ·omega
  ·omega
  ·rcases (by omega:md=0 ∨ md=1) with h0 | h0
   ·exact (h1 h0).1
   ·exact h2 h0
 ·exact h.2
 ·exact h.elim
theorem qo {m:Mem} {i:Nat} {le:LE}:m.over (Mem.of [(i,le)])=m.put i le:=by
 funext j
 simp only [Mem.over,Mem.of,Mem.put]
 by_cases h:j=i <;> simp [h]
theorem Ka {o:Oper} {e:Env} {md:Nat} {m m':Mem} {lv:LV} (h:Out P pr ro ops o e md m lv m') (CA:(RF md || Nat.ble md 1)=true):m'=m:=by
 by_cases h1:md≤1
 ·exact um h h1
 ·have hr:1000≤md∧md<100000:=by
   simp only [RF,Bool.or_eq_true,Bool.and_eq_true,Nat.ble_eq,Nat.blt_eq] at CA
   omega
  unfold Out at h
  split at h
  ·rcases h with ⟨h3,_⟩ | ⟨h3,_⟩ | ⟨_,_,h3,_⟩ | ⟨g1,_⟩ | ⟨g1,_⟩
   ·omega
   ·omega
   ·exact h3
   ·omega
   ·omega
  ·exact h.2
  ·exact h.elim
theorem sP {o:Oper} {e:Env} {md:Nat} {m m':Mem} {lv:LV} (h:Out P pr ro ops o e md m lv m') (CA:RE md=true):(m'=m∧gd ops o e=some false∧lv=.tup []) ∨ ∃ le nW,m (gn md)=some le∧m'=m.put (gn md) nW∧∀ m0:Mem,m0 (gn md)=some le→Out P pr ro ops o e md m0 lv (m0.put (gn md) nW):=by
 have Y4:1000≤md∧md<1000000000:=by simpa [RE] using CA
 have hh:=h
 unfold Out at h
 split at h
 ·rename_i hg
  rcases h with ⟨h3,_⟩ | ⟨h3,_⟩ | ⟨g1,g2,g3,le,g4,g5⟩ | ⟨g1,le,nW,g2,g3,g4⟩ | ⟨g1,_⟩
  ·omega
  ·omega
  ·right
   have self:∀ m0:Mem,m0 (gn md)=some le→m0.put (gn md) le=m0:=fun m0 h0=>by
    funext j; simp only [Mem.put]; split
    ·rename_i hj; subst hj; exact h0.symm
    ·rfl
   refine ⟨le,le,g4,by rw [g3,self m g4],fun m0 h0=>?_⟩
   rw [self m0 h0]
   unfold Out
   rw [hg]
   exact .inr (.inr (.inl ⟨g1,g2,rfl,le,h0,g5⟩))
  ·right
   refine ⟨le,nW,g2,by rw [g3,qo],fun m0 h0=>?_⟩
   unfold Out
   rw [hg]
   exact .inr (.inr (.inr (.inl ⟨g1,le,nW,h0,by rw [qo],g4⟩)))
  ·omega
 ·rename_i hg; exact .inl ⟨h.2,hg,h.1⟩
 ·exact h.elim
theorem Out.skip {o:Oper} {e:Env} {md:Nat} {m:Mem} (hg:gd ops o e=some false):Out P pr ro ops o e md m (.tup []) m:=by
 unfold Out; rw [hg]; exact ⟨rfl,rfl⟩
theorem zp {o:Oper} {e:Env} {md:Nat} {m m':Mem} {lv:LV} (h:Out P pr ro ops o e md m lv m') (CA:1000≤md):(∀ i,i ∉ p7 md→m' i=m i)∧∀ m0:Mem,(∀ i,i ∈ p7 md→m0 i=m i)→Out P pr ro ops o e md m0 lv (fun i=>if i ∈ p7 md then m' i else m0 i):=by
 by_cases hd:md<1000000000
 ·have hf:p7 md=[gn md]:=by
   have:Nat.ble 1000000000 md=false:=by
    cases hb:Nat.ble 1000000000 md with
    | false=>rfl
    | true=>have:=Nat.le_of_ble_eq_true hb; omega
   simp [p7,this]
  rw [hf]
  rcases sP h (by simp [RE]; omega) with ⟨rfl,hg,rfl⟩ | ⟨le,nW,g1,rfl,g3⟩
  ·refine ⟨fun _ _=>rfl,fun m0 qb=>?_⟩
   have:(fun i=>if i ∈ [gn md] then m' i else m0 i)=m0:=by
    funext i
    by_cases hi:i ∈ [gn md]
    ·simp [hi,qb i hi]
    ·simp [hi]
   rw [this]; exact Out.skip hg
  ·refine ⟨fun i hi=>by simp at hi; simp [Mem.put,hi],fun m0 qb=>?_⟩
   have:=g3 m0 (by rw [qb _ (by simp)]; exact g1)
   refine Eq.mp (congrArg _ ?_) this
   funext i
   by_cases hi:i=gn md
   ·subst hi; simp [Mem.put]
   ·simp [Mem.put,hi]
 ·have hf:p7 md=MC md:=by
   have:Nat.ble 1000000000 md=true:=Nat.ble_eq_true_of_le (by omega)
   simp [p7,this]
  rw [hf]
  have hh:=h
  unfold Out at h
  split at h
  ·rename_i hg
   rcases h with ⟨h3,_⟩ | ⟨h3,_,h4⟩ | ⟨g1,g2,_⟩ | ⟨g1,_⟩ | ⟨g1,_⟩
   ·omega
   ·have h4:=h4 (by omega)
    refine ⟨h4.1,fun m0 qb=>?_⟩
    unfold Out
    rw [hg]
    refine .inr (.inl ⟨.inr (by omega),fun h=>by omega,fun _=>⟨fun i hi=>by simp [hi],fun m1 k5=>?_⟩⟩)
    have:=h4.2 m1 (fun i hi=>(k5 i hi).trans (qb i hi))
    refine Eq.mp (congrArg _ ?_) this
    funext i
    by_cases hi:i ∈ MC md <;> simp [hi]
   ·omega
   ·omega
   ·omega
  ·rename_i hg
   obtain ⟨rfl,rfl⟩:=h
   refine ⟨fun _ _=>rfl,fun m0 qb=>?_⟩
   have:(fun i=>if i ∈ MC md then m' i else m0 i)=m0:=by
    funext i
    by_cases hi:i ∈ MC md
    ·simp [hi,qb i hi]
    ·simp [hi]
   rw [this]; unfold Out; rw [hg]; exact ⟨rfl,rfl⟩
  ·exact h.elim
theorem I8 {o:Oper} {e:Env} {m m':Mem} {lv:LV} (h:Out P pr ro ops o e 4 m lv m'):m'=m∧∀ m0,Out P pr ro ops o e 4 m0 lv m0:=by
 have hh:=h
 unfold Out at h
 split at h
 ·rename_i hg
  rcases h with ⟨_,h1,h2⟩ | ⟨h3,_⟩ | ⟨g1,_⟩ | ⟨g1,_⟩ | ⟨g1,_⟩
  ·refine ⟨h1,fun m0=>?_⟩
   unfold Out
   rw [hg]
   exact .inl ⟨rfl,rfl,h2⟩
  ·omega
  ·omega
  ·omega
  ·omega
 ·rename_i hg
  refine ⟨h.2,fun m0=>?_⟩
  unfold Out
  rw [hg]
  exact ⟨h.1,rfl⟩
 ·exact h.elim
theorem Out.any {o:Oper} {e:Env} {m m' m0:Mem} {lv:LV} (h:Out P pr ro ops o e 0 m lv m'):Out P pr ro ops o e 0 m0 lv m0:=by
 unfold Out at h ⊢
 split at h
 ·rename_i hg
  rcases h with ⟨h3,_⟩ | ⟨h3,_⟩ | ⟨g1,_⟩ | ⟨g1,_⟩ | ⟨_,h1,h2,h3⟩
  ·omega
  ·omega
  ·omega
  ·omega
  ·exact .inr (.inr (.inr (.inr ⟨by simp,fun _=>⟨rfl,(h1 rfl).2⟩,by simp,fun K' hK=>(h1 rfl).2 m0 K' hK⟩)))
 ·exact ⟨h.1,rfl⟩
 ·exact h.elim
theorem Kr {x y:Oper × Nat} (hs:BJ ops x y=true) {r:List (Oper × Nat)} {e e':Env} {m m':Mem} (h:o2 P pr ro ops (x :: y :: r) e m e' m'):o2 P pr ro ops (y :: x :: r) e m e' m':=by
 obtain ⟨o,a⟩:=x
 obtain ⟨q,b⟩:=y
 simp only [BJ,Bool.and_eq_true,Bool.or_eq_true,beq_iff_eq,decide_eq_true_eq] at hs
 obtain ⟨Lj,CA⟩:=hs
 obtain ⟨ha1,ha2,Rr⟩:=Oper.apart_spec Lj
 obtain ⟨lv,m1,ho,vW,m2,hq,hc⟩:=h
 have pS:Out P pr ro ops q e b m1 vW m2:=hq.congr (il ha1)
 have yY:Out P pr ro ops o (e.fW q.dst vW) a m lv m1:=ho.congr fun t ht=>(il Rr t ht).symm
 rw [Gi ha2] at hc
 rcases CA with (((((((h0 | h0) | ⟨h1,h2⟩) | ⟨⟨⟨BS,Lq⟩,Wu⟩,Oy⟩) | ⟨⟨hx,hy⟩,eE⟩) | ⟨hx,hy⟩) | ⟨⟨BS,hx⟩,Oy⟩) | h4) | ⟨⟨hx,hy⟩,tV⟩
 ·subst h0
  have:=um ho (by omega)
  subst this
  exact ⟨vW,m2,pS,lv,m2,yY.any,hc⟩
 ·subst h0
  have:=um hq (by omega)
  subst this
  exact ⟨vW,m,pS.any,lv,m2,yY,hc⟩
 ·have e1:=um ho h1
  have e2:=um hq h2
  subst e1; subst e2
  exact ⟨vW,m2,pS,lv,m2,yY,hc⟩
 ·subst Wu; subst Oy
  have Wv:=BS
  have WI:=Lq
  simp only [sW,ya,Bool.and_eq_true,Option.isNone_iff_eq_none] at BS Lq
  have MI:∀ e,gd ops o e=some true:=fun e=>by simp [gd,Lq.2]
  have Sv:∀ e,gd ops q e=some true:=fun e=>by simp [gd,BS.2]
  unfold Out at pS yY
  simp only [MI,Sv] at pS yY
  replace pS:=((((pS.resolve_left (fun h3=>by omega)).resolve_left (fun h3=>by have:=h3.1; omega)).resolve_left (fun h3=>by omega)).resolve_left (fun h3=>by omega)).2
  replace yY:=((((yY.resolve_left (fun h3=>by omega)).resolve_left (fun h3=>by have:=h3.1; omega)).resolve_left (fun h3=>by omega)).resolve_left (fun h3=>by omega)).2
  cases GY:q.op <;> simp only [GY] at BS <;> try (simp at BS; done)
  case alloc t =>
   obtain ⟨z,d,hz,hd,k5,rfl,rfl⟩:=qT GY pS.2.2
   obtain ⟨MO,WJ⟩:=FG WI yY.2.2 k5 (.box z.cells)
   refine ⟨.ptr (100+d) 0,m.put (100+d) (.box z.cells),?_,lv,m1.put (100+d) (.box z.cells),?_,hc⟩
   ·unfold Out
    simp only [Sv]
    refine .inr (.inr (.inr (.inr ⟨by simp,by simp,by simp,fun K' hK=>?_⟩)))
    simp only [LOp,GY,hz,hd]
    exact ⟨MO,hK⟩
   ·unfold Out
    simp only [MI]
    exact .inr (.inr (.inr (.inr ⟨by simp,by simp,by simp,WJ⟩)))
 ·have CB:gn a ≠ gn b:=by simpa using eE
  rcases sP ho hx with ⟨rfl,hg,rfl⟩ | ⟨le,nW,g1,rfl,g3⟩
  ·exact ⟨vW,m2,pS,_,m2,Out.skip (by rw [yb (ops:=ops) (o:=o) (e:=e.fW q.dst vW) (e':=e) (il Rr)]; exact hg),hc⟩
  ·rcases sP pS hy with ⟨rfl,hg,rfl⟩ | ⟨lf,Yc,k1,rfl,k3⟩
   ·exact ⟨_,m,Out.skip hg,lv,_,yY,hc⟩
   ·have k1':m (gn b)=some lf:=by simpa [Mem.put,Ne.symm CB] using k1
    refine ⟨vW,m.put (gn b) Yc,k3 m k1',lv,(m.put (gn b) Yc).put (gn a) nW,?_,by rw [s6 (Ne.symm CB)]; exact hc⟩
    exact (g3 (m.put (gn b) Yc) (by simpa [Mem.put,CB] using g1)).congr fun t ht=>(il Rr t ht).symm
 ·have e1:=Ka ho (by simpa using hx)
  have e2:=Ka hq (by simpa using hy)
  subst e1; subst e2
  exact ⟨vW,m2,pS,lv,m2,yY,hc⟩
 ·subst Oy
  have Wv:=BS
  simp only [sW,Bool.and_eq_true,Option.isNone_iff_eq_none] at BS
  have Sv:∀ e,gd ops q e=some true:=fun e=>by simp [gd,BS.2]
  unfold Out at pS
  simp only [Sv] at pS
  replace pS:=((((pS.resolve_left (fun h3=>by omega)).resolve_left (fun h3=>by have:=h3.1; omega)).resolve_left (fun h3=>by omega)).resolve_left (fun h3=>by omega)).2
  cases GY:q.op <;> simp only [GY] at BS <;> try (simp at BS; done)
  case alloc t =>
   obtain ⟨z,d,hz,hd,k5,rfl,rfl⟩:=qT GY pS.2.2
   have Sc:∀ m0:Mem,m0 (100+d)=.none→Out P pr ro ops q e 2 m0 (.ptr (100+d) 0) (m0.put (100+d) (.box z.cells)):=fun m0 h0=>by
    unfold Out
    simp only [Sv]
    refine .inr (.inr (.inr (.inr ⟨by simp,by simp,by simp,fun K' hK=>?_⟩)))
    simp only [LOp,GY,hz,hd]
    exact ⟨h0,hK⟩
   rcases sP ho hx with ⟨rfl,hg,rfl⟩ | ⟨le,nW,g1,rfl,g3⟩
   ·exact ⟨_,_,Sc _ k5,_,_,Out.skip (by rw [yb (ops:=ops) (o:=o) (e':=e) (il Rr)]; exact hg),hc⟩
   ·have CB:gn a ≠ 100+d:=fun h=>by rw [← h] at k5; simp [Mem.put] at k5
    have qb:m (100+d)=.none:=by simpa [Mem.put,Ne.symm CB] using k5
    refine ⟨_,_,Sc m qb,lv,(m.put (100+d) (.box z.cells)).put (gn a) nW,?_,by rw [s6 (Ne.symm CB)]; exact hc⟩
    exact (g3 (m.put (100+d) (.box z.cells)) (by simpa [Mem.put,CB] using g1)).congr fun t ht=>(il Rr t ht).symm
 ·rcases h4 with h4 | h4
  ·subst h4
   obtain ⟨rfl,nw⟩:=I8 yY
   exact ⟨vW,m2,pS,lv,m2,nw m2,hc⟩
  ·subst h4
   obtain ⟨rfl,nw⟩:=I8 pS
   exact ⟨vW,m,nw m,lv,_,yY,hc⟩
 ·obtain ⟨f1,f2⟩:=zp ho (by simpa using hx)
  obtain ⟨k1,k2⟩:=zp pS (by simpa using hy)
  have WD:∀ i,i ∈ p7 a→i ∉ p7 b:=fun i hi=>by simpa using List.all_eq_true.1 tV i hi
  refine ⟨vW,_,k2 m (fun i hi=>(f1 i (fun hj=>WD i hj hi)).symm),lv,m2,?_,hc⟩
  have:=f2 (fun i=>if i ∈ p7 b then m2 i else m i) (fun i hi=>by simp [WD i hi])
  refine (Eq.mp (congrArg _ ?_) this).congr fun t ht=>(il Rr t ht).symm
  funext i
  by_cases h1:i ∈ p7 a
  ·simp [h1,k1 i (WD i h1)]
  ·by_cases h2:i ∈ p7 b
   ·simp [h1,h2]
   ·simp [h1,h2,k1 i h2,f1 i h1]
theorem pF {y:Oper × Nat}:∀ (l r:List (Oper × Nat)) {e e':Env} {m m':Mem},(∀ x ∈ l,BJ ops x y=true)→o2 P pr ro ops (l++y :: r) e m e' m'→o2 P pr ro ops (y :: (l++r)) e m e' m'
 | [],r,e,e',m,m',_,h=>h
 | x :: l,r,e,e',m,m',hs,h=>by
  obtain ⟨o,a⟩:=x
  obtain ⟨lv,m1,ho,hc⟩:=h
  have:=pF l r (fun z hz=>hs z (by simp [hz])) hc
  exact Kr (hs _ (by simp)) ⟨lv,m1,ho,this⟩
theorem zd {o:Oper} {md:Nat} {e:Env} {m m':Mem} {lv:LV} (hd:∀ q ∈ ops,∀ i,q.dst=some i→i<N) (Lx:∀ i,o.dst=some i→i<N) (h:Out P pr ro ops o e md m lv m') (c:Cx) (a:Act) (R:Act→World→Prop) (Q:Exit→Act→World→Prop) (hr:mZ N c e m a)
  (hR:∀ a' (c':Cx),mZ N c' (e.fW o.dst lv) m' a'→Step pr c c'→R a' c'.w) :
  if Region.wanted o (yielded ops a.tmps) then o.wp P a c.w R Q ∨ (o.asks P a c.w∧LetsOut Q) else R (a.put o.dst undef) c.w:=by
 have MT:∀ b,gd ops o e=some b→Region.wanted o (yielded ops a.tmps)=b:=by
  intro b hb
  unfold gd at hb
  split at hb
  ·rename_i hg; cases hb; simp [Region.wanted,hg]
  ·rename_i j want hg
   split at hb
   ·rename_i g hj
    cases ht:e g <;> simp only [ht] at hb
    case bool t=>cases hb; exact oQ hr hd hg hj ht
    case tup vs =>
     cases vs with
     | cons x xs=>cases hb
     | nil=>cases hb; exact sr hr hd hg hj ht
    all_goals cases hb
   ·cases hb
 unfold Out at h
 split at h
 ·rename_i hg
  rw [MT true hg,if_pos rfl]
  have hL:(∀ K':LV→Mem→Prop,K' lv m'→LOp P pr ro o (cP e) m K')→(o.wp P a c.w R Q ∨ (o.asks P a c.w∧LetsOut Q)):=fun hh=>by
   obtain ⟨Yd,m0,⟨rfl,rfl⟩,gP⟩:=jY (hh (fun l mm=>l=lv∧mm=m') ⟨rfl,rfl⟩)
   left
   refine Oper.wp_mono ?_ (gP c a Q hr.ev hr.mem)
   rintro a' w' ⟨v,c',rfl,rfl,hv,j6,hs⟩
   exact hR _ c' (hr.put hs j6 Lx hv) hs
  rcases h with ⟨_,rfl,gP⟩ | ⟨h3,gP,hf⟩ | ⟨_,_,rfl,le,g4,g5⟩ | ⟨_,le,nW,g2,rfl,g4⟩ | ⟨_,h⟩
  ·left
   refine Oper.wp_mono ?_ (gP _ c a Q (fun x _=>hr.ev x) hr.mem)
   rintro a' w' ⟨v,c',rfl,rfl,hv,j6,hs⟩
   exact hR _ c' (hr.put hs j6 Lx hv) hs
  ·left
   refine Oper.wp_mono ?_ ((h3.elim gP (fun h=>(hf h).ok)) c a Q (fun x _=>hr.ev x) hr.mem)
   rintro a' w' ⟨v,c',rfl,rfl,hv,j6,hs⟩
   exact hR _ c' (hr.put hs j6 Lx hv) hs
  ·exact hL fun K' hK=>g5 _ g4 K' hK
  ·exact hL fun K' hK=>g4 m g2 K' hK
  obtain ⟨Yd,m0,⟨rfl,rfl⟩,gP⟩:=jY (h.2.2 (fun l mm=>l=lv∧mm=m') ⟨rfl,rfl⟩)
  left
  refine Oper.wp_mono ?_ (gP c a Q hr.ev hr.mem)
  rintro a' w' ⟨v,c',rfl,rfl,hv,j6,hs⟩
  exact hR _ c' (hr.put hs j6 Lx hv) hs
 ·rename_i hg
  obtain ⟨rfl,rfl⟩:=h
  rw [MT false hg,if_neg (by simp)]
  exact hR _ c (hr.put (Step.refl pr c) hr.mem Lx (pI c)) (Step.refl pr c)
 ·exact h.elim
def ahead (ops:Array Oper):Nat→Nat→Nat→Bool
 | 0,_,_=>false
 | f+1,k,i=>((ops[i]?).map fun o=>o.after.toList.any fun e=>Region.binds .any e && (e.on == k || ahead ops f k e.on)).getD false
def Co (ops:Array Oper) (ey:List Nat):Bool :=
 (List.range ops.size).all fun i=>match ops[i]? with
  | some o=>(o.after.toList.all fun e=>!Region.binds .any e || decide (e.on<i)) && (List.range i).all fun k=>match ops[k]? with
   | some q=>BJ ops (q,ey.getD k 2) (o,ey.getD i 2) || ahead ops 6 k i
   | .none=>true
  | .none=>true
theorem jP {aR:Array Bool} (hcl:∀ i o,ops[i]?=some o→aR.getD i true=true→∀ e ∈ o.after,Region.binds .any e=true→aR.getD e.on false=true) (fe:aR.size=ops.size):∀ (f k i:Nat) (o:Oper),ops[i]?=some o→(∀ e ∈ o.after,Region.binds .any e=true→aR.getD e.on false=true)→ahead ops f k i=true→aR.getD k false=true
 | 0,k,i,o,_,_,h=>by simp [ahead] at h
 | f+1,k,i,o,ho,py,h=>by
  simp only [ahead,ho,Option.map_some,Option.getD_some,List.any_eq_true,Bool.and_eq_true,Bool.or_eq_true,beq_iff_eq] at h
  obtain ⟨e,he,hb,hk⟩:=h
  have he:e ∈ o.after:=by simpa using he
  have hl:=py e he hb
  rcases hk with hk | hk
  ·subst hk; exact hl
  ·have hlt:e.on<aR.size:=by
    rcases Nat.lt_or_ge e.on aR.size with h' | h'
    ·exact h'
    ·simp [Array.getElem?_eq_none h'] at hl
   have hon:∃ q,ops[e.on]?=some q:=⟨ops[e.on]'(by omega),by simp [fe ▸ hlt]⟩
   obtain ⟨q,hq⟩:=hon
   exact jP hcl fe f k e.on q hq (hcl e.on q hq (by simpa [hlt] using hl)) hk
def left (ops:Array Oper) (aR:Array Bool):List Nat:=(List.range ops.size).filter fun i=>!aR.getD i true
theorem LH.EV {id:Nat} {l:List Oper} {Q:Exit→Env→Mem→Prop} {e e':Env} {m m':Mem} (yj:P.follows .mixedOrders=true) (ro:List Nat) (ey:List Nat) (hd:kX N l=true) (gP:Co l.toArray ey=true)
  (hc:o2 P pr ro l.toArray ((List.range l.length).map fun i=>(l.getD i default,ey.getD i 2)) e m e' m') (hK:Q .normal e' m'):LH P N pr (.region id l.toArray true) Q e m:=by
 refine ⟨.normal,e',m',fun c a hr=>?_,hK⟩
 refine wp_region_any yj ?_
 have Sr:=p5 hd
 have key : ∀ (fuel : Nat) (aR : Array Bool) (e0 : Env) (m0 : Mem) (c0 : Cx) (a0 : Act), aR.size = l.toArray.size → (left l.toArray aR).length ≤ fuel →
   (∀ i o,l.toArray[i]?=some o→aR.getD i true=true→∀ e ∈ o.after,Region.binds .any e=true→aR.getD e.on false=true) →
   o2 P pr ro l.toArray ((left l.toArray aR).map fun i=>(l.getD i default,ey.getD i 2)) e0 m0 e' m'→mZ N c0 e0 m0 a0→Grow pr c c0 →
   wpAny P .any l.toArray (fun x a' w'=>x=.normal∧∃ c':Cx,c'.w=w'∧mZ N c' e' m' a'∧Grow pr c c') fuel aR a0 c0.w:=by
  have zB:=List.all_eq_true.1 gP
  have jH:∀ aR:Array Bool,∀ i ∈ Region.ready .any l.toArray aR,i ∈ left l.toArray aR∧∀ o,l.toArray[i]?=some o→∀ e ∈ o.after,Region.binds .any e=true→aR.getD e.on false=true:=by
   intro aR i hi
   unfold Region.ready at hi
   simp only [List.mem_filter,Bool.and_eq_true] at hi
   refine ⟨by unfold left; exact List.mem_filter.2 ⟨hi.1,hi.2.1⟩,fun o ho e he hb=>?_⟩
   have h2:=hi.2.2
   rw [ho] at h2
   simp only [Option.map_some,Option.getD_some] at h2
   have:=(Array.all_eq_true_iff_forall_mem.1 h2) e he
   simpa [hb] using this
  have oS:∀ (aR:Array Bool) (e0:Env) (m0:Mem) (c0:Cx) (a0:Act),left l.toArray aR=[]→o2 P pr ro l.toArray ((left l.toArray aR).map fun i=>(l.getD i default,ey.getD i 2)) e0 m0 e' m'→mZ N c0 e0 m0 a0→Grow pr c c0→(∃ c':Cx,c'.w=c0.w∧mZ N c' e' m' a0∧Grow pr c c'):=by
   intro aR e0 m0 c0 a0 hl BT Ih yh
   rw [hl] at BT
   obtain ⟨rfl,rfl⟩:=BT
   exact ⟨c0,rfl,Ih,yh⟩
  intro fuel
  induction fuel with
  | zero =>
   intro aR e0 m0 c0 a0 fe hlen hcl BT Ih yh
   have hl:left l.toArray aR=[]:=List.eq_nil_of_length_eq_zero (by omega)
   refine ⟨?_,rfl,oS aR e0 m0 c0 a0 hl BT Ih yh⟩
   rw [List.eq_nil_iff_forall_not_mem]
   intro i hi
   have:=(jH aR i hi).1
   rw [hl] at this; cases this
  | succ fuel ih =>
   intro aR e0 m0 c0 a0 fe hlen hcl BT Ih yh
   have Ie:(left l.toArray aR).Pairwise (·<·):=by unfold left; exact List.Pairwise.filter _ List.pairwise_lt_range
   refine ⟨fun qc=>?_,fun i hi=>?_⟩
   ·refine ⟨rfl,oS aR e0 m0 c0 a0 ?_ BT Ih yh⟩
    cases hl:left l.toArray aR with
    | nil=>rfl
    | cons i r =>
     exfalso
     have rP:i ∈ left l.toArray aR:=by rw [hl]; simp
     have fw:=rP
     unfold left at fw
     simp only [List.mem_filter,List.mem_range] at fw
     have hlt:=fw.1
     have ub:l.toArray[i]?=some (l.toArray[i]'hlt):=by simp [hlt]
     have Sy:i ∈ Region.ready .any l.toArray aR:=by
      unfold Region.ready
      simp only [List.mem_filter,List.mem_range,Bool.and_eq_true]
      refine ⟨hlt,fw.2,?_⟩
      rw [ub]
      simp only [Option.map_some,Option.getD_some]
      rw [Array.all_eq_true_iff_forall_mem]
      intro e he
      by_cases hb:Region.binds .any e=true
      ·have h1:=zB i (by simpa using hlt)
       rw [ub] at h1
       simp only [Bool.and_eq_true,List.all_eq_true] at h1
       have h2:=h1.1 e (by simpa using he)
       simp only [hb,Bool.not_true,Bool.false_or,decide_eq_true_eq] at h2
       have h3:e.on ∉ left l.toArray aR:=by
        rw [hl]
        intro hm
        rw [hl] at Ie
        rcases List.mem_cons.1 hm with h4 | h4
        ·omega
        ·have:=(List.pairwise_cons.1 Ie).1 _ h4; omega
       unfold left at h3
       simp only [List.mem_filter,List.mem_range,not_and] at h3
       have h4:=h3 (by omega)
       have h5:e.on<aR.size:=by omega
       simp only [hb,Bool.not_true,Bool.false_or]
       simpa [h5] using h4
      ·simp [hb]
     rw [qc] at Sy; cases Sy
   ·obtain ⟨rP,py⟩:=jH aR i hi
    have fw:=rP
    unfold left at fw
    simp only [List.mem_filter,List.mem_range] at fw
    have hlt:=fw.1
    have OP:i<l.length:=by simpa using hlt
    have ub:l.toArray[i]?=some (l.getD i default):=by simp [OP]
    obtain ⟨pre,post,jG⟩:=List.append_of_mem rP
    rw [jG] at Ie
    have ue:∀ k ∈ pre,k<i:=fun k hk=>(List.pairwise_append.1 Ie).2.2 k hk i (by simp)
    have yl:∀ k ∈ post,i<k:=fun k hk=>(List.pairwise_cons.1 (List.pairwise_append.1 Ie).2.1).1 k hk
    have tY:left l.toArray (aR.setIfInBounds i true)=pre++post:=by
     have e1:left l.toArray (aR.setIfInBounds i true)=(left l.toArray aR).filter fun k=>k != i:=by
      unfold left
      rw [List.filter_filter]
      apply List.filter_congr
      intro k hk
      by_cases wC:k=i
      ·subst wC
       have:k<aR.size:=by omega
       simp [this]
      ·simp [Array.getElem?_setIfInBounds_ne (Ne.symm wC),wC]
     rw [e1,jG,List.filter_append,List.filter_cons]
     simp only [bne_self_eq_false,Bool.false_eq_true,if_false]
     rw [List.filter_eq_self.2 (fun k hk=>by have:=ue k hk; simp; omega),List.filter_eq_self.2 (fun k hk=>by have:=yl k hk; simp; omega)]
    rw [jG,List.map_append,List.map_cons] at BT
    have Cy:=pF _ _ (by
     intro x hx
     simp only [List.mem_map] at hx
     obtain ⟨k,hk,rfl⟩:=hx
     have h1:=zB i (by simpa using hlt)
     rw [ub] at h1
     simp only [Bool.and_eq_true,List.all_eq_true] at h1
     have wC:=ue k hk
     have h2:=h1.2 k (by simpa using wC)
     have H7:l.toArray[k]?=some (l.getD k default):=by simp [show k<l.length by omega]
     rw [H7] at h2
     simp only [Bool.or_eq_true] at h2
     rcases h2 with h2 | h2
     ·exact h2
     ·exfalso
      have h3:=jP hcl fe 6 k i _ ub (py _ ub) h2
      have h4:k ∈ left l.toArray aR:=by rw [jG]; simp [hk]
      unfold left at h4
      simp only [List.mem_filter,List.mem_range] at h4
      have h5:k<aR.size:=by omega
      have h6:=h4.2
      simp [h5] at h3 h6
      rw [h3] at h6; cases h6) BT
    obtain ⟨lv,m1,nP,jM⟩:=Cy
    unfold wpOp
    rw [ub]
    simp only
    refine zd Sr (Sr _ (Array.mem_of_getElem? ub)) nP c0 a0 _ _ Ih ?_
    intro a' c' kJ Iq
    refine ih (aR.setIfInBounds i true) _ m1 c' a' (by simpa using fe) ?_ ?_ ?_ kJ (yh.trans Iq.grow)
    ·rw [tY]
     rw [jG] at hlen
     simp at hlen ⊢; omega
    ·intro j o SJ hj e he hb
     have jd:∀ q,aR.getD q false=true→(aR.setIfInBounds i true).getD q false=true:=by
      intro q hq
      by_cases LA:q=i
      ·subst LA
       have:q<aR.size:=by omega
       simp [this]
      ·simpa [Array.getElem?_setIfInBounds_ne (Ne.symm LA)] using hq
     apply jd
     by_cases Eg:j=i
     ·subst Eg; exact py o SJ e he hb
     ·refine hcl j o SJ ?_ e he hb
      simpa [Array.getElem?_setIfInBounds_ne (Ne.symm Eg)] using hj
    ·rw [tY,List.map_append]; exact jM
 have iI:left l.toArray (Array.replicate l.toArray.size false)=List.range l.length:=by
  unfold left
  rw [List.filter_eq_self.2]
  ·simp
  ·intro i hi
   simp at hi
   simp [hi]
 have kJ:mZ N ⟨{ c.w with drawn:=c.w.drawn+1 },c.B,c.O⟩ e m a:=by
  obtain ⟨k5,Pa⟩:=hr.mem.ext (pr:=pr) { c.w with drawn:=c.w.drawn+1 } rfl rfl rfl (Nat.le_succ _) (Nat.le_refl _) (fun _ _=>rfl)
  exact ⟨fun i=>Pa.yJ (hr.env i),k5,hr.size,hr.defers⟩
 have vO:Grow pr c ⟨{ c.w with drawn:=c.w.drawn+1 },c.B,c.O⟩:=(hr.mem.ext (pr:=pr) { c.w with drawn:=c.w.drawn+1 } rfl rfl rfl (Nat.le_succ _) (Nat.le_refl _) (fun _ _=>rfl)).2.grow
 refine key l.toArray.size (Array.replicate l.toArray.size false) e m ⟨{ c.w with drawn:=c.w.drawn+1 },c.B,c.O⟩ a (by simp) (by rw [iI]; simp) ?_ (by rw [iI]; exact hc) kJ vO
 intro i o ho hl
 have:i<l.toArray.size:=by
  rcases Nat.lt_or_ge i l.toArray.size with h' | h'
  ·exact h'
  ·simp at h'; simp [List.getElem?_eq_none h'] at ho
 simp at this
 simp [this] at hl
theorem rG (l:List Oper) (ey:List Nat) (h:ey.length=l.length):((List.range l.length).map fun i=>(l.getD i default,ey.getD i 2))=l.zip ey:=by
 apply List.ext_getElem?
 intro i
 simp only [List.getElem?_map,List.zip,List.getElem?_zipWith]
 by_cases hi:i<l.length
 ·have fD:i<ey.length:=by omega
  simp [hi,fD]
 ·simp [hi]
theorem LH.du {id:Nat} {l:List Oper} {y:Code} {Q:Exit→Env→Mem→Prop} {e:Env} {m:Mem} (yj:P.follows .mixedOrders=true) (ro:List Nat) (ey:List Nat) (el:List (Nat × LV)) (ml:List (Nat × LE)) (hlen:ey.length=l.length) (hd:kX N l=true) (gP:Co l.toArray ey=true)
  (h:cQ P pr ro l.toArray (l.zip ey) (fun e m=>Wk pr e m (Env.of el) (Mem.of ml)) e m) (hr:LH P N pr y Q (Env.of el) (Mem.of ml)):LH P N pr (.seq (.region id l.toArray true) y) Q e m:=by
  obtain ⟨e',m',hK,hc⟩:=kF _ h
  rw [← rG l ey hlen] at hc
  exact LH.seq (LH.EV yj ro ey hd gP hc (LH.wk hK hr))
section
variable {e:Env} {m:Mem} {d:Option Nat} {ty:TypeId} {pos:String} {af:Array Edge} {K:Env→Mem→Prop}
theorem za (op:Op) (md j:Nat) (want:Bool):gK P pr ro ops md ⟨d,op,ty,pos,af,some (j,want)⟩ K e m=match (ops[j]?).bind (·.dst) with
  | some q=>match e q with
   | .bool t=>if t=want then gK P pr ro ops md ⟨d,op,ty,pos,af,.none⟩ K e m else K (e.fW d (.tup [])) m
   | .tup []=>K (e.fW d (.tup [])) m
   | _=>False
  | .none=>False:=by
 unfold gK
 simp only [gd]
 cases hq:(ops[j]?).bind (·.dst) with
 | none=>rfl
 | some q =>
  simp only
  cases he:e q
  case tup vs=>cases vs <;> rfl
  case bool t =>
   simp only
   by_cases ht:t=want
   ·subst ht
    simp only [beq_self_eq_true,if_true]
    split <;> first | exact Fm .. | rfl
   ·have:(t == want)=false:=by simpa using ht
    simp only [this,ht,if_false]
  all_goals rfl
where
 Fm {P:Program} {pr:Nat→Prop} {ro:List Nat} {d:Option Nat} {op:Op} {ty:TypeId} {pos:String} {af:Array Edge} {g g':Option (Nat × Bool)} {ev:Operand→LV} {m:Mem} {K:LV→Mem→Prop}:LOp P pr ro ⟨d,op,ty,pos,af,g⟩ ev m K=LOp P pr ro ⟨d,op,ty,pos,af,g'⟩ ev m K:=rfl
end
attribute [go_sem] List.zip_cons_cons List.zip_nil_left List.getElem?_toArray Option.bind_some
end
end Go.L
