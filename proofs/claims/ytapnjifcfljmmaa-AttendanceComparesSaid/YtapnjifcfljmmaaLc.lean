/- A logic over logical memory, part 3: what each operation does to logical values. -/
import Derived.Test.YtapnjifcfljmmaaLb
set_option linter.unusedVariables false
set_option linter.unusedSimpArgs false
namespace Go.L

def tsize (P : Program) (t : TypeId) : Nat := ((P.info? t).map (·.size)).getD 0
def tagg (P : Program) (t : TypeId) : Bool := match P.underlying t with | some (.struct _) => true | some (.array _ _) => true | _ => false
def tok (P : Program) (t : TypeId) : Bool := (P.info? t).isSome && (P.underlying t).isSome
def telem (P : Program) (t : TypeId) : Option Nat := match P.underlying t with | some (.slice e) => some e | _ => .none
def tfield (P : Program) (t : TypeId) (f : Nat) : Option (Nat × Nat) := match P.underlying t with | some (.struct fs) => (fs[f]?).map fun x => (x.offset, x.type) | _ => .none
def tbool (P : Program) (t : TypeId) : Bool := match P.underlying t with | some .bool => true | _ => false
def tint (P : Program) (t : TypeId) : Option IntKind := match P.underlying t with | some (.int k) => some k | _ => .none
/-- an element type of a row: its zero is known, of as many one-cell values as its size says, and it is not too wide -/
def trow (P : Program) (t : TypeId) : Bool := match P.info? t with
  | some i => (match i.zero with | some z => z.cells.size == i.size && z.cells.all (·.oneCell') | .none => false) && decide (0 < i.size) && decide (i.bytes ≤ 128)
  | .none => false
def ofV1 : Value → LV
  | .int k n => .int k n
  | .bool b => .bool b
  | .slice .none 0 0 => .nil
  | .pointer .none => .nilp
  | .nilFunc => .nilf
  | _ => .und
def ofV : Value → LV
  | .agg cs => .agg (cs.toList.map ofV1)
  | v => ofV1 v
def tzero (P : Program) (t : TypeId) : Option LV := match P.info? t with
  | some i => (match i.zero with | some z => if z.cells.all (·.oneCell') then some (ofV z) else .none | .none => .none)
  | .none => .none

def tbuild (P : Program) (t : TypeId) : Bool := match P.underlying t with
  | some (.struct fields) => (fields.toList.mapM (fun f => (P.info? f.type).map fun i => (f.offset, i.size))).isSome
  | _ => false

def lev (e : Env) : Operand → LV
  | .tmp t => e t
  | .const v => ofV v
  | .global _ => .und
  | .func f => .fn f []

def rep (cs : List LV) (o : Nat) (ns : List LV) : List LV := cs.take o ++ ns ++ cs.drop (o + ns.length)

def exact1 : LV → Option Value
  | .int k n => some (.int k n)
  | .bool b => some (.bool b)
  | _ => .none
def exactL : List LV → Option (List Value)
  | [] => some []
  | x :: xs => match exact1 x, exactL xs with | some v, some vs => some (v :: vs) | _, _ => .none

/-- '==' of two structs of numbers and bools. -/
def AggEq (P : Program) (t : TypeId) (xs ys : List LV) (b : Bool) : Prop :=
  P.eqGuardType P.depth t = false ∧ ∃ vs us, exactL xs = some vs ∧ exactL ys = some us ∧ ∀ w, (Op.equal t (.agg vs.toArray) (.agg us.toArray)).run P w = .ok b w

def loadC (P : Program) (t : TypeId) (cs : List LV) (K : LV → Prop) : Prop :=
  tok P t = true ∧ if tagg P t = true then tsize P t ≤ cs.length ∧ K (.agg (cs.take (tsize P t))) else match cs with | x :: _ => K x | [] => False

def intBin (op : BinOp) (k : IntKind) (a b : Int) (K : LV → Prop) : Prop :=
  match op with
  | .add => K (.int k (k.wrap (a + b)))
  | .sub => K (.int k (k.wrap (a - b)))
  | .mul => K (.int k (k.wrap (a * b)))
  | .quo => b ≠ 0 ∧ K (.int k (k.wrap (a.tdiv b)))
  | .rem => b ≠ 0 ∧ K (.int k (a.tmod b))
  | .eql => K (.bool (a == b))
  | .neq => K (.bool (a != b))
  | .lss => K (.bool (decide (a < b)))
  | .leq => K (.bool (decide (a ≤ b)))
  | .gtr => K (.bool (decide (a > b)))
  | .geq => K (.bool (decide (a ≥ b)))
  | _ => False

/-- a part of a struct's literal -/
def lfill (P : Program) (t : TypeId) : List LV → List (Nat × LV) → Option (List LV)
  | cs, [] => some cs
  | cs, (i, x) :: r => match tfield P t i with
    | some (off, ft) => if x.cells.length = tsize P ft ∧ off + x.cells.length ≤ cs.length ∧ tok P ft = true ∧ x.cells.all LV.scalar = true then lfill P t (rep cs off x.cells) r else .none
    | .none => .none

/-- an element, of which some cells are written -/
def setEl (y : LV) (o : Nat) (x : LV) : Option LV :=
  match y with
  | .agg cs => if o + x.cells.length ≤ cs.length ∧ cs.all LV.scalar = true then some (.agg (rep cs o x.cells)) else .none
  | _ => if o = 0 ∧ x.scalar = true ∧ y.scalar = true then some x else .none

/-- A call: the callee's contract, with the pieces of memory that it gets. -/
def CallS (P : Program) (f : Nat) (args : List LV) (m : Mem) (K : LV → Mem → Prop) : Prop :=
  ∃ lv mc mc', LCall P f args mc lv mc' ∧ (∀ id, mc id ≠ .none → m id = mc id) ∧ (∀ id, mc id = .none → mc' id ≠ .none → m id = .none) ∧
    (∀ id, LV.norefL id args = false → mc id ≠ .none) ∧ (∀ id cs, mc id = some (.box cs) → ∀ j, LV.norefL j cs = false → mc j ≠ .none) ∧ K lv (m.over mc')

def okEls (k : Nat) (xs : List LV) : Prop := ∀ x ∈ xs, x.pure = true ∧ x.cells.length = k ∧ x.cells.all LV.scalar = true

/-- What one operation does: 'K' of the value it gives and the memory behind it. 'ro': the slots whose boxes are never written. New memory gets the id 100 + its slot. -/
def LOp (P : Program) (pr : Nat → Prop) (ro : List Nat) (o : Oper) (ev : Operand → LV) (m : Mem) (K : LV → Mem → Prop) : Prop :=
  match o.op with
  | .move x => K (ev x) m
  | .assign x => K (ev x) m
  | .pick c a b => match ev c with | .bool t => K (if t then ev a else ev b) m | _ => False
  | .alloc t => match tzero P t, o.dst with
    | some z, some d => m (100 + d) = .none ∧ K (.ptr (100 + d) 0) (m.put (100 + d) (.box z.cells))
    | _, _ => False
  | .box _ x => match o.dst with
    | some d => (ev x).cells.all LV.scalar = true ∧
      if ro.contains d = true then K (.sptr (ev x).cells) m
      else m (100 + d) = .none ∧ K (.ptr (100 + d) 0) (m.put (100 + d) (.box (ev x).cells))
    | .none => False
  | .build t parts => tbuild P t = true ∧ match tzero P t with
    | some (.agg z) => match lfill P t z (parts.toList.map fun p => (p.1, ev p.2)) with
      | some cs => K (.agg cs) m
      | .none => False
    | _ => False
  | .buildSlice t len parts => match telem P t with
    | some e => trow P e = true ∧ len * tsize P e ≤ 16777216 ∧ parts.toList.map (·.1) = List.range len ∧ okEls (tsize P e) (parts.toList.map fun p => ev p.2) ∧ K (.lst (tsize P e) (parts.toList.map fun p => ev p.2)) m
    | .none => False
  | .load t a => match ev a with
    | .sptr cs => loadC P t cs fun lv => K lv m
    | .ptr id o => match m id with
      | some (.box cs) => o ≤ cs.length ∧ loadC P t (cs.drop o) fun lv => K lv m
      | _ => False
    | .eptr id n i o => match m id with
      | some (.arr _ _ xs) => n = xs.length ∧ ∃ x, xs[i]? = some x ∧ x.cells.all LV.scalar = true ∧ o ≤ x.cells.length ∧ loadC P t (x.cells.drop o) fun lv => K lv m
      | _ => False
    | _ => False
  | .store t a x => (ev x).cells.all LV.scalar = true ∧ tok P t = true ∧ tsize P t = (ev x).cells.length ∧ match ev a with
    | .ptr id o => match m id with
      | some (.box cs) => o + (ev x).cells.length ≤ cs.length ∧ K .und (m.put id (.box (rep cs o (ev x).cells)))
      | _ => False
    | .eptr id n i o => match m id with
      | some (.arr e k xs) => n = xs.length ∧ LV.pureL (ev x).cells = true ∧ ∃ y z, xs[i]? = some y ∧ setEl y o (ev x) = some z ∧ K .und (m.put id (.arr e k (xs.set i z)))
      | _ => False
    | _ => False
  | .nilCheck x => match ev x with
    | .ptr _ _ => K (ev x) m
    | .sptr _ => K (ev x) m
    | .eptr id n _ _ => (match m id with | some (.arr _ _ xs) => n = xs.length | _ => False) ∧ K (ev x) m
    | .fn _ _ => K (ev x) m
    | _ => False
  | .binOp op t x y _ => match ev x, ev y with
    | .int k a, .int k' b => k = k' ∧ intBin op k a b fun lv => K lv m
    | .bool a, .bool b => tbool P t = true ∧ (match op with | .eql => K (.bool (a == b)) m | .neq => K (.bool (!(a == b))) m | _ => False)
    | .agg xs, .agg ys => ∃ b, AggEq P t xs ys b ∧ (match op with | .eql => K (.bool b) m | .neq => K (.bool (!b)) m | _ => False)
    | _, _ => False
  | .unOp op _ x => match op, ev x with
    | .not, .bool b => K (.bool (!b)) m
    | .neg, .int k n => K (.int k (k.wrap (0 - n))) m
    | _, _ => False
  | .convert s t x => tok P s = true ∧ match tint P t, ev x with
    | some k, .int _ n => K (.int k (k.wrap n)) m
    | _, _ => False
  | .slice t x lo hi mx => (telem P t).isSome = true ∧ tok P ((telem P t).getD 0) = true ∧ mx = .none ∧ match ev x with
    | .lst k xs => some k = (telem P t).map (tsize P) ∧ ∃ l h : Nat, (match lo with | .none => l = 0 | some y => ev y = .int .i64 l) ∧ (match hi with | .none => h = xs.length | some y => ev y = .int .i64 h) ∧
        l ≤ h ∧ h ≤ xs.length ∧ K (.lst k ((xs.take h).drop l)) m
    | .nil => (match lo with | .none => True | some y => ev y = .int .i64 0) ∧ (match hi with | .none => True | some y => ev y = .int .i64 0) ∧ K .nil m
    | _ => False
  | .fieldAddr t x f => match tfield P t f with
    | some (off, ft) => tok P ft = true ∧ tsize P ft ≠ 0 ∧ match ev x with
      | .sptr cs => off ≤ cs.length ∧ K (.sptr (cs.drop off)) m
      | .ptr id o => K (.ptr id (o + off)) m
      | .eptr id n i o => (match m id with | some (.arr _ _ xs) => n = xs.length | _ => False) ∧ K (.eptr id n i (o + off)) m
      | _ => False
    | .none => False
  | .field t x f => match tfield P t f, ev x with
    | some (off, ft), .agg cs => off ≤ cs.length ∧ loadC P ft (cs.drop off) fun lv => K lv m
    | _, _ => False
  | .indexAddr t x i => match telem P t, ev x, ev i with
    | some e, .lst k xs, .int _ n => tok P e = true ∧ k = tsize P e ∧ 0 ≤ n ∧ ∃ y, xs[n.toNat]? = some y ∧ y.cells.all LV.scalar = true ∧ K (.sptr y.cells) m
    | some e, .arr id l, .int _ n => match m id with
      | some (.arr _ k xs) => tok P e = true ∧ l = xs.length ∧ k = tsize P e ∧ 0 ≤ n ∧ n < l ∧ K (.eptr id l n.toNat 0) m
      | _ => False
    | _, _, _ => False
  | .extract t i => match ev t with
    | .tup vs => ∃ v, vs[i]? = some v ∧ K v m
    | _ => False
  | .makeFunc f first cap => match f with
    | .func f => first = #[] ∧ K (.fn f (cap.toList.map ev)) m
    | _ => False
  | .makeSlice t l c => match telem P t, tzero P ((telem P t).getD 0), ev l, ev c, o.dst with
    | some e, some z, .int .i64 n, .int .i64 n', some d => n = n' ∧ 0 ≤ n ∧ n ≤ 1099511627776 ∧ trow P e = true ∧ z.pure = true ∧ m (100 + d) = .none ∧
        K (.arr (100 + d) n.toNat) (m.put (100 + d) (.arr e (tsize P e) (List.replicate n.toNat z)))
    | _, _, _, _, _ => False
  | .call c => match c.callee with
    | .builtin .len => match c.args.toList, c.argTypes.toList with
      | [x], [t] => (telem P t).isSome = true ∧ match ev x with
        | .lst _ xs => K (.int .i64 xs.length) m
        | .nil => K (.int .i64 0) m
        | .arr id n => (match m id with | some (.arr _ _ xs) => n = xs.length | _ => False) ∧ K (.int .i64 n) m
        | _ => False
      | _, _ => False
    | .builtin .append => match c.args.toList, c.argTypes.toList with
      | [x, y], [t, t'] => t = t' ∧ match telem P t with
        | some e => trow P e = true ∧ ∃ ys, (ev y = .lst (tsize P e) ys ∨ (ev y = .nil ∧ ys = [])) ∧ match ev x with
          | .arr id n => ¬ pr id ∧ match m id with
            | some (.arr e' k xs) => e' = e ∧ k = tsize P e ∧ n = xs.length ∧ xs.length + ys.length ≤ 1099511627776 ∧ K (.arr id (n + ys.length)) (m.put id (.arr e k (xs ++ ys)))
            | _ => False
          | .nil => match o.dst with
            | some d => m (100 + d) = .none ∧ ys.length ≤ 1099511627776 ∧ K (.arr (100 + d) ys.length) (m.put (100 + d) (.arr e (tsize P e) ys))
            | .none => False
          | _ => False
        | .none => False
      | _, _ => False
    | .value x => match ev x with
      | .fn f cap => (∃ fn, P.funcs[f]? = some fn ∧ (fn.name == "runtime.NumGoroutine") = false ∧ fn.body.isNone = false) ∧ CallS P f (c.args.toList.map ev ++ cap) m K
      | _ => False
    | _ => False
  | _ => False

def LStep (P : Program) (pr : Nat → Prop) (ro : List Nat) (ops : Array Oper) (o : Oper) (K : Env → Mem → Prop) (e : Env) (m : Mem) : Prop :=
  match o.guard with
  | .none => LOp P pr ro o (lev e) m fun lv m' => K (e.put? o.dst lv) m'
  | some (j, want) => match (ops[j]?).bind (·.dst) with
    | some g => match e g with
      | .bool t => if t = want then LOp P pr ro o (lev e) m fun lv m' => K (e.put? o.dst lv) m' else K (e.put? o.dst (.tup [])) m
      | .tup [] => K (e.put? o.dst (.tup [])) m
      | _ => False
    | .none => False

def LOps (P : Program) (pr : Nat → Prop) (ro : List Nat) (ops : Array Oper) : List Oper → (Env → Mem → Prop) → Env → Mem → Prop
  | [], K => K
  | o :: os, K => LStep P pr ro ops o (LOps P pr ro ops os K)

/-- What holds of an operation once its outcome is fixed. -/
def OpOk (P : Program) (pr : Nat → Prop) (o : Oper) (ev : Operand → LV) (m : Mem) (lv : LV) (m' : Mem) : Prop :=
  ∀ (c : Cx) (a : Act) (Q : Exit → Act → World → Prop), (∀ x, RepV c (ev x) (a.eval x)) → RepM c m →
    o.wp P a c.w (fun a' w' => ∃ v c', a' = a.put o.dst v ∧ c'.w = w' ∧ RepV c' lv v ∧ RepM c' m' ∧ Step pr c c') Q

end Go.L
