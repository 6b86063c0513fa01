/- A logic over logical memory, part 1: logical values, what they represent in a world, and how that is kept. -/
import Derived.Below
import Derived.Orders
import Derived.Deep.MidRow
import Derived.Laws.AppendOwn
import Derived.Laws.AppendOwnNone
import Derived.Laws.StructEq
import Derived.KernelRfl
namespace Go.L

/-- A logical value. 'lst k xs': a slice that reads as xs (k cells an element), never written; 'sptr cs': the address of cells that are never written; 'arr id n': the slice over the whole owned row id; 'ptr id o', 'eptr id n i o': addresses in owned memory. -/
inductive LV where
  | und
  | int (k : IntKind) (n : Int)
  | bool (b : Bool)
  | nil
  | nilp
  | lst (k : Nat) (xs : List LV)
  | sptr (cs : List LV)
  | arr (id n : Nat)
  | ptr (id o : Nat)
  | eptr (id n i o : Nat)
  | agg (cs : List LV)
  | tup (vs : List LV)
  | fn (f : Nat) (cap : List LV)
  /-- a slice of which the length alone is known -/
  | slen (n : Nat)
  /-- no function -/
  | nilf
  /-- a function with its first arguments -/
  | bfn (f : Nat) (fs : List LV)
  | mp (id : Nat)
  deriving Inhabited

/-- An owned piece of memory: a box of cells, or a row of elements (e: the element type, k: cells an element). -/
inductive LE where
  | box (cs : List LV)
  | arr (e k : Nat) (xs : List LV)
  | map (kt vt : Nat) (es : List (LV × LV))
  /-- a row whose elements own slices: os says at which cells (and the element type and its cells of the slices there) -/
  | nest (e k : Nat) (os : List (Nat × Nat × Nat)) (xs : List LV)
  /-- a row that was given away -/
  | dead

abbrev Mem := Nat → Option LE
abbrev Env := Nat → LV

def Mem.none : Mem := fun _ => Option.none
def Mem.put (m : Mem) (id : Nat) (x : LE) : Mem := fun i => if i = id then some x else m i
def Env.put (e : Env) (d : Nat) (v : LV) : Env := fun i => if i = d then v else e i
def Env.put? (e : Env) (d : Option Nat) (v : LV) : Env := match d with | some d => e.put d v | .none => e
def Env.of : List (Nat × LV) → Env
  | [] => fun _ => .und
  | (d, v) :: r => fun i => if i = d then v else Env.of r i
def Mem.of : List (Nat × LE) → Mem
  | [] => fun _ => Option.none
  | (d, v) :: r => fun i => if i = d then some v else Mem.of r i

mutual
def LV.pure : LV → Bool
  | .sptr cs => LV.pureL cs
  | .arr _ _ => false
  | .ptr _ _ => false
  | .eptr _ _ _ _ => false
  | .mp _ => false
  | .agg cs => LV.pureL cs
  | .tup cs => LV.pureL cs
  | .fn _ cs => LV.pureL cs
  | .bfn _ cs => LV.pureL cs
  | _ => true
def LV.pureL : List LV → Bool
  | [] => true
  | x :: xs => x.pure && LV.pureL xs
end

mutual
/-- does the value not speak of id? -/
def LV.noref (id : Nat) : LV → Bool
  | .sptr cs => LV.norefL id cs
  | .arr i _ => i != id
  | .ptr i _ => i != id
  | .eptr i _ _ _ => i != id
  | .mp i => i != id
  | .agg cs => LV.norefL id cs
  | .tup cs => LV.norefL id cs
  | .fn _ cs => LV.norefL id cs
  | .bfn _ cs => LV.norefL id cs
  | _ => true
def LV.norefL (id : Nat) : List LV → Bool
  | [] => true
  | x :: xs => x.noref id && LV.norefL id xs
end

def LV.cells : LV → List LV
  | .agg cs => cs
  | x => [x]

/-- a value of one cell -/
def LV.scalar : LV → Bool
  | .und => false
  | .agg _ => false
  | .tup _ => false
  | _ => true

/-- Where an id lies: a box in a block; a row under a slice value. -/
inductive BE where
  | box (b n : Nat)
  | arr (v : Value) (k len : Nat) (ins : List Nat)
  | mp (b : Nat)

/-- the blocks that an id's place has: its own one, and those of the slices inside its elements -/
def BE.has : BE → Nat → Prop
  | .box b' _, b => b' = b
  | .arr v _ _ ins, b => v.ownBlock = some b ∨ b ∈ ins
  | .mp b', b => b' = b

/-- the same place, but for what lies inside -/
def BE.Same : BE → BE → Prop
  | .box b n, y => y = .box b n
  | .arr u k len _, y => ∃ ins, y = .arr u k len ins
  | .mp b, y => y = .mp b
theorem BE.Same.refl (x : BE) : x.Same x := by cases x <;> simp [BE.Same]
theorem BE.Same.trans {x y z : BE} (h : x.Same y) (h' : y.Same z) : x.Same z := by
  cases x with
  | box b n => simp only [BE.Same] at h; subst h; exact h'
  | arr u k len ins => simp only [BE.Same] at h; obtain ⟨ins', rfl⟩ := h; exact h'
  | mp b => simp only [BE.Same] at h; subst h; exact h'

structure Cx where
  w : World
  B : Nat → Option BE
  O : Nat → Prop

def Cx.own (c : Cx) (b : Nat) : Prop := ∃ id be, c.B id = some be ∧ be.has b
def Cx.X (c : Cx) (b : Nat) : Prop := c.O b ∨ c.own b

def flat (vs : List Value) : List Value := vs.flatMap fun v => v.cells.toList

mutual
def RepV (c : Cx) : LV → Value → Prop
  | .und, _ => True
  | .int k n, v => v = .int k n
  | .bool b, v => v = .bool b
  | .nil, v => v = .slice Option.none 0 0
  | .slen n, v => ∃ a cap, v = .slice a n cap
  | .nilf, v => v = .nilFunc
  | .nilp, v => v = .pointer Option.none
  | .lst k xs, v => ∃ a cap, v = .slice a xs.length cap ∧ xs.length ≤ cap ∧ (a = Option.none → cap = 0) ∧ LV.pureL xs = true ∧
      (xs = [] ∨ ∃ b off vs, a = some ⟨b, off, Option.none⟩ ∧ b < c.w.heap.size ∧ ¬ c.X b ∧ RepL c xs vs ∧ (∀ u ∈ vs, u.cells.size = k ∧ ∀ y ∈ u.cells, y.oneCell' = true) ∧ c.w.rangeAt b off (flat vs))
  | .sptr cs, v => ∃ b off vs, v = .pointer (some ⟨b, off, Option.none⟩) ∧ b < c.w.heap.size ∧ ¬ c.X b ∧ RepL c cs vs ∧ (∀ y ∈ vs, y.oneCell' = true) ∧ c.w.rangeAt b off vs
  | .arr id n, v => v.oneCell' = true ∧ ∃ u k len ins, c.B id = some (.arr u k len ins) ∧ n ≤ len ∧ (n = len → v = u)
  | .ptr id o, v => ∃ b n, c.B id = some (.box b n) ∧ v = .pointer (some ⟨b, o, Option.none⟩)
  | .eptr id n i o, v => v.oneCell' = true ∧ ∃ u k len ins, c.B id = some (.arr u k len ins) ∧ n ≤ len ∧ (n = len → ∃ b, u.ownBlock = some b ∧ v = .pointer (some ⟨b, i * k + o, Option.none⟩))
  | .mp id, v => ∃ b, c.B id = some (.mp b) ∧ v = .map (some b)
  | .agg cs, v => ∃ vs, v = .agg vs.toArray ∧ RepL c cs vs
  | .tup cs, v => ∃ vs, v = .tuple vs.toArray ∧ RepL c cs vs
  | .fn f cs, v => ∃ vs, v = .func (.func f) #[] vs.toArray ∧ RepL c cs vs
  | .bfn f cs, v => ∃ vs, v = .func (.func f) vs.toArray #[] ∧ RepL c cs vs
def RepL (c : Cx) : List LV → List Value → Prop
  | [], vs => vs = []
  | x :: xs, vs => ∃ v vs', vs = v :: vs' ∧ RepV c x v ∧ RepL c xs vs'
end

theorem RepL.length {c : Cx} : ∀ {xs : List LV} {vs : List Value}, RepL c xs vs → xs.length = vs.length
  | [], vs, h => by simp [RepL] at h; simp [h]
  | x :: xs, vs, h => by
    simp only [RepL] at h
    obtain ⟨v, vs', rfl, _, h'⟩ := h
    simp [h'.length]

theorem RepL.get {c : Cx} : ∀ {xs : List LV} {vs : List Value}, RepL c xs vs → ∀ {i : Nat} {x : LV}, xs[i]? = some x → ∃ v, vs[i]? = some v ∧ RepV c x v
  | [], vs, h, i, x, hx => by simp at hx
  | y :: xs, vs, h, i, x, hx => by
    simp only [RepL] at h
    obtain ⟨v, vs', rfl, hv, h'⟩ := h
    cases i with
    | zero => simp at hx; subst hx; exact ⟨v, by simp, hv⟩
    | succ i => simp at hx; obtain ⟨u, hu, hr⟩ := h'.get hx; exact ⟨u, by simpa using hu, hr⟩

theorem RepL.of {c : Cx} : ∀ {xs : List LV} {vs : List Value}, xs.length = vs.length → (∀ (i : Nat) x v, xs[i]? = some x → vs[i]? = some v → RepV c x v) → RepL c xs vs
  | [], vs, h, _ => by simp [RepL]; exact List.eq_nil_of_length_eq_zero (by simpa using h.symm)
  | x :: xs, [], h, _ => by simp at h
  | x :: xs, v :: vs, h, hr => by
    simp only [RepL]
    exact ⟨v, vs, rfl, hr 0 x v (by simp) (by simp), RepL.of (by simpa using h) fun i y u hy hu => hr (i + 1) y u (by simpa using hy) (by simpa using hu)⟩

theorem RepL.append {c : Cx} {xs ys : List LV} {vs us : List Value} (h : RepL c xs vs) (h' : RepL c ys us) : RepL c (xs ++ ys) (vs ++ us) := by
  induction xs generalizing vs with
  | nil => simp [RepL] at h; subst h; simpa using h'
  | cons x xs ih =>
    simp only [RepL] at h
    obtain ⟨v, vs', rfl, hv, h2⟩ := h
    simp only [List.cons_append, RepL]
    exact ⟨v, vs' ++ us, rfl, hv, ih h2⟩

theorem RepL.drop {c : Cx} {xs : List LV} {vs : List Value} (h : RepL c xs vs) (n : Nat) : RepL c (xs.drop n) (vs.drop n) := by
  induction n generalizing xs vs with
  | zero => simpa using h
  | succ n ih =>
    cases xs with
    | nil => simp [RepL] at h; subst h; simp [RepL]
    | cons x xs =>
      simp only [RepL] at h
      obtain ⟨v, vs', rfl, hv, h2⟩ := h
      simpa using ih h2

theorem RepL.take {c : Cx} {xs : List LV} {vs : List Value} (h : RepL c xs vs) (n : Nat) : RepL c (xs.take n) (vs.take n) := by
  induction n generalizing xs vs with
  | zero => simp [RepL]
  | succ n ih =>
    cases xs with
    | nil => simp [RepL] at h; subst h; simp [RepL]
    | cons x xs =>
      simp only [RepL] at h
      obtain ⟨v, vs', rfl, hv, h2⟩ := h
      simp only [List.take_succ_cons, RepL]
      exact ⟨v, _, rfl, hv, ih h2⟩

theorem pureL_iff : ∀ {xs : List LV}, LV.pureL xs = true ↔ ∀ x ∈ xs, x.pure = true
  | [] => by simp [LV.pureL]
  | x :: xs => by simp [LV.pureL, pureL_iff (xs := xs)]
theorem norefL_iff {id : Nat} : ∀ {xs : List LV}, LV.norefL id xs = true ↔ ∀ x ∈ xs, x.noref id = true
  | [] => by simp [LV.norefL]
  | x :: xs => by simp [LV.norefL, norefL_iff (xs := xs)]

mutual
theorem noref_of_pure {id : Nat} : ∀ (x : LV), x.pure = true → x.noref id = true
  | .und, _ | .int _ _, _ | .bool _, _ | .nil, _ | .slen _, _ | .nilf, _ | .nilp, _ | .lst _ _, _ => by simp [LV.noref]
  | .sptr cs, h => by simp only [LV.pure] at h; simp only [LV.noref]; exact norefL_of_pureL cs h
  | .arr _ _, h | .ptr _ _, h | .eptr _ _ _ _, h | .mp _, h => by simp [LV.pure] at h
  | .agg cs, h => by simp only [LV.pure] at h; simp only [LV.noref]; exact norefL_of_pureL cs h
  | .tup cs, h => by simp only [LV.pure] at h; simp only [LV.noref]; exact norefL_of_pureL cs h
  | .fn _ cs, h => by simp only [LV.pure] at h; simp only [LV.noref]; exact norefL_of_pureL cs h
  | .bfn _ cs, h => by simp only [LV.pure] at h; simp only [LV.noref]; exact norefL_of_pureL cs h
theorem norefL_of_pureL {id : Nat} : ∀ (xs : List LV), LV.pureL xs = true → LV.norefL id xs = true
  | [], _ => by simp [LV.norefL]
  | x :: xs, h => by
    simp only [LV.pureL, Bool.and_eq_true] at h
    simp only [LV.norefL, Bool.and_eq_true]
    exact ⟨noref_of_pure x h.1, norefL_of_pureL xs h.2⟩
end

/-- What an id's place may become. -/
def BLe (x y : Option BE) : Prop :=
  match x with
  | .none => True
  | some (.box b n) => y = some (.box b n)
  | some (.arr u k len _) => ∃ u' len' ins', y = some (.arr u' k len' ins') ∧ len ≤ len' ∧ (len = len' → u' = u)
  | some (.mp b) => y = some (.mp b)

theorem BLe.refl (x : Option BE) : BLe x x := by
  unfold BLe; split
  · trivial
  · rfl
  · exact ⟨_, _, _, rfl, Nat.le_refl _, fun _ => rfl⟩
  · rfl

theorem BLe.trans {x y z : Option BE} (h : BLe x y) (h' : BLe y z) : BLe x z := by
  unfold BLe at *
  split
  · trivial
  · simp only at h; subst h; exact h'
  · rename_i u k len ins
    obtain ⟨u', len', ins', rfl, hl, hu⟩ := h
    obtain ⟨u'', len'', ins'', rfl, hl', hu'⟩ := h'
    refine ⟨u'', len'', ins'', rfl, Nat.le_trans hl hl', fun e => ?_⟩
    rw [hu' (by omega), hu (by omega)]
  · simp only at h; subst h; exact h'

structure Cx.Le (c c' : Cx) : Prop where
  size : c.w.heap.size ≤ c'.w.heap.size
  heap : ∀ b, b < c.w.heap.size → ¬ c.X b → c'.w.heap[b]? = c.w.heap[b]? ∧ ¬ c'.X b

theorem rangeAt_same {w w' : World} {b off : Nat} {cs : List Value} (h : w.rangeAt b off cs) (hb : w'.heap[b]? = w.heap[b]?) : w'.rangeAt b off cs := by
  intro j v hv
  rw [World.cell?_of_block (w := w) (a := ⟨b, off + j, Option.none⟩) hb]
  exact h j v hv

mutual
theorem RepV.mono {c c' : Cx} (h : c.Le c') : ∀ (x : LV) (v : Value), (∀ id, x.noref id = false → BLe (c.B id) (c'.B id)) → RepV c x v → RepV c' x v
  | .und, v, _, hr => by simp only [RepV]
  | .int _ _, v, _, hr => by simpa only [RepV] using hr
  | .bool _, v, _, hr => by simpa only [RepV] using hr
  | .nil, v, _, hr => by simpa only [RepV] using hr
  | .slen _, v, _, hr => by simpa only [RepV] using hr
  | .nilf, v, _, hr => by simpa only [RepV] using hr
  | .nilp, v, _, hr => by simpa only [RepV] using hr
  | .lst k xs, v, _, hr => by
    simp only [RepV] at hr ⊢
    obtain ⟨a, cap, rfl, hcap, hn, hp, hx⟩ := hr
    refine ⟨a, cap, rfl, hcap, hn, hp, ?_⟩
    rcases hx with hx | ⟨b, off, vs, rfl, hb, hX, hl, hk, hra⟩
    · exact .inl hx
    · obtain ⟨h1, h2⟩ := h.heap b hb hX
      exact .inr ⟨b, off, vs, rfl, Nat.lt_of_lt_of_le hb h.size, h2, RepL.mono h xs vs (fun id hid => by rw [norefL_of_pureL xs hp] at hid; cases hid) hl, hk, rangeAt_same hra h1⟩
  | .sptr cs, v, hB, hr => by
    simp only [RepV] at hr ⊢
    obtain ⟨b, off, vs, rfl, hb, hX, hl, hk, hra⟩ := hr
    obtain ⟨h1, h2⟩ := h.heap b hb hX
    exact ⟨b, off, vs, rfl, Nat.lt_of_lt_of_le hb h.size, h2, RepL.mono h cs vs (fun id hid => hB id (by simpa only [LV.noref] using hid)) hl, hk, rangeAt_same hra h1⟩
  | .arr id n, v, hB, hr => by
    simp only [RepV] at hr ⊢
    obtain ⟨h1, u, k, len, ins, hu, hn, hv⟩ := hr
    have := hB id (by simp [LV.noref])
    rw [hu] at this
    obtain ⟨u', len', ins', hu', hl, he⟩ := this
    refine ⟨h1, u', k, len', ins', hu', Nat.le_trans hn hl, fun e => ?_⟩
    rw [he (by omega)]; exact hv (by omega)
  | .ptr id o, v, hB, hr => by
    simp only [RepV] at hr ⊢
    obtain ⟨b, n, hu, hv⟩ := hr
    have := hB id (by simp [LV.noref])
    rw [hu] at this
    exact ⟨b, n, this, hv⟩
  | .eptr id n i o, v, hB, hr => by
    simp only [RepV] at hr ⊢
    obtain ⟨h1, u, k, len, ins, hu, hn, hv⟩ := hr
    have := hB id (by simp [LV.noref])
    rw [hu] at this
    obtain ⟨u', len', ins', hu', hl, he⟩ := this
    refine ⟨h1, u', k, len', ins', hu', Nat.le_trans hn hl, fun e => ?_⟩
    rw [he (by omega)]; exact hv (by omega)
  | .mp id, v, hB, hr => by
    simp only [RepV] at hr ⊢
    obtain ⟨b, hu, hv⟩ := hr
    have := hB id (by simp [LV.noref])
    rw [hu] at this
    exact ⟨b, this, hv⟩
  | .agg cs, v, hB, hr => by
    simp only [RepV] at hr ⊢
    obtain ⟨vs, rfl, hl⟩ := hr
    exact ⟨vs, rfl, RepL.mono h cs vs (fun id hid => hB id (by simpa only [LV.noref] using hid)) hl⟩
  | .tup cs, v, hB, hr => by
    simp only [RepV] at hr ⊢
    obtain ⟨vs, rfl, hl⟩ := hr
    exact ⟨vs, rfl, RepL.mono h cs vs (fun id hid => hB id (by simpa only [LV.noref] using hid)) hl⟩
  | .fn f cs, v, hB, hr => by
    simp only [RepV] at hr ⊢
    obtain ⟨vs, rfl, hl⟩ := hr
    exact ⟨vs, rfl, RepL.mono h cs vs (fun id hid => hB id (by simpa only [LV.noref] using hid)) hl⟩
  | .bfn f cs, v, hB, hr => by
    simp only [RepV] at hr ⊢
    obtain ⟨vs, rfl, hl⟩ := hr
    exact ⟨vs, rfl, RepL.mono h cs vs (fun id hid => hB id (by simpa only [LV.noref] using hid)) hl⟩
theorem RepL.mono {c c' : Cx} (h : c.Le c') : ∀ (xs : List LV) (vs : List Value), (∀ id, LV.norefL id xs = false → BLe (c.B id) (c'.B id)) → RepL c xs vs → RepL c' xs vs
  | [], vs, _, hr => by simpa only [RepL] using hr
  | x :: xs, vs, hB, hr => by
    simp only [RepL] at hr ⊢
    obtain ⟨v, vs', rfl, hv, hl⟩ := hr
    refine ⟨v, vs', rfl, RepV.mono h x v (fun id hid => hB id (by simp [LV.norefL, hid])) hv, RepL.mono h xs vs' (fun id hid => hB id (by simp [LV.norefL, hid])) hl⟩
end

theorem oneCell_of_scalar {c : Cx} {x : LV} {v : Value} (hs : x.scalar = true) (h : RepV c x v) : v.oneCell' = true := by
  cases x <;> simp only [LV.scalar, RepV, Bool.false_eq_true] at hs h
  case int => subst h; rfl
  case bool => subst h; rfl
  case nil => subst h; rfl
  case nilp => subst h; rfl
  case lst => obtain ⟨_, _, rfl, _⟩ := h; rfl
  case sptr => obtain ⟨_, _, _, rfl, _⟩ := h; rfl
  case arr => exact h.1
  case ptr => obtain ⟨_, _, _, rfl⟩ := h; rfl
  case eptr => exact h.1
  case fn => obtain ⟨_, rfl, _⟩ := h; rfl
  case bfn => obtain ⟨_, rfl, _⟩ := h; rfl
  case slen => obtain ⟨_, _, rfl⟩ := h; rfl
  case nilf => subst h; rfl
  case mp => obtain ⟨_, _, rfl⟩ := h; rfl

theorem cells_of_scalar {x : LV} (hs : x.scalar = true) : x.cells = [x] := by
  cases x <;> simp_all [LV.scalar, LV.cells]
theorem vcells_of_oneCell {v : Value} (h : v.oneCell' = true) : v.cells = #[v] := by
  cases v <;> simp_all [Value.oneCell', Value.cells]

/-- The cells of a value, where the logical cells are all scalar. -/
theorem RepV.cellsOf {c : Cx} {x : LV} {v : Value} (h : RepV c x v) (hs : x.cells.all LV.scalar = true) : RepL c x.cells v.cells.toList ∧ ∀ y ∈ v.cells, y.oneCell' = true := by
  by_cases hx : x.scalar = true
  · have h1 := oneCell_of_scalar hx h
    rw [cells_of_scalar hx, vcells_of_oneCell h1]
    simp [RepL, h, h1]
  · cases x <;> simp [LV.scalar, LV.cells] at hx hs
    case agg cs =>
      simp only [RepV] at h
      obtain ⟨vs, rfl, hl⟩ := h
      simp only [LV.cells, Value.cells]
      refine ⟨by simpa using hl, fun y hy => ?_⟩
      obtain ⟨i, hi⟩ := List.mem_iff_getElem?.1 (by simpa using hy : y ∈ vs)
      have hlen := hl.length
      have hlt : i < cs.length := by rw [hlen]; exact (List.getElem?_eq_some_iff.1 hi).1
      obtain ⟨u, hu, hru⟩ := hl.get (List.getElem?_eq_getElem hlt)
      rw [hi] at hu; cases hu
      exact oneCell_of_scalar (hs _ (List.getElem_mem hlt)) hru

end Go.L
