import Derived.Test.YtbicmjeldappjaaZLa
import Derived.Shelf.SlSortCmp.NoneTotal
import Derived.WideKeyElems
import Derived.Lib.AppendZeros
import Derived.Lib.SliceRun
import Derived.Lib.Overlaps
import Derived.Laws.IdiomCopy
import Derived.Laws.StructEq
import Derived.Maps.RangeRun
import Derived.Below
import Derived.Deep.Slices
set_option linter.unusedVariables false
set_option linter.unusedSimpArgs false
namespace Go.L

abbrev LV.I : Int → LV := LV.int .i64
abbrev LV.L (xs : List Int) : LV := .lst 1 (xs.map (LV.int .i64))
abbrev IsF (P : Program) (f : Nat) : Prop := ∃ fn, P.funcs[f]? = some fn ∧ (fn.name == "runtime.NumGoroutine") = false ∧ fn.body.isNone = false
def Sub (x y : LV) : Prop := ∀ c v, RepV c x v → RepV c y v
def SubL : List LV → List LV → Prop
 | [], [] => True
 | x :: xs, y :: ys => Sub x y ∧ SubL xs ys
 | _, _ => False
theorem Sub.rfl {x : LV} : Sub x x := fun _ _ h => h
theorem Sub.trans {x y z : LV} (h : Sub x y) (k : Sub y z) : Sub x z := fun c v hv => k c v (h c v hv)
theorem Sub.und {x : LV} : Sub x .und := fun _ _ _ => by simp [RepV]
theorem Sub.nil {k : Nat} : Sub .nil (.lst k []) := fun c v h => by
 simp only [RepV] at h ⊢
 subst h
 exact ⟨.none, 0, by rfl, Nat.le_refl _, fun _ => by rfl, by rfl, .inl trivial⟩
theorem SubL.rep : ∀ {xs ys : List LV}, SubL xs ys → ∀ {c : Cx} {vs : List Value}, RepL c xs vs → RepL c ys vs
 | [], [], _, c, vs, h => h
 | x :: xs, y :: ys, hs, c, vs, h => by
  simp only [RepL] at h ⊢
  obtain ⟨v, vs', h0, h1, h2⟩ := h
  exact ⟨v, vs', h0, hs.1 c v h1, SubL.rep hs.2 h2⟩
theorem SubL.rfl : ∀ {xs : List LV}, SubL xs xs
 | [] => trivial
 | x :: xs => ⟨Sub.rfl, SubL.rfl⟩
theorem Sub.agg {xs ys : List LV} (h : SubL xs ys) : Sub (.agg xs) (.agg ys) := fun c v hv => by
 simp only [RepV] at hv ⊢
 obtain ⟨vs, h0, h1⟩ := hv
 exact ⟨vs, h0, h.rep h1⟩
theorem Sub.tup {xs ys : List LV} (h : SubL xs ys) : Sub (.tup xs) (.tup ys) := fun c v hv => by
 simp only [RepV] at hv ⊢
 obtain ⟨vs, h0, h1⟩ := hv
 exact ⟨vs, h0, h.rep h1⟩
theorem Sub.fn {f : Nat} {xs ys : List LV} (h : SubL xs ys) : Sub (.fn f xs) (.fn f ys) := fun c v hv => by
 simp only [RepV] at hv ⊢
 obtain ⟨vs, h0, h1⟩ := hv
 exact ⟨vs, h0, h.rep h1⟩
theorem LCall.sub {P : Program} {f : Nat} {args args' : List LV} {m m' : Mem} {lv : LV} (h : LCall P f args' m lv m') (hs : SubL args args') : LCall P f args m lv m' := fun c vs hm ha => h c vs hm (hs.rep ha)
theorem LCall.res {P : Program} {f : Nat} {args : List LV} {m m' : Mem} {lv lv' : LV} (h : LCall P f args m lv m') (hs : Sub lv lv') : LCall P f args m lv' m' := fun c vs hm ha => (h c vs hm ha).mono fun en w' ⟨v, c', h1, h2, h3, h4, h5⟩ => ⟨v, c', h1, h2, h3, hs c' v h4, h5⟩

def OkF {α : Type} (k : Nat) (f : α → LV) : Prop := ∀ x, (f x).pure = true ∧ (f x).cells.length = k ∧ (f x).cells.all LV.scalar = true
theorem OkF.els {α : Type} {k : Nat} {f : α → LV} (h : OkF k f) (xs : List α) : okEls k (xs.map f) := by
 intro x hx
 obtain ⟨y, _, rfl⟩ := List.mem_map.1 hx
 exact h y
theorem OkF.pureL {α : Type} {k : Nat} {f : α → LV} (h : OkF k f) (xs : List α) : LV.pureL (xs.map f) = true := pureL_iff.2 fun x hx => by
 obtain ⟨y, _, rfl⟩ := List.mem_map.1 hx
 exact (h y).1
theorem okI {k : IntKind} : OkF 1 (LV.int k) := fun _ => ⟨by rfl, by rfl, by rfl⟩
theorem okL {α : Type} {k : Nat} {f : α → LV} : OkF 1 (fun xs : List α => LV.lst k (xs.map f)) := fun _ => ⟨by rfl, by rfl, by rfl⟩

def idx {α : Type} (xs : List α) (i : Int) : Option α := if 0 ≤ i then xs[i.toNat]? else .none
def slc {α : Type} (xs : List α) (a b : Int) : Option (List α) := if 0 ≤ a ∧ a ≤ b ∧ b ≤ xs.length then some ((xs.take b.toNat).drop a.toNat) else .none
def app {α : Type} (xs ys : List α) : Option (List α) := if xs.length + ys.length ≤ 1099511627776 then some (xs ++ ys) else .none
def quo (k : IntKind) (a b : Int) : Option Int := if b = 0 then .none else some (k.wrap (a.tdiv b))
def rmd (a b : Int) : Option Int := if b = 0 then .none else some (a.tmod b)
def mkl {α : Type} (z : α) (n : Int) : Option (List α) := if 0 ≤ n ∧ n ≤ 1099511627776 then some (List.replicate n.toNat z) else .none
def put {α : Type} (xs : List α) (i : Int) (f : α → α) : Option (List α) := (idx xs i).bind fun x => some (xs.set i.toNat (f x))
abbrev i64 (n : Int) : Int := IntKind.i64.wrap n

theorem bindS {α β : Type} {o : Option α} {f : α → Option β} {r : β} (h : o.bind f = some r) : ∃ a, o = some a ∧ f a = some r := by
 cases o with
 | none => cases h
 | some a => exact ⟨a, rfl, h⟩
theorem iteT {α : Type} {b : Bool} {x y : Option α} {r : α} (h : (if b = true then x else y) = some r) (hb : b = true) : x = some r := by rw [if_pos hb] at h; exact h
theorem iteF {α : Type} {b : Bool} {x y : Option α} {r : α} (h : (if b = true then x else y) = some r) (hb : b = false) : y = some r := by rw [if_neg (by simp [hb])] at h; exact h
theorem bF {b : Bool} (h : ¬ b = true) : b = false := by cases b <;> simp_all

section
variable {P : Program} {N : Nat} {pr : Nat → Prop} {ro : List Nat} {ops : Array Oper} {e : Env} {m : Mem} {ev : Operand → LV} {d : Option Nat} {i j q : Nat} {want : Bool} {op : Op} {ty : TypeId} {pos : String} {af : Array Edge} {g : Option (Nat × Bool)} {l : List Oper} {mds : List Nat} {KE : Env → Mem → Prop} {K : LV → Mem → Prop}

def SOps (P : Program) (N : Nat) (pr : Nat → Prop) (ops : Array Oper) (l : List Oper) (K : Env → Mem → Prop) (e : Env) (m : Mem) : Prop :=
 (∀ q ∈ ops, ∀ i, q.dst = some i → i < N) → (∀ o ∈ l, o ∈ ops) → ∃ e' m', K e' m' ∧ ∀ (c : Cx) (a : Act), Rep N c e m a → wpList P ops (fun x a' w' => x = .normal ∧ ∃ c' : Cx, c'.w = w' ∧ Rep N c' e' m' a' ∧ Grow pr c c') l a c.w
theorem wpList_mono : ∀ (l : List Oper) (a : Act) (w : World) (Q Q' : Exit → Act → World → Prop), (∀ x a w, Q x a w → Q' x a w) → wpList P ops Q l a w → wpList P ops Q' l a w := by
 intro l
 induction l with
 | nil => intro a w Q Q' hq hh; exact hq _ _ _ hh
 | cons o l ih =>
  intro a w Q Q' hq hh
  simp only [wpList] at hh ⊢
  split
  ·rename_i hwt
   rw [if_pos hwt] at hh
   rcases hh with hh | ⟨h1, a0, w0, h2⟩
   ·left
    unfold Oper.wp at hh ⊢
    generalize (execOp a.eval o).run P w = r at hh ⊢
    cases r with
    | ok nx w' =>
     cases nx <;> simp only [Oper.upon] at hh ⊢ <;> first
      | exact ih _ _ _ _ hq hh
      | exact Calls.mono hh (fun en w'' he => by cases en <;> first | exact ih _ _ _ _ hq he | exact hq _ _ _ he | exact he.imp fun _ => Exists.imp fun _ => hq _ _ _)
      | exact Rows.mono hh (fun _ _ he => ih _ _ _ _ hq he)
    | halt x w' => cases x <;> simp only [Oper.upon] at hh ⊢ <;> first | exact hq _ _ _ hh | exact hh
   ·exact .inr ⟨h1, a0, w0, hq _ _ _ h2⟩
  ·rename_i hwt
   rw [if_neg hwt] at hh
   exact ih _ _ _ _ hq hh
theorem SOps.step {o : Oper} (h : LStep P pr ro ops o (SOps P N pr ops l KE) e m) : SOps P N pr ops (o :: l) KE e m := by
 intro hd hl
 obtain ⟨lv, m1, h1, hstep⟩ := LStep_sound hd (hd o (hl o (by simp))) h
 obtain ⟨e', m', hK, hrest⟩ := h1 hd (fun q hq => hl q (by simp [hq]))
 refine ⟨e', m', hK, fun c a hr => ?_⟩
 simp only [wpList]
 refine hstep c a _ _ hr ?_
 intro a' c' hr' hs
 refine wpList_mono _ _ _ _ _ ?_ (hrest c' a' hr')
 rintro x a'' w'' ⟨hx, c2, hw2, hr2, hg2⟩
 exact ⟨hx, c2, hw2, hr2, hs.grow.trans hg2⟩
theorem SOps.wk {e' : Env} {m' : Mem} (hw : Wk pr e m e' m') (h : SOps P N pr ops l KE e' m') : SOps P N pr ops l KE e m := by
 intro hd hl
 obtain ⟨e2, m2, hK, hrun⟩ := h hd hl
 refine ⟨e2, m2, hK, fun c a hr => ?_⟩
 obtain ⟨c1, hw1, hr1, hg1⟩ := hw N c a hr
 rw [← hw1]
 refine wpList_mono _ _ _ _ _ ?_ (hrun c1 a hr1)
 rintro x a' w' ⟨hx, c2, hw2, hr2, hg2⟩
 exact ⟨hx, c2, hw2, hr2, hg1.trans hg2⟩
theorem s0 (h : KE e m) : SOps P N pr ops [] KE e m := fun _ _ => ⟨e, m, h, fun c a hr => ⟨rfl, c, rfl, hr, .refl pr c⟩⟩
theorem sN (h : LOp P pr [] ⟨some i, op, ty, pos, af, .none⟩ (lev e) m fun lv m' => SOps P N pr ops l KE (e.put i lv) m') : SOps P N pr ops (⟨some i, op, ty, pos, af, .none⟩ :: l) KE e m := SOps.step (ro := []) h
theorem sB (h : LOp P pr [i] ⟨some i, op, ty, pos, af, .none⟩ (lev e) m fun lv m' => SOps P N pr ops l KE (e.put i lv) m') : SOps P N pr ops (⟨some i, op, ty, pos, af, .none⟩ :: l) KE e m := SOps.step (ro := [i]) h
theorem s_ (h : LOp P pr [] ⟨.none, op, ty, pos, af, .none⟩ (lev e) m fun lv m' => SOps P N pr ops l KE e m') : SOps P N pr ops (⟨.none, op, ty, pos, af, .none⟩ :: l) KE e m := SOps.step (ro := []) h
theorem sT (hj : (ops[j]?).bind (·.dst) = some q) (hg : e q = .bool want) (h : LOp P pr [] ⟨some i, op, ty, pos, af, some (j, want)⟩ (lev e) m fun lv m' => SOps P N pr ops l KE (e.put i lv) m') : SOps P N pr ops (⟨some i, op, ty, pos, af, some (j, want)⟩ :: l) KE e m := SOps.step (ro := []) (by
 rw [LStep_some, hj]; simp only [hg, if_true]; exact h)
theorem sF {t : Bool} (hj : (ops[j]?).bind (·.dst) = some q) (hg : e q = .bool t) (hn : t = !want) (h : SOps P N pr ops l KE (e.put i (.tup [])) m) : SOps P N pr ops (⟨some i, op, ty, pos, af, some (j, want)⟩ :: l) KE e m := SOps.step (ro := []) (by
 subst hn
 rw [LStep_some, hj]; simp only [hg]; cases want <;> exact h)
theorem m0 (h : KE e m) : LOpsM P pr ro ops (List.zip [] []) KE e m := h
theorem mN0 (h : LOp P pr ro ⟨some i, op, ty, pos, af, .none⟩ (lev e) Mem.none fun lv m' => m' = Mem.none ∧ LOpsM P pr ro ops (List.zip l mds) KE (e.put i lv) m) : LOpsM P pr ro ops (List.zip (⟨some i, op, ty, pos, af, .none⟩ :: l) (0 :: mds)) KE e m := h
theorem mN2 (h : LOp P pr ro ⟨some i, op, ty, pos, af, .none⟩ (lev e) m fun lv m' => LOpsM P pr ro ops (List.zip l mds) KE (e.put i lv) m') : LOpsM P pr ro ops (List.zip (⟨some i, op, ty, pos, af, .none⟩ :: l) (2 :: mds)) KE e m := h
theorem mT {md : Nat} (hj : (ops[j]?).bind (·.dst) = some q) (hg : e q = .bool want) (h : LOpsM P pr ro ops (List.zip (⟨d, op, ty, pos, af, .none⟩ :: l) (md :: mds)) KE e m) : LOpsM P pr ro ops (List.zip (⟨d, op, ty, pos, af, some (j, want)⟩ :: l) (md :: mds)) KE e m := by
 show LStepM P pr ro ops md _ _ e m
 rw [LStepM_g, hj]; simp only [hg, if_true]; exact h
theorem mF {md : Nat} {t : Bool} (hj : (ops[j]?).bind (·.dst) = some q) (hg : e q = .bool t) (hn : t = !want) (h : LOpsM P pr ro ops (List.zip l mds) KE (e.put i (.tup [])) m) : LOpsM P pr ro ops (List.zip (⟨some i, op, ty, pos, af, some (j, want)⟩ :: l) (md :: mds)) KE e m := by
 subst hn
 show LStepM P pr ro ops md _ _ e m
 rw [LStepM_g, hj]; simp only [hg]; cases want <;> exact h
theorem mU {md : Nat} (hj : (ops[j]?).bind (·.dst) = some q) (hg : e q = .tup []) (h : LOpsM P pr ro ops (List.zip l mds) KE (e.put i (.tup [])) m) : LOpsM P pr ro ops (List.zip (⟨some i, op, ty, pos, af, some (j, want)⟩ :: l) (md :: mds)) KE e m := by
 show LStepM P pr ro ops md _ _ e m
 rw [LStepM_g, hj]; simp only [hg]; exact h

variable {x y a : Operand} {t t' : TypeId} {k k' : IntKind} {v : LV} {u w : Int} {b c : Bool} {cs cs' : List LV} {n id o off el ft kk : Nat}
theorem oM (hx : ev x = v) (h : K v m) : LOp P pr ro ⟨d, .move x, ty, pos, af, g⟩ ev m K := by rw [LOp_move, hx]; exact h
theorem oA (hx : ev x = v) (h : K v m) : LOp P pr ro ⟨d, .assign x, ty, pos, af, g⟩ ev m K := by rw [LOp_assign, hx]; exact h
theorem oPkT {z : Operand} (hc : ev x = .bool true) (ha : ev y = v) (h : K v m) : LOp P pr ro ⟨d, .pick x y z, ty, pos, af, g⟩ ev m K := by rw [LOp_pick, hc]; simp only [if_true]; rw [ha]; exact h
theorem oPkF {z : Operand} (hc : ev x = .bool false) (ha : ev z = v) (h : K v m) : LOp P pr ro ⟨d, .pick x y z, ty, pos, af, g⟩ ev m K := by rw [LOp_pick, hc]; simp only [Bool.false_eq_true, if_false]; rw [ha]; exact h
theorem oAl {z : LV} (hi : 100 + i = id) (hz : tzero P t = some z) (hc : z.cells = cs) (hf : m id = .none) (h : K (.ptr id 0) (m.put id (.box cs))) : LOp P pr ro ⟨some i, .alloc t, ty, pos, af, g⟩ ev m K := by
 subst hi; subst hc; rw [LOp_alloc, hz]; exact ⟨hf, h⟩
theorem oBxR (hr : ro.contains i = true) (hx : ev x = v) (hc : v.cells = cs) (hs : cs.all LV.scalar = true) (h : K (.sptr cs) m) : LOp P pr ro ⟨some i, .box t x, ty, pos, af, g⟩ ev m K := by
 subst hc; rw [LOp_box, hx, if_pos hr]; exact ⟨hs, h⟩
theorem oBx (hr : ro.contains i = false) (hi : 100 + i = id) (hx : ev x = v) (hc : v.cells = cs) (hs : cs.all LV.scalar = true) (hf : m id = .none) (h : K (.ptr id 0) (m.put id (.box cs))) : LOp P pr ro ⟨some i, .box t x, ty, pos, af, g⟩ ev m K := by
 subst hi; subst hc; rw [LOp_box, hx, if_neg (by rw [hr]; simp)]; exact ⟨hs, hf, h⟩
theorem lf0 : lfill P t cs [] = some cs := rfl
theorem lf {res : List LV} {r : List (Nat × LV)} (hf : tfield P t i = some (off, ft)) (hs : tsize P ft = v.cells.length) (hk : tok P ft = true) (hl : Nat.ble (off + v.cells.length) cs.length = true) (hsc : v.cells.all LV.scalar = true) (hr : rep cs off v.cells = cs') (h : lfill P t cs' r = some res) : lfill P t cs ((i, v) :: r) = some res := by
 subst hr
 simp only [lfill, hf]
 rw [if_pos ⟨hs.symm, Nat.le_of_ble_eq_true hl, hk, hsc⟩]; exact h
theorem oBd {z : List LV} {ps : List (Nat × Operand)} {vs : List (Nat × LV)} (hb : tbuild P t = true) (hz : tzero P t = some (.agg z)) (hv : (ps.map fun p => (p.1, ev p.2)) = vs) (hf : lfill P t z vs = some cs) (h : K (.agg cs) m) : LOp P pr ro ⟨d, .build t ps.toArray, ty, pos, af, g⟩ ev m K := by
 rw [LOp_build, hz]; refine ⟨hb, ?_⟩; simp only [hv, hf]; exact h
theorem oBS {α : Type} {f : α → LV} {ys : List α} {ps : List (Nat × Operand)} (he : telem P t = some el) (hr : trow P el = true) (hk : tsize P el = kk) (hb : Nat.ble (n * kk) 16777216 = true) (hi : ps.map (·.1) = List.range n) (hv : (ps.map fun p => ev p.2) = ys.map f) (hok : OkF kk f) (h : K (.lst kk (ys.map f)) m) : LOp P pr ro ⟨d, .buildSlice t n ps.toArray, ty, pos, af, g⟩ ev m K := by
 subst hk
 rw [LOp_buildSlice, he]; exact ⟨hr, Nat.le_of_ble_eq_true hb, hi, by rw [hv]; exact hok.els ys, by rw [hv]; exact h⟩
theorem oLd (hx : ev a = .sptr (v :: cs)) (ht : tok P t = true) (ha : tagg P t = false) (h : K v m) : LOp P pr ro ⟨d, .load t a, ty, pos, af, g⟩ ev m K := by
 rw [LOp_load, hx]; simp only [loadC_def, ha, Bool.false_eq_true, if_false]; exact ⟨ht, h⟩
theorem oLdA (hx : ev a = .sptr cs) (ht : tok P t = true) (ha : tagg P t = true) (hs : tsize P t = n) (hl : Nat.ble n cs.length = true) (hc : cs.take n = cs') (h : K (.agg cs') m) : LOp P pr ro ⟨d, .load t a, ty, pos, af, g⟩ ev m K := by
 subst hc; subst hs
 rw [LOp_load, hx]; simp only [loadC_def, ha, if_true]; exact ⟨ht, Nat.le_of_ble_eq_true hl, h⟩
theorem oLdP {r : List LV} (hx : ev a = .ptr id o) (hm : m id = some (.box cs)) (hl : Nat.ble o cs.length = true) (hc : cs.drop o = v :: r) (ht : tok P t = true) (ha : tagg P t = false) (h : K v m) : LOp P pr ro ⟨d, .load t a, ty, pos, af, g⟩ ev m K := by
 rw [LOp_load, hx]; simp only [hm, loadC_def, hc, ha, Bool.false_eq_true, if_false]; exact ⟨Nat.le_of_ble_eq_true hl, ht, h⟩
theorem oLdPA (hx : ev a = .ptr id o) (hm : m id = some (.box cs)) (hl : Nat.ble o cs.length = true) (ht : tok P t = true) (ha : tagg P t = true) (hs : tsize P t = n) (hl2 : Nat.ble n (cs.drop o).length = true) (hc : (cs.drop o).take n = cs') (h : K (.agg cs') m) : LOp P pr ro ⟨d, .load t a, ty, pos, af, g⟩ ev m K := by
 subst hc; subst hs
 rw [LOp_load, hx]; simp only [hm, loadC_def, ha, if_true]; exact ⟨Nat.le_of_ble_eq_true hl, ht, Nat.le_of_ble_eq_true hl2, h⟩
theorem oLdEA {α : Type} {f : α → LV} {xs : List α} {z : α} (hx : ev a = .eptr id xs.length j o) (hm : m id = some (.arr el kk (xs.map f))) (hz : xs[j]? = some z) (hsc : (f z).cells.all LV.scalar = true) (hl : Nat.ble o (f z).cells.length = true) (ht : tok P t = true) (ha : tagg P t = true) (hs : tsize P t = n) (hl2 : Nat.ble n ((f z).cells.drop o).length = true) (hc : ((f z).cells.drop o).take n = cs') (h : K (.agg cs') m) : LOp P pr ro ⟨d, .load t a, ty, pos, af, g⟩ ev m K := by
 subst hc; subst hs
 rw [LOp_load, hx]; simp only [hm, List.length_map, List.getElem?_map, hz, Option.map_some, loadC_def]
 exact ⟨trivial, f z, rfl, hsc, Nat.le_of_ble_eq_true hl, ht, by rw [if_pos ha]; exact ⟨Nat.le_of_ble_eq_true hl2, h⟩⟩
theorem oSt (hx : ev a = .ptr id o) (hv : ev x = v) (hsc : v.cells.all LV.scalar = true) (ht : tok P t = true) (hs : tsize P t = v.cells.length) (hm : m id = some (.box cs)) (hl : Nat.ble (o + v.cells.length) cs.length = true) (hc : rep cs o v.cells = cs') (h : K .und (m.put id (.box cs'))) : LOp P pr ro ⟨d, .store t a x, ty, pos, af, g⟩ ev m K := by
 subst hc
 rw [LOp_store, hv, hx]; simp only [hm]; exact ⟨hsc, ht, hs, Nat.le_of_ble_eq_true hl, h⟩
theorem map_set' {α β : Type} (f : α → β) (xs : List α) (j : Nat) (z : α) : (xs.map f).set j (f z) = (xs.set j z).map f := by
 simp [List.map_set]
theorem oStE {α : Type} {f : α → LV} {xs : List α} {z z' : α} (hx : ev a = .eptr id xs.length j o) (hv : ev x = v) (hsc : v.cells.all LV.scalar = true) (hp : LV.pureL v.cells = true) (ht : tok P t = true) (hs : tsize P t = v.cells.length) (hm : m id = some (.arr el kk (xs.map f))) (hz : xs[j]? = some z) (hw : setEl (f z) o v = some (f z')) (h : K .und (m.put id (.arr el kk ((xs.set j z').map f)))) : LOp P pr ro ⟨d, .store t a x, ty, pos, af, g⟩ ev m K := by
 rw [LOp_store, hv, hx]; simp only [hm]
 exact ⟨hsc, ht, hs, by simp, hp, f z, f z', by simp [hz], hw, by rw [map_set']; exact h⟩
theorem oNC (hx : ev x = .ptr id o) (h : K (.ptr id o) m) : LOp P pr ro ⟨d, .nilCheck x, ty, pos, af, g⟩ ev m K := by rw [LOp_nilCheck, hx]; exact h
theorem oAdd (hx : ev x = .int k u) (hy : ev y = .int k w) (h : K (.int k (k.wrap (u + w))) m) : LOp P pr ro ⟨d, .binOp .add t x y t', ty, pos, af, g⟩ ev m K := by rw [LOp_binOp, hx, hy]; exact ⟨rfl, h⟩
theorem oSub (hx : ev x = .int k u) (hy : ev y = .int k w) (h : K (.int k (k.wrap (u - w))) m) : LOp P pr ro ⟨d, .binOp .sub t x y t', ty, pos, af, g⟩ ev m K := by rw [LOp_binOp, hx, hy]; exact ⟨rfl, h⟩
theorem oMul (hx : ev x = .int k u) (hy : ev y = .int k w) (h : K (.int k (k.wrap (u * w))) m) : LOp P pr ro ⟨d, .binOp .mul t x y t', ty, pos, af, g⟩ ev m K := by rw [LOp_binOp, hx, hy]; exact ⟨rfl, h⟩
theorem oQuo {r : Int} (hx : ev x = .int k u) (hy : ev y = .int k w) (hr : quo k u w = some r) (h : K (.int k r) m) : LOp P pr ro ⟨d, .binOp .quo t x y t', ty, pos, af, g⟩ ev m K := by
 rw [LOp_binOp, hx, hy]; unfold quo at hr; split at hr
 ·cases hr
 ·rename_i h0; cases hr; exact ⟨rfl, h0, h⟩
theorem oRem {r : Int} (hx : ev x = .int k u) (hy : ev y = .int k w) (hr : rmd u w = some r) (h : K (.int k r) m) : LOp P pr ro ⟨d, .binOp .rem t x y t', ty, pos, af, g⟩ ev m K := by
 rw [LOp_binOp, hx, hy]; unfold rmd at hr; split at hr
 ·cases hr
 ·rename_i h0; cases hr; exact ⟨rfl, h0, h⟩
theorem oEq (hx : ev x = .int k u) (hy : ev y = .int k w) (h : K (.bool (u == w)) m) : LOp P pr ro ⟨d, .binOp .eql t x y t', ty, pos, af, g⟩ ev m K := by rw [LOp_binOp, hx, hy]; exact ⟨rfl, h⟩
theorem oNe (hx : ev x = .int k u) (hy : ev y = .int k w) (h : K (.bool (u != w)) m) : LOp P pr ro ⟨d, .binOp .neq t x y t', ty, pos, af, g⟩ ev m K := by rw [LOp_binOp, hx, hy]; exact ⟨rfl, h⟩
theorem oLt (hx : ev x = .int k u) (hy : ev y = .int k w) (h : K (.bool (decide (u < w))) m) : LOp P pr ro ⟨d, .binOp .lss t x y t', ty, pos, af, g⟩ ev m K := by rw [LOp_binOp, hx, hy]; exact ⟨rfl, h⟩
theorem oLe (hx : ev x = .int k u) (hy : ev y = .int k w) (h : K (.bool (decide (u ≤ w))) m) : LOp P pr ro ⟨d, .binOp .leq t x y t', ty, pos, af, g⟩ ev m K := by rw [LOp_binOp, hx, hy]; exact ⟨rfl, h⟩
theorem oGt (hx : ev x = .int k u) (hy : ev y = .int k w) (h : K (.bool (decide (u > w))) m) : LOp P pr ro ⟨d, .binOp .gtr t x y t', ty, pos, af, g⟩ ev m K := by rw [LOp_binOp, hx, hy]; exact ⟨rfl, h⟩
theorem oGe (hx : ev x = .int k u) (hy : ev y = .int k w) (h : K (.bool (decide (u ≥ w))) m) : LOp P pr ro ⟨d, .binOp .geq t x y t', ty, pos, af, g⟩ ev m K := by rw [LOp_binOp, hx, hy]; exact ⟨rfl, h⟩
theorem oNeB (hx : ev x = .bool b) (hy : ev y = .bool c) (ht : tbool P t = true) (h : K (.bool (!(b == c))) m) : LOp P pr ro ⟨d, .binOp .neq t x y t', ty, pos, af, g⟩ ev m K := by rw [LOp_binOp, hx, hy]; exact ⟨ht, h⟩
theorem oEqA (hx : ev x = .agg cs) (hy : ev y = .agg cs') (ht : AggEq P t cs cs' b) (h : K (.bool b) m) : LOp P pr ro ⟨d, .binOp .eql t x y t', ty, pos, af, g⟩ ev m K := by rw [LOp_binOp, hx, hy]; exact ⟨b, ht, h⟩
theorem oNeA (hx : ev x = .agg cs) (hy : ev y = .agg cs') (ht : AggEq P t cs cs' b) (h : K (.bool (!b)) m) : LOp P pr ro ⟨d, .binOp .neq t x y t', ty, pos, af, g⟩ ev m K := by rw [LOp_binOp, hx, hy]; exact ⟨b, ht, h⟩
theorem oNot (hx : ev x = .bool b) (h : K (.bool (!b)) m) : LOp P pr ro ⟨d, .unOp .not t x, ty, pos, af, g⟩ ev m K := by rw [LOp_not, hx]; exact h
theorem slcOk {α : Type} {xs r : List α} (h : slc xs u w = some r) : 0 ≤ u ∧ u ≤ w ∧ w ≤ xs.length ∧ r = (xs.take w.toNat).drop u.toNat := by
 unfold slc at h; split at h
 ·rename_i h0; cases h; exact ⟨h0.1, h0.2.1, h0.2.2, rfl⟩
 ·cases h
theorem oSl {α : Type} {f : α → LV} {xs r : List α} {lo hi : Option Operand} (he : telem P t = some el) (hk : tok P el = true) (hs : tsize P el = kk) (hx : ev x = .lst kk (xs.map f)) (hlo : (match lo with | .none => u = 0 | some z => ev z = .int .i64 u)) (hhi : (match hi with | .none => w = (xs.length : Int) | some z => ev z = .int .i64 w)) (hr : slc xs u w = some r) (h : K (.lst kk (r.map f)) m) : LOp P pr ro ⟨d, .slice t x lo hi .none, ty, pos, af, g⟩ ev m K := by
 obtain ⟨h0, h1, h2, rfl⟩ := slcOk hr
 rw [LOp_slice, he, hx]
 refine ⟨rfl, hk, by trivial, by simp [hs], u.toNat, w.toNat, ?_, ?_, by omega, by simp; omega, ?_⟩
 ·cases lo with
  | none => simp only at hlo; subst hlo; rfl
  | some z => simp only at hlo ⊢; rw [hlo, Int.toNat_of_nonneg h0]
 ·cases hi with
  | none => simp only at hhi; subst hhi; simp
  | some z => simp only at hhi ⊢; rw [hhi, Int.toNat_of_nonneg (by omega)]
 ·rw [← List.map_take, ← List.map_drop]; exact h
theorem oFa (hf : tfield P t n = some (off, ft)) (hk : tok P ft = true) (hs : tsize P ft = kk + 1) (hx : ev x = .ptr id o) (hi : o + off = i) (h : K (.ptr id i) m) : LOp P pr ro ⟨d, .fieldAddr t x n, ty, pos, af, g⟩ ev m K := by
 subst hi; rw [LOp_fieldAddr, hf, hx]; exact ⟨hk, by rw [hs]; simp, h⟩
theorem oFaS (hf : tfield P t n = some (off, ft)) (hk : tok P ft = true) (hs : tsize P ft = kk + 1) (hx : ev x = .sptr cs) (hl : Nat.ble off cs.length = true) (hi : cs.drop off = cs') (h : K (.sptr cs') m) : LOp P pr ro ⟨d, .fieldAddr t x n, ty, pos, af, g⟩ ev m K := by
 subst hi; rw [LOp_fieldAddr, hf, hx]; exact ⟨hk, by rw [hs]; simp, Nat.le_of_ble_eq_true hl, h⟩
theorem idxOk {α : Type} {xs : List α} {z : α} (h : idx xs u = some z) : 0 ≤ u ∧ xs[u.toNat]? = some z := by
 unfold idx at h; split at h
 ·exact ⟨by assumption, h⟩
 ·cases h
theorem oIx {α : Type} {f : α → LV} {xs : List α} {z : α} (he : telem P t = some el) (hk : tok P el = true) (hs : tsize P el = kk) (hx : ev x = .lst kk (xs.map f)) (hy : ev y = .int k u) (hok : OkF kk f) (hz : idx xs u = some z) (hc : (f z).cells = cs) (h : K (.sptr cs) m) : LOp P pr ro ⟨d, .indexAddr t x y, ty, pos, af, g⟩ ev m K := by
 obtain ⟨h0, h1⟩ := idxOk hz
 subst hc; subst hs
 rw [LOp_indexAddr, he, hx, hy]
 exact ⟨hk, rfl, h0, f z, by simp [h1], (hok z).2.2, h⟩
theorem oIxA {α : Type} {f : α → LV} {xs : List α} {z : α} (he : telem P t = some el) (hk : tok P el = true) (hs : tsize P el = kk) (hx : ev x = .arr id xs.length) (hm : m id = some (.arr el kk (xs.map f))) (hy : ev y = .int k u) (hz : idx xs u = some z) (h : K (.eptr id xs.length u.toNat 0) m) : LOp P pr ro ⟨d, .indexAddr t x y, ty, pos, af, g⟩ ev m K := by
 obtain ⟨h0, h1⟩ := idxOk hz
 subst hs
 have := (List.getElem?_eq_some_iff.1 h1).1
 rw [LOp_indexAddr, he, hx, hy]; simp only [hm]
 exact ⟨hk, by simp, trivial, h0, by omega, h⟩
theorem oEx {vs : List LV} (hx : ev x = .tup vs) (hv : vs[n]? = some v) (h : K v m) : LOp P pr ro ⟨d, .extract x n, ty, pos, af, g⟩ ev m K := by rw [LOp_extract, hx]; exact ⟨v, hv, h⟩
theorem oMk {α : Type} {f : α → LV} {z : α} {r : List α} (hi : 100 + i = id) (he : telem P t = some el) (hz : tzero P el = some (f z)) (hr : trow P el = true) (hk : tsize P el = kk) (hx : ev x = .int .i64 u) (hy : ev y = .int .i64 u) (hp : (f z).pure = true) (hl : mkl z u = some r) (hf : m id = .none) (h : K (.arr id r.length) (m.put id (.arr el kk (r.map f)))) : LOp P pr ro ⟨some i, .makeSlice t x y, ty, pos, af, g⟩ ev m K := by
 subst hi; subst hk
 unfold mkl at hl; split at hl
 ·rename_i h0; cases hl
  rw [LOp_makeSlice, he]
  simp only [Option.getD_some, hz, hx, hy]
  exact ⟨trivial, h0.1, h0.2, hr, hp, hf, by simpa using h⟩
 ·cases hl
theorem oLnL {α : Type} {f : α → LV} {xs : List α} (he : telem P t = some el) (hx : ev x = .lst kk (xs.map f)) (h : K (.int .i64 xs.length) m) : LOp P pr ro ⟨d, .call ⟨.builtin .len, #[x], #[t]⟩, ty, pos, af, g⟩ ev m K := by rw [LOp_len, hx]; exact ⟨by rw [he]; rfl, by simpa using h⟩
theorem oLnA {α : Type} {f : α → LV} {xs : List α} {el' : Nat} (he : telem P t = some el) (hx : ev x = .arr id xs.length) (hm : m id = some (.arr el' kk (xs.map f))) (h : K (.int .i64 xs.length) m) : LOp P pr ro ⟨d, .call ⟨.builtin .len, #[x], #[t]⟩, ty, pos, af, g⟩ ev m K := by
 rw [LOp_len, hx]; simp only [hm]; exact ⟨by rw [he]; rfl, by simp, h⟩
theorem appOk {α : Type} {xs ys r : List α} (h : app xs ys = some r) : xs.length + ys.length ≤ 1099511627776 ∧ r = xs ++ ys := by
 unfold app at h; split at h
 ·cases h; exact ⟨by assumption, rfl⟩
 ·cases h
theorem oAp {α : Type} {f : α → LV} {xs ys r : List α} (he : telem P t = some el) (hr : trow P el = true) (hs : tsize P el = kk) (hx : ev x = .arr id xs.length) (hm : m id = some (.arr el kk (xs.map f))) (hp : ¬ pr id) (hy : ev y = .lst kk (ys.map f)) (hl : app xs ys = some r) (h : K (.arr id r.length) (m.put id (.arr el kk (r.map f)))) : LOp P pr ro ⟨some i, .call ⟨.builtin .append, #[x, y], #[t, t]⟩, ty, pos, af, g⟩ ev m K := by
 obtain ⟨h0, rfl⟩ := appOk hl
 subst hs
 rw [LOp_append, he, hy, hx]
 refine ⟨rfl, hr, rfl, ?_⟩
 simp only [appTo, hm]
 exact ⟨hp, by trivial, by trivial, by simp, by simpa using h0, by simpa using h⟩
theorem oApN {α : Type} {f : α → LV} {ys r : List α} (hi : 100 + i = id) (he : telem P t = some el) (hr : trow P el = true) (hs : tsize P el = kk) (hx : ev x = .nil) (hy : ev y = .lst kk (ys.map f)) (hl : app [] ys = some r) (hf : m id = .none) (h : K (.arr id r.length) (m.put id (.arr el kk (r.map f)))) : LOp P pr ro ⟨some i, .call ⟨.builtin .append, #[x, y], #[t, t]⟩, ty, pos, af, g⟩ ev m K := by
 obtain ⟨h0, rfl⟩ := appOk hl
 subst hs; subst hi
 rw [LOp_append, he, hy, hx]
 refine ⟨rfl, hr, rfl, ?_⟩
 simp only [appTo]
 exact ⟨hf, by simpa using h0, by simpa using h⟩
theorem oCP {f : Nat} {cap args args' : List LV} {xs : List Operand} {ts : Array TypeId} (hx : ev x = .fn f cap) (hf : ∃ fn, P.funcs[f]? = some fn ∧ (fn.name == "runtime.NumGoroutine") = false ∧ fn.body.isNone = false) (ha : xs.map ev ++ cap = args) (hs : SubL args args') (hc : LCall P f args' (Mem.of []) v (Mem.of [])) (hp : LV.pureL args = true) (h : K v m) : LOp P pr ro ⟨d, .call ⟨.value x, xs.toArray, ts⟩, ty, pos, af, g⟩ ev m K := by
 subst ha
 rw [LOp_call, hx]
 exact ⟨hf, PCall.callS (hc.sub hs) hp m h⟩
theorem oCM {f : Nat} {cap args args' : List LV} {xs : List Operand} {ts : Array TypeId} {ml ml' : List (Nat × LE)} (hx : ev x = .fn f cap) (hf : ∃ fn, P.funcs[f]? = some fn ∧ (fn.name == "runtime.NumGoroutine") = false ∧ fn.body.isNone = false) (ha : xs.map ev ++ cap = args) (hs : SubL args args') (hc : LCall P f args' (Mem.of ml) v (Mem.of ml')) (hm : MemIs m ml) (hnew : ∀ p ∈ ml', (ml.any fun q => q.1 == p.1) = true ∨ m p.1 = .none) (hr : keptRefs (args.map fun x => (0, x)) ml = true) (h : K v (m.over (Mem.of ml'))) : LOp P pr ro ⟨d, .call ⟨.value x, xs.toArray, ts⟩, ty, pos, af, g⟩ ev m K := by
 subst ha
 rw [LOp_call, hx]
 exact ⟨hf, LCall.callL (hc.sub hs) hm hnew hr h⟩

def EnvSub (e : Env) : List (Nat × LV) → Prop
 | [] => True
 | (i, v) :: r => Sub (e i) v ∧ EnvSub e r
theorem EnvSub.at : ∀ {l : List (Nat × LV)}, EnvSub e l → ∀ i, Sub (e i) (Env.of l i)
 | [], _, i => Sub.und
 | (j, v) :: r, h, i => by
  simp only [Env.of]
  split
  ·rename_i hi; subst hi; exact h.1
  ·exact EnvSub.at h.2 i
theorem eN : EnvSub e [] := trivial
def EnvEq (e : Env) : List (Nat × LV) → Prop
 | [] => True
 | (i, v) :: r => e i = v ∧ EnvEq e r
theorem eQ : ∀ {l : List (Nat × LV)}, EnvEq e l → EnvSub e l
 | [], _ => trivial
 | (i, v) :: r, h => ⟨h.1 ▸ Sub.rfl, eQ h.2⟩
theorem eC {r : List (Nat × LV)} (h : e i = v) (hr : EnvSub e r) : EnvSub e ((i, v) :: r) := ⟨h ▸ Sub.rfl, hr⟩
theorem Wk.sub {el : List (Nat × LV)} (h : EnvSub e el) : Wk pr e m (Env.of el) m := fun N c a hr => ⟨c, rfl, ⟨fun i => h.at i c _ (hr.env i), hr.mem, hr.size, hr.defers⟩, .refl pr c⟩
theorem of_keys (el : List (Nat × LV)) (i : Nat) : Env.of (el.map fun p => (p.1, e p.1)) i = if (el.any fun p => p.1 == i) = true then e i else .und := by
 induction el with
 | nil => rfl
 | cons p r ih =>
  simp only [List.map_cons, Env.of, List.any_cons]
  by_cases h : i = p.1
  ·simp [h]
  ·rw [if_neg h, ih]
   have : (p.1 == i) = false := by simpa using fun h' => h h'.symm
   simp only [this, Bool.false_or]
theorem of_nokey (el : List (Nat × LV)) (i : Nat) (h : ¬ (el.any fun p => p.1 == i) = true) : Env.of el i = .und := by
 induction el with
 | nil => rfl
 | cons p r ih =>
  simp only [List.any_cons, Bool.or_eq_true, not_or] at h
  simp only [Env.of]
  rw [if_neg (fun h' => h.1 (by simp [h'])), ih h.2]
theorem Wk.to {ml : List (Nat × LE)} {el : List (Nat × LV)} (he : EnvSub e el) (hm : MemIs m ml) (hr : keptRefs (el.map fun p => (p.1, e p.1)) ml = true) (hpr : ∀ id, pr id → m id = .none ∨ Mem.of ml id ≠ .none) : Wk pr e m (Env.of el) (Mem.of ml) := by
 refine (Wk.cut (el.map fun p => (p.1, e p.1)) ml (fun p hp => ?_) hm.all hr hpr).trans fun N c a hrep => ⟨c, rfl, ⟨fun i => ?_, hrep.mem, hrep.size, hrep.defers⟩, .refl pr c⟩
 ·obtain ⟨q, _, rfl⟩ := List.mem_map.1 hp
  rfl
 ·have h1 := hrep.env i
  rw [of_keys] at h1
  by_cases hk : (el.any fun p => p.1 == i) = true
  ·rw [if_pos hk] at h1; exact he.at i c _ h1
  ·rw [of_nokey el i hk]; simp [RepV]
theorem prK {ml0 ml : List (Nat × LE)} (h : (ml0.all fun p => ml.any fun q => q.1 == p.1) = true) : ∀ id, Mem.of ml0 id ≠ .none → m id = .none ∨ Mem.of ml id ≠ .none := by
 intro id hid
 cases hx : Mem.of ml0 id with
 | none => exact absurd hx hid
 | some le => exact .inr (memOf_ne (List.all_eq_true.1 h _ (memOf_some hx)))
theorem prN {ml0 : List (Nat × LE)} (h : Mem.of ml0 id = .none) : ¬ (fun id => Mem.of ml0 id ≠ .none) id := fun h' => h' h
def OwnL (id : Nat) : List (Nat × LV) → List (Nat × LV) → Prop
 | [], [] => True
 | p :: r, q :: s => (q.1 = p.1 ∧ (q.2 = p.2 ∨ (p.2 = .nil ∧ q.2 = .arr id 0))) ∧ OwnL id r s
 | _, _ => False
theorem wN : OwnL id [] [] := trivial
theorem wK {p : Nat × LV} {r s : List (Nat × LV)} (h : OwnL id r s) : OwnL id (p :: r) (p :: s) := ⟨⟨rfl, .inl rfl⟩, h⟩
theorem wO {r s : List (Nat × LV)} (h : OwnL id r s) : OwnL id ((i, .nil) :: r) ((i, .arr id 0) :: s) := ⟨⟨rfl, .inr ⟨rfl, rfl⟩⟩, h⟩
theorem OwnL.len : ∀ {el el' : List (Nat × LV)}, OwnL id el el' → el'.length = el.length
 | [], [], _ => rfl
 | _ :: _, _ :: _, h => by simp [h.2.len]
theorem OwnL.get : ∀ {el el' : List (Nat × LV)}, OwnL id el el' → ∀ i : Nat, ∀ p q, el[i]? = some p → el'[i]? = some q → q.1 = p.1 ∧ (q.2 = p.2 ∨ (p.2 = .nil ∧ q.2 = .arr id 0))
 | [], [], _, i, p, q, hp, hq => by simp at hp
 | a :: r, b :: s, h, 0, p, q, hp, hq => by simp at hp hq; subst hp; subst hq; exact h.1
 | a :: r, b :: s, h, i + 1, p, q, hp, hq => by simp at hp hq; exact h.2.get i p q hp hq
theorem Wk.ownL {el el' : List (Nat × LV)} {ml : List (Nat × LE)} (id e0 k0 : Nat) (hid : Mem.of ml id = .none) (hk : Nat.ble 1 k0 = true) (h : OwnL id el el') : Wk pr (Env.of el) (Mem.of ml) (Env.of el') (Mem.of ((id, .arr e0 k0 []) :: ml)) :=
 Wk.own id e0 k0 hid (Nat.le_of_ble_eq_true hk) h.len h.get
theorem LH.loneT {rid : Nat} {Q : Exit → Env → Mem → Prop} (el : List (Nat × LV)) (ml : List (Nat × LE)) (hd : dstsOk N l = true) (h : SOps P N pr l.toArray l (fun e m => Wk pr e m (Env.of el) (Mem.of ml)) e m) (hr : Q .normal (Env.of el) (Mem.of ml)) : LH P N pr (.region rid l.toArray false) Q e m := by
 obtain ⟨e', m', hK, hrun⟩ := h (dsts_of hd) (by simp)
 refine ⟨.normal, _, _, LExec.post (e' := e') (m' := m') (fun c a hr => ?_) hK, hr⟩
 refine wp_region ?_
 rw [List.size_toArray, List.range_eq_range', wpOps_eq_wpList l 0 (by simp)]
 exact hrun c a hr
theorem LH.seqT {rid : Nat} {yc : Code} {Q : Exit → Env → Mem → Prop} (el : List (Nat × LV)) (ml : List (Nat × LE)) (hd : dstsOk N l = true) (h : SOps P N pr l.toArray l (fun e m => Wk pr e m (Env.of el) (Mem.of ml)) e m) (hr : LH P N pr yc Q (Env.of el) (Mem.of ml)) : LH P N pr (.seq (.region rid l.toArray false) yc) Q e m :=
 LH.seq (LH.loneT el ml hd h hr)
theorem LH.loneTM {rid : Nat} {Q : Exit → Env → Mem → Prop} (hmix : P.follows .mixedOrders = true) (ro : List Nat) (mds : List Nat) (el : List (Nat × LV)) (ml : List (Nat × LE)) (hlen : mds.length = l.length) (hd : dstsOk N l = true) (hok : drawOk l.toArray mds = true)
  (h : LOpsM P pr ro l.toArray (l.zip mds) (fun e m => Wk pr e m (Env.of el) (Mem.of ml)) e m) (hr : Q .normal (Env.of el) (Mem.of ml)) : LH P N pr (.region rid l.toArray true) Q e m := by
 obtain ⟨e', m', hK, hc⟩ := LOpsM_chain _ h
 rw [← zip_modes l mds hlen] at hc
 obtain ⟨ex, e2, m2, h1, h2⟩ := LH.regionC (Q := fun ex e m => ex = .normal ∧ e = e' ∧ m = m') hmix ro mds hd hok hc ⟨rfl, rfl, rfl⟩
 obtain ⟨rfl, rfl, rfl⟩ := h2
 exact ⟨.normal, _, _, h1.post hK, hr⟩

section
variable {Q : Exit → Env → Mem → Prop} {M : Env → Mem → Prop} {I : Nat → Env → Mem → Prop}
theorem thenN (h : M e m) : thenQ M Q .normal e m := h
theorem thenX (h : Q (.exit i) e m) : thenQ M Q (.exit i) e m := h
theorem thenR (h : Q .ret e m) : thenQ M Q .ret e m := h
theorem blockN (h : Q .normal e m) : blockQ j Q .normal e m := h
theorem blockR (h : Q .ret e m) : blockQ j Q .ret e m := h
theorem blockH (h : Q .normal e m) : blockQ j Q (.exit j) e m := by simp only [blockQ, if_true]; exact h
theorem roundX (h : Q (.exit i) e m) : roundQ pr I n Q (.exit i) e m := h
theorem roundR (h : Q .ret e m) : roundQ pr I n Q .ret e m := h
theorem roundN {e' : Env} {m' : Mem} (hw : Wk pr e m e' m') (h : I n e' m') : roundQ pr I (n + 1) Q .normal e m := ⟨e', m', hw, n, Nat.lt_succ_self n, h⟩
end
def Ends (LV0 : LV) (ml1 : List (Nat × LE)) (lv : LV) (m' : Mem) : Prop := Sub lv LV0 ∧ m' = Mem.of ml1
theorem lr0 {KL : List LV → Prop} (h : KL []) : lres P e m [] KL := h
theorem lrT {KL : List LV → Prop} {r : List ResultVar} (hv : e i = v) (h : lres P e m r fun l => KL (v :: l)) : lres P e m (.tmp i :: r) KL := by simp only [lres]; rw [hv]; exact h
theorem lrSA {KL : List LV → Prop} {r : List ResultVar} (hv : e i = .sptr cs) (ht : tok P t = true) (ha : tagg P t = true) (hs : tsize P t = n) (hl2 : Nat.ble n cs.length = true) (hc : cs.take n = cs') (h : lres P e m r fun l => KL (.agg cs' :: l)) : lres P e m (.cell i t :: r) KL := by
 subst hc; subst hs
 simp only [lres, hv, loadC_def, ha, if_true]; exact ⟨ht, Nat.le_of_ble_eq_true hl2, h⟩
theorem retE {fn : Func} {rs : List ResultVar} {LV0 : LV} {ml1 : List (Nat × LE)} (hr : fn.results.toList = rs) (h : lres P e m rs fun l => (∀ p ∈ ml1, m p.1 = some p.2) ∧ keptRefs [(0, oneOf l)] ml1 = true ∧ (∀ id, pr id → m id = .none ∨ Mem.of ml1 id ≠ .none) ∧ Sub (oneOf l) LV0) : retQ P fn pr (Ends LV0 ml1) .ret e m := by
 have key : ∀ (rs : List ResultVar) (K K' : List LV → Prop), (∀ l, K l → K' l) → lres P e m rs K → lres P e m rs K' := by
  intro rs
  induction rs with
  | nil => intro K K' hk h; exact hk _ h
  | cons r rs ih =>
   intro K K' hk h
   have hl : ∀ (t : TypeId) (cs : List LV) (A B : LV → Prop), (∀ x, A x → B x) → loadC P t cs A → loadC P t cs B := by
    intro t cs A B hab hA
    obtain ⟨ht, hA⟩ := hA
    refine ⟨ht, ?_⟩
    split at hA
    ·rename_i hg; rw [if_pos hg]; exact ⟨hA.1, hab _ hA.2⟩
    ·rename_i hg
     rw [if_neg hg]
     match cs, hA with
     | x :: cs, hA => exact hab _ hA
   cases r with
   | tmp t => exact ih _ _ (fun l hl => hk _ hl) h
   | cell a t =>
    simp only [lres] at h ⊢
    cases hx : e a <;> simp only [hx] at h ⊢
    case sptr cs => exact hl _ _ _ _ (fun lv hlv => ih _ _ (fun l hl => hk _ hl) hlv) h
    case ptr id o =>
     cases hm : m id with
     | none => simp [hm] at h
     | some le =>
      cases le with
      | map _ _ _ => simp [hm] at h
      | nest _ _ _ _ => simp [hm] at h
      | dead => simp [hm] at h
      | arr _ _ _ => simp [hm] at h
      | box cs =>
       simp only [hm] at h ⊢
       exact ⟨h.1, hl _ _ _ _ (fun lv hlv => ih _ _ (fun l hl => hk _ hl) hlv) h.2⟩
 show lres P e m fn.results.toList _
 rw [hr]
 exact key _ _ _ (fun l ⟨h1, h2, h3, h4⟩ => ⟨ml1, h1, h2, h3, h4, rfl⟩) h
theorem bodyT {f : Nat} {fn : Func} {code : Code} {args : List LV} {ml0 ml1 : List (Nat × LE)} {LV0 : LV} (hf : P.funcs[f]? = some fn) (hb : fn.body = some code) (hn : args.length ≤ fn.ntmps)
  (h : LH P fn.ntmps (fun id => Mem.of ml0 id ≠ .none) code (retQ P fn (fun id => Mem.of ml0 id ≠ .none) (Ends LV0 ml1)) (Env.args args) (Mem.of ml0)) : LCall P f args (Mem.of ml0) LV0 (Mem.of ml1) := by
 obtain ⟨lv, m', h1, h2, rfl⟩ := LCall.of_body (R := Ends LV0 ml1) hf hb hn h
 exact h1.res h2
theorem memN {ml : List (Nat × LE)} (h : MemIs m ml) : ∀ p ∈ ml, m p.1 = some p.2 := h.all
theorem newN {ml : List (Nat × LE)} : ∀ p ∈ ([] : List (Nat × LE)), (ml.any fun q => q.1 == p.1) = true ∨ m p.1 = .none := by simp
theorem newI {ml ml' : List (Nat × LE)} {le : LE} (h : (ml.any fun q => q.1 == i) = true) (h2 : ∀ p ∈ ml', (ml.any fun q => q.1 == p.1) = true ∨ m p.1 = .none) : ∀ p ∈ (i, le) :: ml', (ml.any fun q => q.1 == p.1) = true ∨ m p.1 = .none := by
 intro p hp; rcases List.mem_cons.1 hp with rfl | hp
 ·exact .inl h
 ·exact h2 p hp
theorem newF {ml ml' : List (Nat × LE)} {le : LE} (h : m i = .none) (h2 : ∀ p ∈ ml', (ml.any fun q => q.1 == p.1) = true ∨ m p.1 = .none) : ∀ p ∈ (i, le) :: ml', (ml.any fun q => q.1 == p.1) = true ∨ m p.1 = .none := by
 intro p hp; rcases List.mem_cons.1 hp with rfl | hp
 ·exact .inr h
 ·exact h2 p hp
end
mutual
theorem frzA_noref {id k : Nat} {ys : List LV} : ∀ (x : LV), x.noref id = true → x.frzA id k ys = x
 | .und, _ | .int _ _, _ | .bool _, _ | .nil, _ | .slen _, _ | .full _ _, _ | .str _, _ | .it _, _ | .nilf, _ | .nilp, _ | .lst _ _, _ => by simp [LV.frzA]
 | .sptr cs, h => by simp only [LV.noref] at h; simp [LV.frzA, h]
 | .arr i n, h => by simp [LV.noref] at h; simp [LV.frzA, h]
 | .ptr i n, h => by simp [LV.noref] at h; simp [LV.frzA, h]
 | .eptr i n j o, h => by simp [LV.noref] at h; simp [LV.frzA, h]
 | .mp i, h => by simp [LV.noref] at h; simp [LV.frzA, h]
 | .agg cs, h => by simp only [LV.noref] at h; simp only [LV.frzA]; rw [frzAL_noref cs h]
 | .tup cs, h => by simp only [LV.noref] at h; simp only [LV.frzA]; rw [frzAL_noref cs h]
 | .fn _ cs, h => by simp only [LV.noref] at h; simp only [LV.frzA]; rw [frzAL_noref cs h]
 | .bfn _ cs, h => by simp only [LV.noref] at h; simp only [LV.frzA]; rw [frzAL_noref cs h]
theorem frzAL_noref {id k : Nat} {ys : List LV} : ∀ (xs : List LV), LV.norefL id xs = true → LV.frzAL id k ys xs = xs
 | [], _ => by simp [LV.frzAL]
 | x :: xs, h => by
  simp only [LV.norefL, Bool.and_eq_true] at h
  simp only [LV.frzAL]; rw [frzA_noref x h.1, frzAL_noref xs h.2]
end
def FrzL (id n : Nat) (lv : LV) : List (Nat × LV) → List (Nat × LV) → Prop
 | [], [] => True
 | p :: r, q :: s => (q.1 = p.1 ∧ ((q.2 = p.2 ∧ p.2.noref id = true) ∨ (p.2 = .arr id n ∧ q.2 = lv))) ∧ FrzL id n lv r s
 | _, _ => False
theorem fN {id n : Nat} {lv : LV} : FrzL id n lv [] [] := trivial
theorem fK {id n : Nat} {lv : LV} {p : Nat × LV} {r s : List (Nat × LV)} (h0 : p.2.noref id = true) (h : FrzL id n lv r s) : FrzL id n lv (p :: r) (p :: s) := ⟨⟨rfl, .inl ⟨rfl, h0⟩⟩, h⟩
theorem fZ {id n i : Nat} {lv : LV} {r s : List (Nat × LV)} (h : FrzL id n lv r s) : FrzL id n lv ((i, .arr id n) :: r) ((i, lv) :: s) := ⟨⟨rfl, .inr ⟨rfl, rfl⟩⟩, h⟩
theorem FrzL.sub {id k n : Nat} {ys : List LV} (hn : n = ys.length) : ∀ {el el' : List (Nat × LV)}, FrzL id n (.lst k ys) el el' → ∀ i, Sub (Env.of (el.map fun p => (p.1, p.2.frzA id k ys)) i) (Env.of el' i)
 | [], [], _, i => Sub.rfl
 | p :: r, q :: s, h, i => by
  obtain ⟨⟨h1, h2⟩, h3⟩ := h
  obtain ⟨pi, pv⟩ := p
  obtain ⟨qi, qv⟩ := q
  simp only at h1 h2
  subst h1
  simp only [List.map_cons, Env.of]
  by_cases hi : i = qi
  ·simp only [hi, if_true]
   rcases h2 with ⟨rfl, h2⟩ | ⟨rfl, rfl⟩
   ·rw [frzA_noref _ h2]; exact Sub.rfl
   ·simp only [LV.frzA, if_true, hn]; exact Sub.rfl
  ·simp only [hi, if_false]
   exact FrzL.sub hn h3 i
theorem Wk.frzL {pr : Nat → Prop} {α : Type} {f : α → LV} {el el' : List (Nat × LV)} {ml : List (Nat × LE)} (id e0 k0 : Nat) (xs : List α) (hid : Mem.of ml id = some (.arr e0 k0 (xs.map f))) (hfree : freeB id ml = true) (hpr : ¬ pr id) (h : FrzL id xs.length (.lst k0 (xs.map f)) el el') :
  Wk pr (Env.of el) (Mem.of ml) (Env.of el') (Mem.of (ml.filter fun q => q.1 != id)) :=
 (Wk.frzA id e0 k0 (xs.map f) hid hfree hpr).trans fun N c a hr => ⟨c, rfl, ⟨fun i => FrzL.sub (by simp) h i c _ (hr.env i), hr.mem, hr.size, hr.defers⟩, .refl pr c⟩
theorem mN {m : Mem} : MemIs m [] := trivial
theorem mC {m : Mem} {i : Nat} {v : LE} {r : List (Nat × LE)} (h : m i = some v) (hr : MemIs m r) : MemIs m ((i, v) :: r) := ⟨h, hr⟩
theorem sbN : SubL [] [] := trivial
theorem sbR {x : LV} {xs ys : List LV} (h : SubL xs ys) : SubL (x :: xs) (x :: ys) := ⟨Sub.rfl, h⟩
theorem sbL {k : Nat} {xs ys : List LV} (h : SubL xs ys) : SubL (.nil :: xs) (.lst k [] :: ys) := ⟨Sub.nil, h⟩
theorem sbS {x y : LV} {xs ys : List LV} (h0 : Sub x y) (h : SubL xs ys) : SubL (x :: xs) (y :: ys) := ⟨h0, h⟩
abbrev lvl {α : Type} (k : Nat) (f : α → LV) : List α → LV := fun xs => .lst k (xs.map f)
theorem andT {b x : Bool} (h : b = true) : x = (b && x) := by subst h; simp
theorem andF {b x : Bool} (h : b = false) : false = (b && x) := by subst h; simp
theorem orT {b x : Bool} (h : b = true) : true = (b || x) := by subst h; simp
theorem orF {b x : Bool} (h : b = false) : x = (b || x) := by subst h; simp
theorem SubL.head {x y : LV} {xs ys : List LV} (h : SubL (x :: xs) (y :: ys)) : Sub x y := h.1
end Go.L
set_option linter.unusedVariables false
set_option linter.unusedSimpArgs false
namespace Go.L
theorem sorted_eq' {α : Type} {cf : α → α → Int} {ys zs : List α} (hp : zs.Perm ys) (hy : ys.Pairwise fun a b => cf a b < 0) (hz : zs.Pairwise fun a b => ¬ cf b a < 0) : zs = ys := by
 induction ys generalizing zs with
 | nil => exact hp.eq_nil
 | cons y ys ih =>
  obtain ⟨hy1, hy2⟩ := List.pairwise_cons.1 hy
  cases zs with
  | nil => exact absurd hp.symm.eq_nil (by simp)
  | cons z zs =>
   obtain ⟨hz1, hz2⟩ := List.pairwise_cons.1 hz
   have hzy : z = y := by
    rcases List.mem_cons.1 (hp.mem_iff.1 (List.mem_cons_self)) with h | h
    ·exact h
    ·have h1 := hy1 z h
     rcases List.mem_cons.1 (hp.mem_iff.2 (List.mem_cons_self : y ∈ y :: ys)) with h2 | h2
     ·exact h2.symm
     ·exact absurd h1 (hz1 y h2)
   subst hzy
   rw [ih (List.Perm.cons_inv hp) hy2 hz2]
def SortTo {α : Type} (c : α → α → Option Int) (xs ys : List α) : Prop :=
 ys.Perm xs ∧ xs.length < 1000000 ∧ ∃ cf : α → α → Int, (∀ x ∈ xs, ∀ y ∈ xs, c x y = some (cf x y)) ∧ (∀ x ∈ xs, ¬ cf x x < 0) ∧ (∀ x ∈ xs, ∀ y ∈ xs, ∀ z ∈ xs, cf x y < 0 → cf y z < 0 → cf x z < 0) ∧
  (∀ x ∈ xs, ∀ y ∈ xs, ∀ z ∈ xs, ¬ cf x y < 0 → ¬ cf y z < 0 → ¬ cf x z < 0) ∧ ys.Pairwise fun a b => cf a b < 0
theorem SortTo.unique {α : Type} {c : α → α → Option Int} {xs ys zs : List α} (h : SortTo c xs ys) (h' : SortTo c xs zs) : ys = zs := by
 obtain ⟨hp, _, cf, hc, _, ht, _, hs⟩ := h
 obtain ⟨hp', _, cf', hc', hi', _, _, hs'⟩ := h'
 refine sorted_eq' (cf := cf') (hp.trans hp'.symm) hs' ?_
 refine List.Pairwise.imp_of_mem ?_ hs
 intro a b ha hb hab hba
 have ma := hp.mem_iff.1 ha
 have mb := hp.mem_iff.1 hb
 have h1 : cf' b a = cf b a := by have := hc b mb a ma; rw [hc' b mb a ma] at this; exact Option.some.inj this
 have h2 : cf' a a = cf a a := by have := hc a ma a ma; rw [hc' a ma a ma] at this; exact Option.some.inj this
 rw [h1] at hba
 exact hi' a ma (by rw [h2]; exact ht a ma b mb a ma hab hba)
open Classical in
noncomputable def sortF {α : Type} (c : α → α → Option Int) (xs : List α) : Option (List α) := if h : ∃ ys, SortTo c xs ys then some h.choose else .none
theorem sortF_eq {α : Type} {c : α → α → Option Int} {xs ys : List α} (h : SortTo c xs ys) : sortF c xs = some ys := by
 have hx : ∃ ys, SortTo c xs ys := ⟨ys, h⟩
 unfold sortF
 rw [dif_pos hx]
 exact congrArg some (hx.choose_spec.unique h)
theorem sortF_to {α : Type} {c : α → α → Option Int} {xs ys : List α} (h : sortF c xs = some ys) : SortTo c xs ys := by
 unfold sortF at h
 split at h
 ·rename_i hx; cases h; exact hx.choose_spec
 ·cases h
theorem sortF_len {α : Type} {c : α → α → Option Int} {xs ys : List α} (h : sortF c xs = some ys) : xs.length = ys.length := (sortF_to h).1.length_eq.symm
end Go.L
set_option linter.unusedVariables false
set_option linter.unusedSimpArgs false
namespace Go.L
open Go.Sort Go.Proofs Go.Shelf Go.Lib

theorem sorted_eq {α : Type} {cf : α → α → Int} {ys zs : List α} (hp : zs.Perm ys) (hy : ys.Pairwise fun a b => cf a b < 0) (hz : zs.Pairwise fun a b => ¬ cf b a < 0) : zs = ys := by
 induction ys generalizing zs with
 | nil => exact hp.eq_nil
 | cons y ys ih =>
  obtain ⟨hy1, hy2⟩ := List.pairwise_cons.1 hy
  cases zs with
  | nil => exact absurd hp.symm.eq_nil (by simp)
  | cons z zs =>
   obtain ⟨hz1, hz2⟩ := List.pairwise_cons.1 hz
   have hzy : z = y := by
    rcases List.mem_cons.1 (hp.mem_iff.1 (List.mem_cons_self)) with h | h
    ·exact h
    ·have h1 := hy1 z h
     rcases List.mem_cons.1 (hp.mem_iff.2 (List.mem_cons_self : y ∈ y :: ys)) with h2 | h2
     ·exact h2.symm
     ·exact absurd h1 (hz1 y h2)
   subst hzy
   rw [ih (List.Perm.cons_inv hp) hy2 hz2]

theorem grow_of {w w' : World} (hos : w'.os = w.os) (ht : w'.tape = w.tape) (ho : w'.output = w.output) (hd : w.drawn ≤ w'.drawn) (hs : w.heap.size ≤ w'.heap.size) (hk : ∀ b, b < w.heap.size → w'.heap[b]? = w.heap[b]?) :
  w' = grow (w.drewN (w'.drawn - w.drawn)) (w'.heap.extract w.heap.size w'.heap.size) := by
 obtain ⟨h', t', d', o', p'⟩ := w'
 obtain ⟨h, t, d, o, p⟩ := w
 simp only at hos ht ho hd hs hk
 subst hos; subst ht; subst ho
 simp only [grow, World.drewN, World.mk.injEq, true_and, and_true]
 refine ⟨?_, by omega⟩
 apply Array.ext_getElem?
 intro i
 rw [Array.getElem?_append]
 split
 ·rename_i hi; exact hk i hi
 ·rename_i hi
  rw [Array.getElem?_extract]
  by_cases hi' : i < h'.size
  ·rw [if_pos (by omega)]; congr 1; omega
  ·rw [if_neg (by omega), Array.getElem?_eq_none (by omega)]

theorem sw_os {α : Type} [Inhabited α] (enc : α → Value) (w : World) (blk m : Nat) (d : Array α) (os : Array Obj) : (sortWorld enc w blk 0 m d os).os = w.os ∧ (sortWorld enc w blk 0 m d os).tape = w.tape ∧ (sortWorld enc w blk 0 m d os).output = w.output ∧ w.drawn ≤ (sortWorld enc w blk 0 m d os).drawn ∧ w.heap.size ≤ (sortWorld enc w blk 0 m d os).heap.size := by
 refine ⟨rfl, rfl, rfl, Nat.le_add_right _ _, ?_⟩
 simp [sortWorld, grow, putRow, mapBlock, ahead]
theorem sw_keep {α : Type} [Inhabited α] (enc : α → Value) (w : World) (blk m : Nat) (d : Array α) (os : Array Obj) (b : Nat) (hb : b < w.heap.size) (hne : b ≠ blk) : (sortWorld enc w blk 0 m d os).heap[b]? = w.heap[b]? := by
 simp only [sortWorld, grow, putRow, mapBlock, ahead]
 rw [Array.getElem?_append_left (by simpa using hb), Array.getElem?_modify]
 simp [Ne.symm hne]
theorem sw_at {α : Type} [Inhabited α] (enc : α → Value) (w : World) (blk m : Nat) (d : Array α) (os : Array Obj) {cur : Array Value} {e : TypeId} {z : Nat × Nat} (hg : w.heap[blk]? = some (.cells cur e z)) : (sortWorld enc w blk 0 m d os).heap[blk]? = some (.cells (putCells enc 0 d cur) e z) := by
 have hb : blk < w.heap.size := (Array.getElem?_eq_some_iff.1 hg).1
 simp only [sortWorld, grow, putRow, mapBlock, ahead]
 rw [Array.getElem?_append_left (by simpa using hb), Array.getElem?_modify]
 simp [hg, onCells]

end Go.L
set_option linter.unusedVariables false
set_option linter.unusedSimpArgs false
namespace Go.L
open Go.Sort Go.Proofs Go.Shelf

theorem enters_of {P : Program} {g : Nat} (h : ∃ fn, P.funcs[g]? = some fn ∧ (fn.name == "runtime.NumGoroutine") = false ∧ fn.body.isNone = false) (args : Array Value) (w : World) : (callFunc g args).run P w = .ok (.enter g args) w := by
 obtain ⟨fn, h1, h2, h3⟩ := h
 have h2' : ¬ fn.name = "runtime.NumGoroutine" := by simpa using h2
 have h3' : ¬ fn.body = Option.none := fun hn => by rw [hn] at h3; cases h3
 simp [callFunc, h1, h2', h3']
end Go.L
set_option linter.unusedVariables false
set_option linter.unusedSimpArgs false
namespace Go.L
open Go.Sort Go.Proofs Go.Shelf Go.Lib

theorem flatMap_get {α : Type} {enc : α → List Value} {k : Nat} (hk0 : 0 < k) (hk : ∀ x, (enc x).length = k) : ∀ (l : List α) (t : Nat), (l.flatMap enc)[t]? = (l[t / k]?).bind fun x => (enc x)[t % k]?
 | [], t => by simp
 | x :: l, t => by
  rw [List.flatMap_cons]
  by_cases ht : t < k
  ·rw [List.getElem?_append_left (by rw [hk]; exact ht), Nat.div_eq_of_lt ht, Nat.mod_eq_of_lt ht]; rfl
  ·have h1 : t / k = (t - k) / k + 1 := by
    have := Nat.div_eq_sub_div hk0 (Nat.le_of_not_lt ht); omega
   have h2 : t % k = (t - k) % k := Nat.mod_eq_sub_mod (Nat.le_of_not_lt ht)
   rw [List.getElem?_append_right (by rw [hk]; omega), hk, flatMap_get hk0 hk l (t - k), h1, h2]; rfl
theorem flatK_flat {α : Type} [Inhabited α] {enc : α → List Value} {k : Nat} (hk0 : 0 < k) (hk : ∀ x, (enc x).length = k) (d : Array α) : (flatK enc k d).toList = d.toList.flatMap enc := by
 apply List.ext_getElem?
 intro t
 rw [flatMap_get hk0 hk]
 by_cases ht : t < d.size * k
 ·have h1 : t / k < d.size := Nat.div_lt_of_lt_mul (by rw [Nat.mul_comm]; exact ht)
  have h2 : t % k < k := Nat.mod_lt _ hk0
  have hs : t < (flatK enc k d).size := by simpa using ht
  have hg := get_flatK enc k d t ht
  rw [getElem!_pos _ t hs, getElem!_pos d (t / k) h1, getElem!_pos (enc d[t / k]) (t % k) (by rw [hk]; exact h2)] at hg
  rw [Array.getElem?_toList, Array.getElem?_eq_getElem hs, hg, Array.getElem?_toList, Array.getElem?_eq_getElem h1]
  simp [hk, h2]
 ·have h1 : ¬ t / k < d.size := fun h => ht (by
   have := (Nat.div_lt_iff_lt_mul hk0).1 h; exact this)
  rw [List.getElem?_eq_none (by simp; omega), List.getElem?_eq_none (by simp; omega)]; rfl
theorem sortK_eq {α : Type} [Inhabited α] (enc : α → List Value) (k : Nat) (w : World) (blk off m : Nat) (dk : Array α) (os : Array Obj) : sortWorldK enc k w blk off m dk os = sortWorld _root_.id w blk off m (flatK enc k dk) os := rfl
set_option maxHeartbeats 2000000 in
theorem sortRows {P : Program} {ρ : Ren} (L : SlLaysF0.n6 P ρ) {k : Nat} (aE : ∀ w, (isAgg (ρ.t 24)).run P w = .ok true w) (zE : ∀ w, (Go.sizeOf (ρ.t 24)).run P w = .ok k w) {α : Type} {f : α → LV} (hok : OkF k f) (hag : ∀ x, ∃ cs, f x = .agg cs) (cf : α → α → Int) (g : Nat) (cap : List LV) (hcap : LV.pureL cap = true)
  (eg : ∀ args w, (callFunc g args).run P w = .ok (.enter g args) w) (xs ys : List α) (h1 : ∀ x ∈ xs, ¬ cf x x < 0) (h2 : ∀ x ∈ xs, ∀ y ∈ xs, ∀ z ∈ xs, cf x y < 0 → cf y z < 0 → cf x z < 0) (h3 : ∀ x ∈ xs, ∀ y ∈ xs, ∀ z ∈ xs, ¬ cf x y < 0 → ¬ cf y z < 0 → ¬ cf x z < 0)
  (hcmp : ∀ x ∈ xs, ∀ y ∈ xs, PCall P g ([f x, f y] ++ cap) (.int .i64 (cf x y))) (hperm : ys.Perm xs) (hsort : ys.Pairwise fun a b => cf a b < 0) (hlen : xs.length < 1000000) (id e : Nat) :
  LCall P (ρ.f 6) [.arr id xs.length, .fn g cap] (Mem.of [(id, .arr e k (xs.map f))]) (.tup []) (Mem.of [(id, .arr e k (ys.map f))]) := by
 intro c vs hm ha
 simp only [RepL] at ha
 obtain ⟨v0, vs1, rfl, hv0, v1, vs2, rfl, hv1, rfl⟩ := ha
 obtain ⟨us, hB, hk, hown, hl, hc, hp⟩ := arr_now (e := e) (k := k) (xs := xs.map f) hm hv0 (by simp [Mem.of]) (by simp)
 simp only [RepV] at hv1
 obtain ⟨cb, rfl, hcb⟩ := hv1
 have hlenm : (xs.map f).length = xs.length := by simp
 have hul : us.length = xs.length := by rw [← hl.length]; simp
 rw [hlenm] at hown hB
 by_cases hx0 : xs = []
 ·subst hx0
  have hy0 : ys = [] := hperm.eq_nil
  subst hy0
  obtain ⟨ad, cp, rfl⟩ := ownsRow_len hown
  refine (AnyF.slices_SortFunc_none L ad cp (.func (.func g) #[] cb.toArray) c.w).mono ?_
  rintro en' w' ⟨rfl, rfl⟩
  exact ⟨_, c, rfl, rfl, hm, by simp only [RepV, RepL]; exact ⟨[], rfl, rfl⟩, Grow.refl _ c⟩
 ·have hxl : 0 < xs.length := List.length_pos_iff.2 hx0
  haveI : Inhabited (Fin xs.length) := ⟨⟨0, hxl⟩⟩
  let X : Fin xs.length → α := fun j => xs[j.1]
  let U : Fin xs.length → Value := fun j => us[j.1]'(by rw [hul]; exact j.2)
  let enc : Fin xs.length → List Value := fun j => (U j).cells.toList
  have hXm : ∀ j, X j ∈ xs := fun j => List.getElem_mem j.2
  have hUm : ∀ j, U j ∈ us := fun j => List.getElem_mem _
  have hrep : ∀ j, RepV c (f (X j)) (U j) := fun j => by
   obtain ⟨v, q1, q2⟩ := hl.get (i := j.1) (x := f (X j)) (by simp [X])
   have : v = U j := by
    rw [List.getElem?_eq_getElem (by rw [hul]; exact j.2)] at q1
    exact (Option.some.inj q1).symm
   rw [← this]; exact q2
  have hagg : ∀ j, U j = .agg (enc j).toArray := fun j => by
   obtain ⟨cs, hcs⟩ := hag (X j)
   have := hrep j
   rw [hcs] at this
   simp only [RepV] at this
   obtain ⟨ws, hws, _⟩ := this
   simp [enc, hws, Value.cells]
  have hek : ∀ j, (enc j).length = k := fun j => by simpa [enc] using (hc _ (hUm j)).1
  have heo : ∀ j, ∀ v ∈ enc j, v.oneCell' = true := fun j v hv => (hc _ (hUm j)).2 v (by simpa [enc] using hv)
  have hflat : ∀ (l : List (Fin xs.length)), l.flatMap enc = flat (l.map U) := fun l => by simp [flat, enc, List.flatMap_map]
  have hfin : (List.finRange xs.length).map U = us := by
   apply List.ext_getElem
   ·simp [hul]
   ·intro i hi hi'; simp [U]
  have hfinX : (List.finRange xs.length).map X = xs := by
   apply List.ext_getElem
   ·simp
   ·intro i hi hi'; simp [X]
  let d : Array (Fin xs.length) := (List.finRange xs.length).toArray
  have hdl : d.toList = List.finRange xs.length := rfl
  have hds : d.size = xs.length := by simp [d]
  have hO : SWO (ltOf fun i j : Fin xs.length => cf (X i) (X j)) := by
   constructor
   ·intro x; simp only [ltOf, decide_eq_false_iff_not]; exact h1 _ (hXm x)
   ·intro x y z; simp only [ltOf, decide_eq_true_eq]; exact h2 _ (hXm x) _ (hXm y) _ (hXm z)
   ·intro x y z; simp only [ltOf, decide_eq_false_iff_not]; exact h3 _ (hXm x) _ (hXm y) _ (hXm z)
  rcases hown.2 with ⟨rfl, h0⟩ | ⟨blk, cp, cur, rfl, _, hg, hnc, hcm, hcs, htk⟩
  ·omega
  ·have hblk : blk < c.w.heap.size := (Array.getElem?_eq_some_iff.1 hg).1
   have hfd : (flatK enc k d).toList = flat us := by rw [flatK_flat hk hek, hdl, hflat, hfin]
   have hfl : (flat us).length = xs.length * k := by rw [← hfd]; simp [hds]
   have hH : HoldsK enc k c.w blk 0 d := by
    intro j hj
    have hj' : j < xs.length * k := by simpa [hds] using hj
    have hcur : cur[j]? = some (flatK enc k d)[j]! := by
     have q1 := congrArg (fun l => l[j]?) htk
     simp only [List.getElem?_take] at q1
     rw [if_pos hj', ← hfd] at q1
     have hjs : j < (flatK enc k d).size := by simpa [hds] using hj'
     rw [← Array.getElem?_toList, q1, Array.getElem?_toList, Array.getElem?_eq_getElem hjs, getElem!_pos _ j hjs]
    constructor
    ·simp [World.cell?, hg, hcur]
    ·simp [World.frozen?, hg]
   have hX : c.X blk := .inr ⟨id, _, hB, by simp [BE.has, Value.ownBlock]⟩
   have hcmpL : CmpLays P g cb.toArray enc k (fun i j => cf (X i) (X j)) blk 0 d.size c.w := by
    intro q os dk hdk x y
    rw [sortK_eq]
    obtain ⟨s1, s2, s3, s4, s5⟩ := sw_os _root_.id c.w blk q (flatK enc k dk) os
    have hkp := sw_keep _root_.id c.w blk q (flatK enc k dk) os
    have hle : c.Le ⟨sortWorld _root_.id c.w blk 0 q (flatK enc k dk) os, fun _ => .none, c.X⟩ := by
     refine ⟨s5, fun b hb hx => ⟨hkp b hb (fun h => hx (h ▸ hX)), ?_⟩⟩
     rintro (h | ⟨_, _, h, _⟩)
     ·exact hx h
     ·cases h
    have hm0 : RepM ⟨sortWorld _root_.id c.w blk 0 q (flatK enc k dk) os, fun _ => .none, c.X⟩ Mem.none := by
     refine ⟨fun _ => by simp [RepE, Mem.none], (fun _ _ _ _ _ h => by cases h), (fun b ⟨_, _, h, _⟩ => by cases h), fun b hb => ?_⟩
     rcases hb with hb | hb
     ·exact Nat.lt_of_lt_of_le (hm.Olt b hb) s5
     ·exact Nat.lt_of_lt_of_le (hm.own_lt hb) s5
    have hel : ∀ j, RepV ⟨sortWorld _root_.id c.w blk 0 q (flatK enc k dk) os, fun _ => .none, c.X⟩ (f (X j)) (U j) := fun j => RepV.mono hle _ _ (fun i hi => by rw [noref_of_pure _ (hok (X j)).1] at hi; cases hi) (hrep j)
    have hargs : RepL ⟨sortWorld _root_.id c.w blk 0 q (flatK enc k dk) os, fun _ => .none, c.X⟩ ([f (X x), f (X y)] ++ cap) ([U x, U y] ++ cb) := by
     simp only [List.cons_append, List.nil_append, RepL]
     refine ⟨_, _, rfl, hel x, _, _, rfl, hel y, RepL.mono hle cap cb (fun j hj => ?_) hcb⟩
     rw [norefL_of_pureL cap hcap] at hj; cases hj
    have hcall := hcmp _ (hXm x) _ (hXm y) _ _ hm0 hargs
    have hargsE : (([U x, U y] ++ cb : List Value)).toArray = #[.agg (enc x).toArray, .agg (enc y).toArray] ++ cb.toArray := by rw [← hagg, ← hagg]; simp
    rw [hargsE] at hcall
    refine hcall.mono ?_
    rintro en' w' ⟨v, c', rfl, rfl, _, hv, hgr⟩
    simp only [RepV] at hv
    refine ⟨by rw [hv], _, _, grow_of hgr.os hgr.tape hgr.output hgr.drawn hgr.size fun b hb => hgr.keep b hb ?_⟩
    rintro ⟨_, _, h, _⟩
    cases h
   have hS := AnyQ.slices_SortFunc L k aE zE enc hek heo (fun i j => cf (X i) (X j)) hO g cb.toArray blk 0 cp d c.w eg hcmpL hH hblk (by rw [hds]; omega)
   rw [hds] at hS
   refine hS.mono ?_
   rintro en' w' ⟨rfl, d', q, os, hP, hSt, rfl⟩
   have hdsz : d'.size = xs.length := by rw [hP.1, hds]
   have hp1 : d'.toList.Perm (List.finRange xs.length) := by
    have := hP.2.2
    simp only [Array.toList_extract, List.extract_eq_take_drop, Nat.sub_zero, List.drop_zero] at this
    rw [List.take_of_length_le (by simp [hdsz]), List.take_of_length_le (by simp [d])] at this
    exact this
   have hd' : d'.toList.map X = ys := by
    refine sorted_eq (cf := cf) ((hp1.map X).trans (by rw [hfinX]; exact hperm.symm)) hsort ?_
    rw [List.pairwise_map, List.pairwise_iff_getElem]
    intro i j hi hj hij
    simp only [Array.length_toList] at hi hj
    have := hSt i j (Nat.zero_le _) hij (by omega)
    simp only [ltOf, decide_eq_false_iff_not] at this
    rw [getElem!_pos d' j hj, getElem!_pos d' i hi] at this
    simpa using this
   rw [sortK_eq]
   obtain ⟨s1, s2, s3, s4, s5⟩ := sw_os _root_.id c.w blk q (flatK enc k d') os
   have hkp := sw_keep _root_.id c.w blk q (flatK enc k d') os
   have hat := sw_at _root_.id c.w blk q (flatK enc k d') os hg
   have hyl : ys.length = xs.length := hperm.length_eq
   have hfd' : (flatK enc k d').toList = flat (d'.toList.map U) := by rw [flatK_flat hk hek, hflat]
   obtain ⟨c', hw', hB', hm', hst⟩ := hm.upd (pr := fun i => Mem.of [(id, LE.arr e k (xs.map f))] i ≠ .none) id (.arr e k (ys.map f)) _ (sortWorld _root_.id c.w blk 0 q (flatK enc k d') os) s1 s2 s3 s4 s5
    (fun b hb hn => hkp b hb fun h => hn _ hB (by rw [h]; simp [BE.has, Value.ownBlock]))
    (fun b hb => .inl ⟨_, hB, hb⟩) (by rw [hB]; exact BLe.refl _) (fun _ be0 h => by rw [hB] at h; cases h; exact .refl _) (by
     intro c1 hc1 hle1 hBl
     simp only [RepE]
     refine ⟨_, d'.toList.map U, by simp only [List.length_map, hyl]; rfl, hk, ?_, ?_, ?_, ?_⟩
     ·rw [← hfd', List.length_map, hyl, hc1]
      have hcur' : cur.size = cp * k := hcs
      refine ⟨by simp [hdsz], .inr ⟨blk, cp, _, rfl, Nat.zero_le _, hat, hnc, hcm, ?_, ?_⟩⟩
      ·simpa [putCells] using hcs
      ·apply List.ext_getElem?
       intro j
       have hnk : xs.length * k ≤ cp * k := Nat.mul_le_mul_right k hnc
       by_cases hj : j < xs.length * k
       ·have hj2 : j < (flatK enc k d').size := by simpa [hdsz] using hj
        rw [List.getElem?_take, if_pos hj, Array.getElem?_toList, Array.getElem?_toList]
        simp only [putCells, Array.getElem?_mapIdx, Nat.zero_le, Nat.zero_add, Nat.sub_zero, true_and]
        rw [Array.getElem?_eq_getElem (by omega), Array.getElem?_eq_getElem hj2]
        simp only [Option.map_some, if_pos hj2, _root_.id, getElem!_pos (flatK enc k d') j hj2]
       ·rw [List.getElem?_take, if_neg hj, List.getElem?_eq_none (by simp [hdsz]; omega)]
     ·rw [← hd', List.map_map]
      refine RepL.of (by simp) fun i lx v hlx hv => ?_
      simp only [List.getElem?_map, Option.map_eq_some_iff] at hlx hv
      obtain ⟨j, q1, rfl⟩ := hlx
      obtain ⟨j', q2, rfl⟩ := hv
      rw [q1] at q2; cases q2
      show RepV c1 (f (X j)) (U j)
      exact RepV.mono hle1 _ _ (fun i hi => by rw [noref_of_pure _ (hok (X j)).1] at hi; cases hi) (hrep j)
     ·intro v hv
      obtain ⟨j, _, rfl⟩ := List.mem_map.1 hv
      exact hc _ (hUm j)
     ·exact hok.pureL ys)
   refine ⟨_, c', rfl, hw', ?_, by simp only [RepV, RepL]; exact ⟨[], rfl, rfl⟩, hst.grow⟩
   have hme : Mem.put (Mem.of [(id, LE.arr e k (xs.map f))]) id (.arr e k (ys.map f)) = Mem.of [(id, LE.arr e k (ys.map f))] := by
    funext i
    by_cases hi : i = id
    ·subst hi; simp [Mem.put, Mem.of]
    ·simp [Mem.put, Mem.of, hi]
   rwa [hme] at hm'
theorem sortR_ok {P : Program} {ρ : Ren} (L : SlLaysF0.n6 P ρ) {fn k : Nat} (hf : ρ.f 6 = fn) (aE : ∀ w, (isAgg (ρ.t 24)).run P w = .ok true w) (zE : ∀ w, (Go.sizeOf (ρ.t 24)).run P w = .ok k w) {α : Type} {f : α → LV} (hok : OkF k f) (hag : ∀ x, ∃ cs, f x = .agg cs) {c : α → α → Option Int} {xs r : List α} {g : Nat} {cap : List LV} (hg : ∃ fn, P.funcs[g]? = some fn ∧ (fn.name == "runtime.NumGoroutine") = false ∧ fn.body.isNone = false) (hcap : LV.pureL cap = true)
  (hcmp : ∀ x y q, c x y = some q → LCall P g ([f x, f y] ++ cap) (Mem.of []) (.int .i64 q) (Mem.of [])) (id e : Nat) (h : sortF c xs = some r) :
  LCall P fn [.arr id xs.length, .fn g cap] (Mem.of [(id, .arr e k (xs.map f))]) (.tup []) (Mem.of [(id, .arr e k (r.map f))]) := by
 subst hf
 obtain ⟨hp, hn, cf, hc, h1, h2, h3, hs⟩ := sortF_to h
 exact sortRows L aE zE hok hag cf g cap hcap (enters_of hg) xs r h1 h2 h3 (fun x hx y hy => hcmp _ _ _ (hc x hx y hy)) hp hs hn id e
end Go.L
set_option linter.unusedVariables false
set_option linter.unusedSimpArgs false
namespace Go.L
section
variable {P : Program} {N : Nat} {pr : Nat → Prop} {ro : List Nat} {ops : Array Oper} {e : Env} {m m' : Mem} {ev ev' : Operand → LV} {o : Oper} {lv : LV} {l : List Oper} {mds : List Nat} {KE : Env → Mem → Prop}
theorem OpOkR.ok (h : OpOkR P pr o ev m lv m') : OpOk P pr o ev m lv m' := fun c a Q hev hm => h c a Q (fun x _ => hev x) hm
theorem OpOkR.value (h : ∀ (c : Cx) (a : Act), (∀ x ∈ o.op.operands, RepV c (ev x) (a.eval x)) → RepM c m → ∃ v c', (execOp a.eval o).run P c.w = .ok (.value v) c'.w ∧ RepV c' lv v ∧ RepM c' m' ∧ Step pr c c') : OpOkR P pr o ev m lv m' := by
 intro c a Q hev hm
 obtain ⟨v, c', hr, h1, h2, h3⟩ := h c a hev hm
 unfold Oper.wp
 rw [hr]
 exact ⟨v, c', rfl, rfl, h1, h2, h3⟩
theorem OpOkR.skip (hd : o.dst = .none) (h : ∀ (c : Cx) (a : Act), (∀ x ∈ o.op.operands, RepV c (ev x) (a.eval x)) → RepM c m → ∃ c', (execOp a.eval o).run P c.w = .ok .skip c'.w ∧ RepM c' m' ∧ Step pr c c') : OpOkR P pr o ev m .und m' := by
 intro c a Q hev hm
 obtain ⟨c', hr, h2, h3⟩ := h c a hev hm
 unfold Oper.wp
 rw [hr]
 exact ⟨undef, c', by simp [Act.put, hd], rfl, by simp [RepV], h2, h3⟩
theorem sX {i : Nat} {op : Op} {ty : TypeId} {pos : String} {af : Array Edge} (h : OpOk P pr ⟨some i, op, ty, pos, af, .none⟩ (lev e) m lv m') (hr : SOps P N pr ops l KE (e.put i lv) m') : SOps P N pr ops (⟨some i, op, ty, pos, af, .none⟩ :: l) KE e m := by
 intro hd hl
 obtain ⟨e2, m2, hK, hrest⟩ := hr hd (fun q hq => hl q (by simp [hq]))
 refine ⟨e2, m2, hK, fun c a hrep => ?_⟩
 simp only [wpList]
 rw [if_pos (by simp [Region.wanted])]
 left
 refine Oper.wp_mono ?_ (h c a _ hrep.ev hrep.mem)
 rintro a' w' ⟨v, c', rfl, rfl, hv, hm', hs⟩
 have hrep' : Rep N c' (e.put i lv) m' (a.put (some i) v) := hrep.put (d := some i) hs hm' (hd ⟨some i, op, ty, pos, af, .none⟩ (hl _ (by simp))) hv
 refine wpList_mono _ _ _ _ _ ?_ (hrest c' _ hrep')
 rintro x a'' w'' ⟨hx, c2, hw2, hr2, hg2⟩
 exact ⟨hx, c2, hw2, hr2, hs.grow.trans hg2⟩
theorem sX_ {op : Op} {ty : TypeId} {pos : String} {af : Array Edge} (h : OpOk P pr ⟨.none, op, ty, pos, af, .none⟩ (lev e) m lv m') (hr : SOps P N pr ops l KE e m') : SOps P N pr ops (⟨.none, op, ty, pos, af, .none⟩ :: l) KE e m := by
 intro hd hl
 obtain ⟨e2, m2, hK, hrest⟩ := hr hd (fun q hq => hl q (by simp [hq]))
 refine ⟨e2, m2, hK, fun c a hrep => ?_⟩
 simp only [wpList]
 rw [if_pos (by simp [Region.wanted])]
 left
 refine Oper.wp_mono ?_ (h c a _ hrep.ev hrep.mem)
 rintro a' w' ⟨v, c', ha, rfl, hv, hm', hs⟩
 have hrep' : Rep N c' e m' a' := by rw [ha]; exact hrep.put (d := .none) hs hm' (by simp) hv
 refine wpList_mono _ _ _ _ _ ?_ (hrest c' _ hrep')
 rintro x a'' w'' ⟨hx, c2, hw2, hr2, hg2⟩
 exact ⟨hx, c2, hw2, hr2, hs.grow.trans hg2⟩
theorem sXT {i j q : Nat} {want : Bool} {op : Op} {ty : TypeId} {pos : String} {af : Array Edge} (hj : (ops[j]?).bind (·.dst) = some q) (hg : e q = .bool want) (h : OpOk P pr ⟨some i, op, ty, pos, af, some (j, want)⟩ (lev e) m lv m') (hr : SOps P N pr ops l KE (e.put i lv) m') : SOps P N pr ops (⟨some i, op, ty, pos, af, some (j, want)⟩ :: l) KE e m := by
 intro hd hl
 obtain ⟨e2, m2, hK, hrest⟩ := hr hd (fun q hq => hl q (by simp [hq]))
 refine ⟨e2, m2, hK, fun c a hrep => ?_⟩
 simp only [wpList]
 rw [wanted_of hrep hd rfl hj hg, if_pos (by simp)]
 left
 refine Oper.wp_mono ?_ (h c a _ hrep.ev hrep.mem)
 rintro a' w' ⟨v, c', rfl, rfl, hv, hm', hs⟩
 have hrep' : Rep N c' (e.put i lv) m' (a.put (some i) v) := hrep.put (d := some i) hs hm' (hd ⟨some i, op, ty, pos, af, some (j, want)⟩ (hl _ (by simp))) hv
 refine wpList_mono _ _ _ _ _ ?_ (hrest c' _ hrep')
 rintro x a'' w'' ⟨hx, c2, hw2, hr2, hg2⟩
 exact ⟨hx, c2, hw2, hr2, hs.grow.trans hg2⟩

def exactV : LV → Option Value
 | .agg cs => (exactL cs).map fun vs => .agg vs.toArray
 | x => exact1 x
theorem exact1_rep {c : Cx} {x : LV} {u v : Value} (h : exact1 x = some u) (hr : RepV c x v) : v = u := by
 cases x <;> simp [exact1] at h <;> subst h <;> simpa [RepV] using hr
theorem exactL_rep' {c : Cx} : ∀ {xs : List LV} {us vs : List Value}, exactL xs = some us → RepL c xs vs → vs = us
 | [], us, vs, h, hr => by simp [exactL] at h; subst h; simpa [RepL] using hr
 | x :: xs, us, vs, h, hr => by
  simp only [exactL] at h
  split at h
  ·rename_i v0 vs0 h1 h2
   cases h
   simp only [RepL] at hr
   obtain ⟨v, vs', rfl, h3, h4⟩ := hr
   rw [exact1_rep h1 h3, exactL_rep' h2 h4]
  ·cases h
theorem exactV_rep {c : Cx} {x : LV} {u v : Value} (h : exactV x = some u) (hr : RepV c x v) : v = u := by
 cases x
 case agg cs =>
  simp only [exactV, Option.map_eq_some_iff] at h
  obtain ⟨vs, h1, rfl⟩ := h
  simp only [RepV] at hr
  obtain ⟨us, rfl, h2⟩ := hr
  rw [exactL_rep' h1 h2]
 all_goals (simp only [exactV] at h; exact exact1_rep h hr)
theorem exact1_inj {x y : LV} {u : Value} (h : exact1 x = some u) (h' : exact1 y = some u) : x = y := by
 cases x <;> simp [exact1] at h <;> subst h <;> cases y <;> simp [exact1] at h' <;> simp [h']
theorem exactL_inj : ∀ {xs ys : List LV} {us : List Value}, exactL xs = some us → exactL ys = some us → xs = ys
 | [], ys, us, h, h' => by
  simp [exactL] at h; subst h
  cases ys with
  | nil => rfl
  | cons y ys => simp only [exactL] at h'; split at h' <;> cases h'
 | x :: xs, ys, us, h, h' => by
  simp only [exactL] at h
  split at h
  ·rename_i v0 vs0 h1 h2
   cases h
   cases ys with
   | nil => simp [exactL] at h'
   | cons y ys =>
    simp only [exactL] at h'
    split at h'
    ·rename_i v1 vs1 h3 h4
     cases h'
     rw [exact1_inj h1 h3, exactL_inj h2 h4]
    ·cases h'
  ·cases h
theorem exactV_inj {x y : LV} {u : Value} (h : exactV x = some u) (h' : exactV y = some u) : x = y := by
 have a1 : ∀ cs v, (exactL cs).map (fun vs : List Value => Value.agg vs.toArray) = some v → ∃ us, exactL cs = some us ∧ v = .agg us.toArray := fun cs v hv => by
  simp only [Option.map_eq_some_iff] at hv
  obtain ⟨us, h1, h2⟩ := hv; exact ⟨us, h1, h2.symm⟩
 cases x
 case agg cs =>
  obtain ⟨us, h1, rfl⟩ := a1 cs u h
  cases y
  case agg ds =>
   obtain ⟨us', h2, h3⟩ := a1 ds _ h'
   have : us = us' := by simpa using h3
   subst this
   rw [exactL_inj h1 h2]
  all_goals simp [exactV, exact1] at h'
 all_goals
  cases y
  case agg ds =>
   obtain ⟨us', h2, h3⟩ := a1 ds _ h'
   subst h3
   simp [exactV, exact1] at h
  all_goals (simp only [exactV] at h h'; exact exact1_inj h h')

structure KOk (P : Program) (k : TypeId) (S : Value → Prop) : Prop where
 check : ∀ (w : World) (em : Bool) (v : Value), S v → (Instr.checkKey em 10000 k v).run P w = .ok () w
 find : ∀ (w : World) (x : Value), S x → ∀ es : List MapEntry, (∀ e ∈ es, S e.key) → ((Instr.findKey k x es).run P w = .ok .none w ∧ ∀ e ∈ es, e.key ≠ x) ∨ ∃ j e, (Instr.findKey k x es).run P w = .ok (some (j, e.val)) w ∧ es[j]? = some e ∧ e.key = x
 stays : ∀ (w : World) (v : Value), S v → (Instr.keyThatStays v v).run P w = .ok v w
def tmap (P : Program) (t : TypeId) : Option (Nat × Nat) := match P.underlying t with | some (.map k v) => some (k, v) | _ => .none
theorem tmap_under {t k v : Nat} (h : tmap P t = some (k, v)) : P.underlying t = some (.map k v) := by
 unfold tmap at h; split at h <;> simp_all

def mget {α β : Type} [DecidableEq α] : List (α × β) → α → Option β
 | [], _ => .none
 | (a, b) :: r, k => if a = k then some b else mget r k
def mput {α β : Type} [DecidableEq α] : List (α × β) → α → β → List (α × β)
 | [], k, v => [(k, v)]
 | (a, b) :: r, k, v => if a = k then (k, v) :: r else (a, b) :: mput r k v
variable {α β : Type} [DecidableEq α] {f : α → LV} {g : β → LV}
abbrev mlv (f : α → LV) (g : β → LV) (xs : List (α × β)) : List (LV × LV) := xs.map fun p => (f p.1, g p.2)
def KeyF (f : α → LV) (S : Value → Prop) : Prop := (∀ x, ∃ v, exactV (f x) = some v ∧ S v ∧ (f x).pure = true) ∧ ∀ x y, f x = f y → x = y
theorem mget_none {xs : List (α × β)} {k : α} (h : ∀ p ∈ xs, p.1 ≠ k) : mget xs k = .none := by
 induction xs with
 | nil => rfl
 | cons p r ih =>
  obtain ⟨a, b⟩ := p
  simp only [mget]
  rw [if_neg (h (a, b) (by simp)), ih fun q hq => h q (by simp [hq])]
theorem mget_at {xs : List (α × β)} {k : α} {b : β} {j : Nat} (hn : (xs.map (·.1)).Nodup) (h : xs[j]? = some (k, b)) : mget xs k = some b := by
 induction xs generalizing j with
 | nil => simp at h
 | cons p r ih =>
  obtain ⟨a, b'⟩ := p
  simp only [List.map_cons, List.nodup_cons] at hn
  simp only [mget]
  cases j with
  | zero => simp at h; rw [if_pos h.1, h.2]
  | succ j =>
   simp at h
   have : a ≠ k := fun he => hn.1 (by subst he; exact List.mem_map.2 ⟨_, List.mem_of_getElem? h, rfl⟩)
   rw [if_neg this]; exact ih hn.2 h
theorem mput_none {xs : List (α × β)} {k : α} {v : β} (h : ∀ p ∈ xs, p.1 ≠ k) : mput xs k v = xs ++ [(k, v)] := by
 induction xs with
 | nil => rfl
 | cons p r ih =>
  obtain ⟨a, b⟩ := p
  simp only [mput]
  rw [if_neg (h (a, b) (by simp)), ih fun q hq => h q (by simp [hq])]; rfl
theorem mputK_at {xs : List (α × β)} {k : α} {b v : β} {j : Nat} (hn : (xs.map (·.1)).Nodup) (h : xs[j]? = some (k, b)) : mput xs k v = xs.set j (k, v) := by
 induction xs generalizing j with
 | nil => simp at h
 | cons p r ih =>
  obtain ⟨a, b'⟩ := p
  simp only [List.map_cons, List.nodup_cons] at hn
  simp only [mput]
  cases j with
  | zero => simp at h; rw [if_pos h.1]; rfl
  | succ j =>
   simp at h
   have : a ≠ k := fun he => hn.1 (by subst he; exact List.mem_map.2 ⟨_, List.mem_of_getElem? h, rfl⟩)
   rw [if_neg this, ih hn.2 h]; rfl
omit [DecidableEq α] in
theorem map_now {c : Cx} {id kt vt : Nat} {S : Value → Prop} {xs : List (α × β)} {v : Value} (hm : RepM c m) (hid : m id = some (.map kt vt (mlv f g xs))) (hv : RepV c (.mp id) v) (hf : KeyF f S) :
  ∃ b es' ck, c.B id = some (.mp b) ∧ v = .map (some b) ∧ c.w.heap[b]? = some (.map es' ck) ∧ es'.toList.length = xs.length ∧ (∀ (j : Nat) (x : α) (y : β), xs[j]? = some (x, y) → ∃ (en : MapEntry) (u : Value), es'.toList[j]? = some en ∧ exactV (f x) = some en.key ∧ S en.key ∧ u = en.val ∧ RepV c (g y) u) ∧ (xs.map (·.1)).Nodup ∧ LV.pureL (xs.map fun p => g p.2) = true := by
 have he := hm.ent id
 rw [hid] at he
 simp only [RepE] at he
 obtain ⟨b, es', ck, h1, h2, h3, h4, h5, h6, h7, _⟩ := he
 simp only [RepV] at hv
 obtain ⟨b', hb', rfl⟩ := hv
 rw [h1] at hb'; cases hb'
 have l3 := h3.length
 simp only [mlv, List.map_map, List.length_map] at l3
 refine ⟨b, es', ck, h1, rfl, h2, l3.symm, fun j x y hj => ?_, ?_, ?_⟩
 ·have hk : ((mlv f g xs).map (·.1))[j]? = some (f x) := by simp [mlv, hj]
  have hvv : ((mlv f g xs).map (·.2))[j]? = some (g y) := by simp [mlv, hj]
  obtain ⟨k1, hk1, hk2⟩ := h3.get hk
  obtain ⟨u, hu1, hu2⟩ := h4.get hvv
  simp only [List.getElem?_map, Option.map_eq_some_iff] at hk1 hu1
  obtain ⟨en, he1, rfl⟩ := hk1
  obtain ⟨en', he2, rfl⟩ := hu1
  rw [he1] at he2; cases he2
  obtain ⟨kv, e1, e2, _⟩ := hf.1 x
  have := exactV_rep e1 hk2
  exact ⟨en, en.val, he1, by rw [e1, this], by rw [this]; exact e2, rfl, hu2⟩
 ·simp only [mlv, List.map_map] at h7
  rw [List.nodup_iff_pairwise_ne] at h7 ⊢
  rw [List.pairwise_map] at h7 ⊢
  exact h7.imp fun {p q} h he => h (congrArg f he)
 ·simp only [mlv, List.map_map] at h6; exact h6
omit [DecidableEq α] in
theorem map_keys {c : Cx} {S : Value → Prop} {xs : List (α × β)} {es' : List MapEntry} (hl : es'.length = xs.length) (h : ∀ (j : Nat) (x : α) (y : β), xs[j]? = some (x, y) → ∃ (en : MapEntry) (u : Value), es'[j]? = some en ∧ exactV (f x) = some en.key ∧ S en.key ∧ u = en.val ∧ RepV c (g y) u) : (∀ en ∈ es', S en.key) ∧ ∀ (j : Nat) en, es'[j]? = some en → ∃ x y, xs[j]? = some (x, y) ∧ exactV (f x) = some en.key ∧ RepV c (g y) en.val := by
 have key : ∀ (j : Nat) en, es'[j]? = some en → ∃ x y, xs[j]? = some (x, y) ∧ exactV (f x) = some en.key ∧ S en.key ∧ RepV c (g y) en.val := fun j en hj => by
  have hlt : j < xs.length := by rw [← hl]; exact (List.getElem?_eq_some_iff.1 hj).1
  obtain ⟨en', u, h1, h2, h3, rfl, h5⟩ := h j xs[j].1 xs[j].2 (by simp [hlt])
  rw [hj] at h1; cases h1
  exact ⟨xs[j].1, xs[j].2, by simp [hlt], h2, h3, h5⟩
 refine ⟨fun en hen => ?_, fun j en hj => ?_⟩
 ·obtain ⟨j, hj⟩ := List.mem_iff_getElem?.1 hen
  obtain ⟨_, _, _, _, h3, _⟩ := key j en hj; exact h3
 ·obtain ⟨x, y, h1, h2, _, h4⟩ := key j en hj; exact ⟨x, y, h1, h2, h4⟩
theorem zero_run {vt : TypeId} {z : LV} (h : tzero P vt = some z) (w : World) : ∃ zv, (zeroValue vt).run P w = .ok zv w ∧ ∀ c, RepV c z zv := by
 unfold tzero at h
 split at h
 ·rename_i i hi
  split at h
  ·rename_i zv hz
   split at h
   ·cases h
    exact ⟨zv, by simp [zeroValue, typeInfo, Sem.run, hi, hz], fun c => repV_ofV c zv⟩
   ·cases h
  ·cases h
 ·cases h
theorem look {c : Cx} {id kt vt : Nat} {t : TypeId} {S : Value → Prop} {xs : List (α × β)} {key : α} {z : β} {v kv : Value} (ht : tmap P t = some (kt, vt)) (K : KOk P kt S) (hf : KeyF f S) (hm : RepM c m) (hid : m id = some (.map kt vt (mlv f g xs))) (hv : RepV c (.mp id) v) (hk : RepV c (f key) kv) (hz : tzero P vt = some (g z)) (ok : Bool) :
  ∃ u, (Instr.lookup t v kv ok).run P c.w = .ok (if ok then .tuple #[u, .bool (mget xs key).isSome] else u) c.w ∧ RepV c (g ((mget xs key).getD z)) u := by
 obtain ⟨b, es', ck, hB, rfl, hh, hlen, hel, hnd, _⟩ := map_now hm hid hv hf
 obtain ⟨hS, hback⟩ := map_keys hlen hel
 obtain ⟨k0, e1, e2, _⟩ := hf.1 key
 obtain rfl : k0 = kv := (exactV_rep e1 hk).symm
 rcases K.find c.w k0 e2 es'.toList hS with ⟨h1, h2⟩ | ⟨j, en, h1, h2, h3⟩
 ·have hno : mget xs key = .none := mget_none fun p hp he => by
   obtain ⟨j, hj⟩ := List.mem_iff_getElem?.1 hp
   obtain ⟨en, u, h4, h5, _⟩ := hel j p.1 p.2 hj
   rw [he, e1] at h5
   exact h2 en (List.mem_of_getElem? h4) (Option.some.inj h5).symm
  obtain ⟨zv, hz1, hz2⟩ := zero_run hz c.w
  refine ⟨zv, ?_, by rw [hno]; exact hz2 c⟩
  simp [Instr.lookup, run_underlying (tmap_under ht), MapKept.run_getObj_map hh, K.check c.w _ _ e2, h1, hz1, Result.andThen, hno]
 ·obtain ⟨x, y, h4, h5, h6⟩ := hback j en h2
  have hx : x = key := hf.2 x key (exactV_inj h5 (by rw [h3]; exact e1))
  subst hx
  have hsome : mget xs x = some y := mget_at hnd h4
  refine ⟨en.val, ?_, by rw [hsome]; exact h6⟩
  simp [Instr.lookup, run_underlying (tmap_under ht), MapKept.run_getObj_map hh, K.check c.w _ _ e2, h1, Result.andThen, hsome]
theorem ok_lookup {id kt vt : Nat} {t : TypeId} {d : Option Nat} {x k : Operand} {ty : TypeId} {pos : String} {af : Array Edge} {gd : Option (Nat × Bool)} {S : Value → Prop} {xs : List (α × β)} {key : α} {z : β} (ht : tmap P t = some (kt, vt)) (K : KOk P kt S) (hf : KeyF f S) (hx : ev x = .mp id) (hid : m id = some (.map kt vt (mlv f g xs))) (hk : ev k = f key) (hz : tzero P vt = some (g z)) :
  OpOkR P pr ⟨d, .lookup t x k false, ty, pos, af, gd⟩ ev m (g ((mget xs key).getD z)) m :=
 OpOkR.value fun c a hev hm => by
  have h1 := hev x (by simp [Op.operands])
  have h2 := hev k (by simp [Op.operands])
  rw [hx] at h1; rw [hk] at h2
  obtain ⟨u, hr, hu⟩ := look ht K hf hm hid h1 h2 hz false
  exact ⟨u, c, by simp [execOp, hr, Result.andThen], hu, hm, Step.refl pr c⟩
theorem ok_lookup2 {id kt vt : Nat} {t : TypeId} {d : Option Nat} {x k : Operand} {ty : TypeId} {pos : String} {af : Array Edge} {gd : Option (Nat × Bool)} {S : Value → Prop} {xs : List (α × β)} {key : α} {z : β} (ht : tmap P t = some (kt, vt)) (K : KOk P kt S) (hf : KeyF f S) (hx : ev x = .mp id) (hid : m id = some (.map kt vt (mlv f g xs))) (hk : ev k = f key) (hz : tzero P vt = some (g z)) :
  OpOkR P pr ⟨d, .lookup t x k true, ty, pos, af, gd⟩ ev m (.tup [g ((mget xs key).getD z), .bool (mget xs key).isSome]) m :=
 OpOkR.value fun c a hev hm => by
  have h1 := hev x (by simp [Op.operands])
  have h2 := hev k (by simp [Op.operands])
  rw [hx] at h1; rw [hk] at h2
  obtain ⟨u, hr, hu⟩ := look ht K hf hm hid h1 h2 hz true
  refine ⟨_, c, by simp [execOp, hr, Result.andThen]; rfl, ?_, hm, Step.refl pr c⟩
  simp only [RepV, RepL]
  exact ⟨[u, .bool (mget xs key).isSome], rfl, u, _, rfl, hu, _, _, rfl, rfl, rfl⟩
theorem mlv_put {xs : List (α × β)} {k : α} {v : β} : (mput xs k v).map (·.1) = if k ∈ xs.map (·.1) then xs.map (·.1) else xs.map (·.1) ++ [k] := by
 induction xs with
 | nil => simp [mput]
 | cons p r ih =>
  obtain ⟨a, b⟩ := p
  simp only [mput]
  by_cases h : a = k
  ·simp [h]
  ·simp only [h, if_false, List.map_cons, ih, List.mem_cons]
   have : ¬ k = a := fun h' => h h'.symm
   simp only [this, false_or]
   split <;> simp
theorem ok_update {id kt vt : Nat} {t : TypeId} {x k y : Operand} {ty : TypeId} {pos : String} {af : Array Edge} {gd : Option (Nat × Bool)} {S : Value → Prop} {xs : List (α × β)} {key : α} {val : β} {op : Op} (hop : op = .mapUpdate t x k y ∨ op = .insert t x k y) (ht : tmap P t = some (kt, vt)) (K : KOk P kt S) (hf : KeyF f S) (hg : ∀ y, (g y).pure = true) (hx : ev x = .mp id) (hid : m id = some (.map kt vt (mlv f g xs))) (hk : ev k = f key) (hy : ev y = g val) :
  OpOkR P pr ⟨.none, op, ty, pos, af, gd⟩ ev m .und (m.put id (.map kt vt (mlv f g (mput xs key val)))) :=
 OpOkR.skip rfl fun c a hev hm => by
  have hops : op.operands = #[x, k, y] := by rcases hop with rfl | rfl <;> rfl
  have h1 := hev x (by simp [hops])
  have h2 := hev k (by simp [hops])
  have h3 := hev y (by simp [hops])
  rw [hx] at h1; rw [hk] at h2; rw [hy] at h3
  obtain ⟨b, es', ck, hB, hvx, hh, hlen, hel, hnd, hpv⟩ := map_now hm hid h1 hf
  obtain ⟨hS, hback⟩ := map_keys hlen hel
  obtain ⟨k0, e1, e2, _⟩ := hf.1 key
  have hk0 := exactV_rep e1 h2
  have hb : b < c.w.heap.size := (Array.getElem?_eq_some_iff.1 hh).1
  -- a new table of entries
  have fin : ∀ es2 ck2, (∀ w' : World, w' = { c.w with heap := c.w.heap.setIfInBounds b (.map es2 ck2) } → (Instr.mapUpdate t (.map (some b)) k0 (a.eval y)).run P c.w = .ok () w') →
    (∀ c' : Cx, c.Le c' → (∀ i, BLe (c.B i) (c'.B i)) → RepL c' ((mlv f g (mput xs key val)).map (·.1)) (es2.toList.map (·.key)) ∧ RepL c' ((mlv f g (mput xs key val)).map (·.2)) (es2.toList.map (·.val))) → BornOk es2 ck2 →
    ∃ c', (execOp a.eval ⟨.none, op, ty, pos, af, gd⟩).run P c.w = .ok .skip c'.w ∧ RepM c' (m.put id (.map kt vt (mlv f g (mput xs key val)))) ∧ Step pr c c' := by
   intro es2 ck2 hrun hrep hbo
   obtain ⟨c', hw, hb', h4, h5⟩ := hm.upd (pr := pr) id (.map kt vt (mlv f g (mput xs key val))) (.mp b) { c.w with heap := c.w.heap.setIfInBounds b (.map es2 ck2) } rfl rfl rfl (Nat.le_refl _) (by simp)
    (fun q hq hne => by simp only; rw [Array.getElem?_setIfInBounds_ne]; intro he; subst he; exact hne _ hB rfl)
    (fun q hq => .inl ⟨_, hB, hq⟩) (by rw [hB]; exact BLe.refl _) (fun _ be0 h0 => by rw [hB] at h0; cases h0; exact .refl _)
    (fun c' hw hle hble => by
     simp only [RepE]
     obtain ⟨r1, r2⟩ := hrep c' hle hble
     refine ⟨b, es2, ck2, rfl, by rw [hw]; simp [hb], r1, r2, ?_, ?_, ?_, hbo⟩
     ·refine pureL_iff.2 fun q hq => ?_
      simp only [mlv, List.map_map, List.mem_map] at hq
      obtain ⟨p, _, rfl⟩ := hq
      obtain ⟨_, _, _, h⟩ := hf.1 p.1; exact h
     ·refine pureL_iff.2 fun q hq => ?_
      simp only [mlv, List.map_map, List.mem_map] at hq
      obtain ⟨p, _, rfl⟩ := hq
      exact hg p.2
     ·have : (mlv f g (mput xs key val)).map (·.1) = ((mput xs key val).map (·.1)).map f := by simp [mlv]
      rw [this, mlv_put]
      rw [List.nodup_iff_pairwise_ne, List.pairwise_map, ← List.nodup_iff_pairwise_ne.trans ⟨fun h => h.imp fun {p q} h' he => h' (hf.2 p q he), fun h => h.imp fun {p q} h' he => h' (congrArg f he)⟩]
      split
      ·exact hnd
      ·rename_i hni
       rw [List.nodup_append]
       refine ⟨hnd, by simp, fun p hp q hq => ?_⟩
       simp at hq; subst hq; exact fun he => hni (he ▸ hp))
   refine ⟨c', ?_, h4, h5⟩
   rw [hw]
   rcases hop with rfl | rfl <;> simp [execOp, hvx, hk0, hrun _ rfl, Result.andThen]
  have hbo : BornOk es' ck := by
   have he := hm.ent id
   rw [hid] at he
   simp only [RepE] at he
   obtain ⟨b2, es2, ck2, g1, g2, g3, g4, g5, g6, g7, g8⟩ := he
   rw [hB] at g1; cases g1
   rw [hh] at g2; cases g2
   exact g8
  have kmap : ∀ l : List (α × β), (mlv f g l).map (·.1) = l.map fun p => f p.1 := fun l => by simp [mlv]
  have vmap : ∀ l : List (α × β), (mlv f g l).map (·.2) = l.map fun p => g p.2 := fun l => by simp [mlv]
  rcases K.find c.w k0 e2 es'.toList hS with ⟨q1, q2⟩ | ⟨j, en, q1, q2, q3⟩
  ·have hput : mput xs key val = xs ++ [(key, val)] := mput_none fun p hp he => by
    obtain ⟨j, hj⟩ := List.mem_iff_getElem?.1 hp
    obtain ⟨en, u, h4, h5, _⟩ := hel j p.1 p.2 hj
    rw [he, e1] at h5
    exact q2 en (List.mem_of_getElem? h4) (Option.some.inj h5).symm
   refine fin (es'.push ⟨k0, a.eval y, ck⟩) (ck + 1) (fun w' hw' => ?_) (fun c' hle hble => ?_) ⟨?_, ?_⟩
   rotate_left 2
   ·rw [Array.toList_push, List.map_append, List.nodup_append]
    refine ⟨hbo.1, by simp, fun p hp q hq => ?_⟩
    simp only [List.map_cons, List.map_nil, List.mem_singleton] at hq
    subst hq
    obtain ⟨x, hx, rfl⟩ := List.mem_map.1 hp
    exact Nat.ne_of_lt (hbo.2 x hx)
   ·intro x hx
    rw [Array.toList_push, List.mem_append] at hx
    rcases hx with hx | hx
    ·exact Nat.lt_succ_of_lt (hbo.2 x hx)
    ·simp only [List.mem_singleton] at hx; subst hx; exact Nat.lt_succ_self _
   ·subst hw'
    simp [Instr.mapUpdate, run_underlying (tmap_under ht), MapKept.run_getObj_map hh, K.check c.w _ _ e2, q1, MapKept.run_setObj_map _ hh, Result.andThen]
   ·rw [hput, kmap, vmap]
    simp only [List.map_append, List.map_cons, List.map_nil, Array.toList_push]
    have he := hm.ent id
    rw [hid] at he
    simp only [RepE] at he
    obtain ⟨b2, es2, ck2, g1, g2, g3, g4, g5, g6, g7⟩ := he
    rw [hB] at g1; cases g1
    rw [hh] at g2; cases g2
    rw [kmap] at g3 g5; rw [vmap] at g4 g6
    refine ⟨RepL.append (RepL.mono hle _ _ (fun q hq => by rw [norefL_of_pureL _ g5] at hq; cases hq) g3) ?_, RepL.append (RepL.mono hle _ _ (fun q hq => by rw [norefL_of_pureL _ g6] at hq; cases hq) g4) ?_⟩
    ·simp only [RepL]
     refine ⟨_, _, rfl, RepV.mono hle _ _ (fun q _ => hble q) (by rw [← hk0]; exact h2), rfl⟩
    ·simp only [RepL]
     exact ⟨_, _, rfl, RepV.mono hle _ _ (fun q _ => hble q) h3, rfl⟩
  ·obtain ⟨x0, y0, h4, h5, h6⟩ := hback j en q2
   have hx0 : x0 = key := hf.2 x0 key (exactV_inj h5 (by rw [q3]; exact e1))
   subst hx0
   have hput : mput xs x0 val = xs.set j (x0, val) := mputK_at hnd h4
   have hjl : j < xs.length := (List.getElem?_eq_some_iff.1 h4).1
   have hj2 : es'[j]? = some en := by simpa using q2
   have hbm : ∀ (l : List MapEntry), (l.modify j fun e' => { e' with key := k0, val := a.eval y }).map (·.born) = l.map (·.born) := fun l => by
    apply List.ext_getElem?
    intro i
    simp only [List.getElem?_map, List.getElem?_modify]
    cases l[i]? with
    | none => simp
    | some z => by_cases hij : j = i <;> simp [hij]
   refine fin (es'.modify j fun e' => { e' with key := k0, val := a.eval y }) ck (fun w' hw' => ?_) (fun c' hle hble => ?_) ⟨by rw [Array.toList_modify, hbm]; exact hbo.1, fun x hx => ?_⟩
   rotate_left 2
   ·rw [Array.toList_modify] at hx
    have : x.born ∈ es'.toList.map (·.born) := by rw [← hbm]; exact List.mem_map.2 ⟨x, hx, rfl⟩
    obtain ⟨z, hz, he⟩ := List.mem_map.1 this
    rw [← he]; exact hbo.2 z hz
   ·subst hw'
    simp [Instr.mapUpdate, run_underlying (tmap_under ht), MapKept.run_getObj_map hh, K.check c.w _ _ e2, q1, hj2, q3, K.stays c.w _ e2, MapKept.run_setObj_map _ hh, Result.andThen]
   ·rw [hput, kmap, vmap]
    have hlen2 : (es'.modify j fun e' => { e' with key := k0, val := a.eval y }).toList.length = es'.toList.length := by simp
    constructor
    ·refine RepL.of (by simp; simpa using hlen.symm) fun i lx v hlx hv => ?_
     simp only [List.getElem?_map, List.getElem?_set, Array.toList_modify, List.getElem?_modify, Option.map_eq_some_iff] at hlx
     obtain ⟨p, hp, rfl⟩ := hlx
     obtain ⟨en3, he3, rfl⟩ : ∃ en3, es'.toList[i]? = some en3 ∧ (if j = i then { en3 with key := k0, val := a.eval y } else en3 : MapEntry).key = v := by
      simp only [List.getElem?_map, Array.toList_modify, List.getElem?_modify] at hv
      cases hq : es'.toList[i]? with
      | none => rw [hq] at hv; simp at hv
      | some en3 => rw [hq] at hv; simp at hv; exact ⟨en3, rfl, hv⟩
     by_cases hij : j = i
     ·subst hij
      rw [if_pos rfl, if_pos hjl] at hp; cases hp
      simp only [if_true]
      exact RepV.mono hle _ _ (fun q _ => hble q) (by rw [← hk0]; exact h2)
     ·rw [if_neg hij] at hp
      simp only [hij, if_false]
      obtain ⟨en4, u, r1, r2, r3, r4, r5⟩ := hel i p.1 p.2 hp
      rw [he3] at r1; cases r1
      have he := hm.ent id
      rw [hid] at he
      simp only [RepE] at he
      obtain ⟨b2, es2, ck2, g1, g2, g3, g4, g5, g6, g7⟩ := he
      rw [hB] at g1; cases g1
      rw [hh] at g2; cases g2
      rw [kmap] at g3
      obtain ⟨v2, s1, s2⟩ := g3.get (i := i) (x := f p.1) (by simp [hp])
      simp only [List.getElem?_map, he3, Option.map_some, Option.some.injEq] at s1
      subst s1
      exact RepV.mono hle _ _ (fun q _ => hble q) s2
    ·refine RepL.of (by simp; simpa using hlen.symm) fun i lx v hlx hv => ?_
     simp only [List.getElem?_map, List.getElem?_set, Array.toList_modify, List.getElem?_modify, Option.map_eq_some_iff] at hlx
     obtain ⟨p, hp, rfl⟩ := hlx
     obtain ⟨en3, he3, rfl⟩ : ∃ en3, es'.toList[i]? = some en3 ∧ (if j = i then { en3 with key := k0, val := a.eval y } else en3 : MapEntry).val = v := by
      simp only [List.getElem?_map, Array.toList_modify, List.getElem?_modify] at hv
      cases hq : es'.toList[i]? with
      | none => rw [hq] at hv; simp at hv
      | some en3 => rw [hq] at hv; simp at hv; exact ⟨en3, rfl, hv⟩
     by_cases hij : j = i
     ·subst hij
      rw [if_pos rfl, if_pos hjl] at hp; cases hp
      simp only [if_true]
      exact RepV.mono hle _ _ (fun q _ => hble q) h3
     ·rw [if_neg hij] at hp
      simp only [hij, if_false]
      obtain ⟨en4, u, r1, r2, r3, rfl, r5⟩ := hel i p.1 p.2 hp
      rw [he3] at r1; cases r1
      exact RepV.mono hle _ _ (fun q _ => hble q) r5
theorem ok_makeMap {i id kt vt : Nat} {t : TypeId} {ty : TypeId} {pos : String} {af : Array Edge} {gd : Option (Nat × Bool)} (hid : m id = .none) : OpOkR P pr ⟨some i, .makeMap t .none, ty, pos, af, gd⟩ ev m (.mp id) (m.put id (.map kt vt [])) :=
 OpOkR.value fun c a hev hm => by
  have hB := hm.fresh hid
  obtain ⟨c', hw, hb, h2, h3⟩ := hm.upd (pr := pr) id (.map kt vt []) (.mp c.w.heap.size) (c.w.alloc (.map #[] 0)) rfl rfl rfl (Nat.le_refl _) (by simp)
   (fun b hb _ => hpOld c.w _ b hb) (fun b hb => by simp [BE.has] at hb; subst hb; exact .inr (Nat.le_refl _)) (by rw [hB]; trivial) (fun _ be0 h0 => by rw [hB] at h0; cases h0)
   (fun c' hw hle hble => by
    simp only [RepE]
    exact ⟨c.w.heap.size, #[], 0, rfl, by rw [hw]; show (c.w.heap.push _)[c.w.heap.size]? = _; simp, by simp [RepL], by simp [RepL], rfl, rfl, by simp, ⟨by simp, by simp⟩⟩)
  refine ⟨.map (some c.w.heap.size), c', ?_, ?_, h2, h3⟩
  ·rw [hw]; rfl
  ·simp only [RepV]; exact ⟨_, hb, rfl⟩
end

theorem findAsk {P : Program} {k : TypeId} {α : Type} [DecidableEq α] {enc : α → Value} (heq : ∀ x y w, (Op.equal k (enc x) (enc y)).run P w = .ok (decide (x = y)) w) (w : World) (x : α) : ∀ (es : List MapEntry) (i : Nat), (∀ e ∈ es, ∃ y, e.key = enc y) → ((Instr.findAsking k (enc x) es i).run P w = .ok .none w ∧ ∀ e ∈ es, e.key ≠ enc x) ∨ ∃ j e, (Instr.findAsking k (enc x) es i).run P w = .ok (some (i + j, e.val)) w ∧ es[j]? = some e ∧ e.key = enc x
 | [], i, _ => .inl ⟨by simp [Instr.findAsking], by simp⟩
 | e :: es, i, h => by
  obtain ⟨y, hy⟩ := h e (by simp)
  by_cases he : x = y
  ·subst he
   exact .inr ⟨0, e, by simp [Instr.findAsking, hy, heq], rfl, hy⟩
  ·have hne : ¬ e.key = enc x := fun h' => by
    have h1 := heq x y w
    rw [← hy, h', heq x x w] at h1
    simp [he] at h1
   rcases findAsk heq w x es (i + 1) (fun e' he' => h e' (by simp [he'])) with ⟨h1, h2⟩ | ⟨j, e', h1, h2, h3⟩
   ·refine .inl ⟨by simp [Instr.findAsking, hy, heq, he, h1], fun e' he' => ?_⟩
    rcases List.mem_cons.1 he' with rfl | he'
    ·exact hne
    ·exact h2 e' he'
   ·exact .inr ⟨j + 1, e', by simp [Instr.findAsking, hy, heq, he, h1]; omega, by simpa using h2, h3⟩
theorem kokS {P : Program} {k : TypeId} {ds : TypeDesc} {α : Type} [DecidableEq α] {enc : α → Value} (hk : P.underlying k = some ds) (hno : ∀ x y, Instr.sameNow ds (enc x) (enc y) = .none) (hch : ∀ w em x, (Instr.checkKey em 10000 k (enc x)).run P w = .ok () w) (heq : ∀ x y w, (Op.equal k (enc x) (enc y)).run P w = .ok (decide (x = y)) w) (hst : ∀ x, Instr.sameBits 10000 (enc x) (enc x) = true) : KOk P k (fun v => ∃ x, v = enc x) where
 check := fun w em v ⟨x, hx⟩ => by subst hx; exact hch w em x
 find := fun w v ⟨x, hx⟩ es hes => by
  subst hx
  cases es with
  | nil => exact .inl ⟨by simp [Instr.findKey, run_underlying hk, Instr.findNow], by simp⟩
  | cons e es =>
   obtain ⟨y, hy⟩ := hes e (by simp)
   have hn : Instr.findNow ds (enc x) (e :: es) 0 = .none := by simp [Instr.findNow, hy, hno]
   have hrun : (Instr.findKey k (enc x) (e :: es)).run P w = (Instr.findAsking k (enc x) (e :: es) 0).run P w := by simp [Instr.findKey, run_underlying hk, hn]
   rcases findAsk heq w x (e :: es) 0 hes with ⟨h1, h2⟩ | ⟨j, e', h1, h2, h3⟩
   ·exact .inl ⟨by rw [hrun, h1], h2⟩
   ·exact .inr ⟨j, e', by rw [hrun, h1]; simp, h2, h3⟩
 stays := fun w v ⟨x, hx⟩ => by subst hx; simp [Instr.keyThatStays, hst]
theorem eqOf {P : Program} {t : TypeId} {xs ys : List LV} {us vs : List Value} {b : Bool} (h : AggEq P t xs ys b) (hx : exactL xs = some us) (hy : exactL ys = some vs) (w : World) : (Op.equal t (.agg us.toArray) (.agg vs.toArray)).run P w = .ok b w := by
 obtain ⟨_, us', vs', h1, h2, h3⟩ := h
 rw [hx] at h1; rw [hy] at h2; cases h1; cases h2
 exact h3 w
end Go.L
set_option linter.unusedVariables false
set_option linter.unusedSimpArgs false
namespace Go.L
section
variable {P : Program}
structure RowTo (w w' : World) (e k : Nat) (u u' : Value) (n' : Nat) (xs' : List Value) : Prop where
 own : w'.ownsRow 0 e k u' n' xs'
 grown : w.grownBy w' u.ownBlock
 blk : ∀ b, u'.ownBlock = some b → u.ownBlock = some b ∨ w.heap.size ≤ b
 drawn : w.drawn ≤ w'.drawn
theorem append_ty {t t' ty ty' : TypeId} {vs : Array Value} : Builtin.append_ #[t, t'] ty vs = Builtin.append_ #[t, t'] ty' vs := rfl
end
end Go.L
set_option linter.unusedVariables false
set_option linter.unusedSimpArgs false
namespace Go.L
section
variable {P : Program} {N : Nat} {pr : Nat → Prop} {ops : Array Oper} {e : Env} {m m' : Mem} {ev : Operand → LV} {o : Oper} {lv : LV} {l : List Oper} {KE : Env → Mem → Prop}
def HB (id : Nat) (m : Mem) : Prop := ∀ j cs, j ≠ id → m j = some (.box cs) → LV.norefL id cs = true
theorem HB.of {id : Nat} {ml : List (Nat × LE)} (h : freeB id ml = true) : HB id (Mem.of ml) := freeB_of h
theorem HB.arr {id j e k : Nat} {xs : List LV} (h : HB id m) : HB id (m.put j (.arr e k xs)) := fun i cs hi hm => by
 simp only [Mem.put] at hm
 split at hm
 ·cases hm
 ·exact h i cs hi hm
theorem RepM.updT {c : Cx} (h : RepM c m) (id : Nat) (le : LE) (be : BE) (w' : World)
  (hos : w'.os = c.w.os) (htape : w'.tape = c.w.tape) (hout : w'.output = c.w.output) (hdr : c.w.drawn ≤ w'.drawn) (hsize : c.w.heap.size ≤ w'.heap.size)
  (hkeep : ∀ b, b < c.w.heap.size → (∀ be0, c.B id = some be0 → ¬ be0.has b) → w'.heap[b]? = c.w.heap[b]?)
  (hblk : ∀ b, be.has b → (∃ be0, c.B id = some be0 ∧ be0.has b) ∨ c.w.heap.size ≤ b)
  (hpr : ¬ pr id) (hbox : HB id m) (hent : ∀ c' : Cx, c'.w = w' → c.Le c' → RepE c' (some le) (some be)) :
  ∃ c' : Cx, c'.w = w' ∧ c'.B id = some be ∧ RepM c' (m.put id le) ∧ Grow pr c c' ∧ ∀ i, i ≠ id → BLe (c.B i) (c'.B i) := by
 let c' : Cx := ⟨w', fun i => if i = id then some be else c.B i, c.O⟩
 have hown : ∀ b, c'.own b → c.own b ∨ c.w.heap.size ≤ b := by
  rintro b ⟨i, be', h1, h2⟩
  by_cases hi : i = id
  ·simp only [c', hi, if_true] at h1
   cases h1
   rcases hblk b h2 with ⟨be0, h3, h4⟩ | hs
   ·exact .inl ⟨id, be0, h3, h4⟩
   ·exact .inr hs
  ·simp only [c', hi, if_false] at h1
   exact .inl ⟨i, be', h1, h2⟩
 have hgrow : Grow pr c c' := by
  refine ⟨rfl, hos, htape, hout, hdr, hsize, fun b hb ho => hkeep b hb (fun be0 h0 h1 => ho ⟨id, be0, h0, h1⟩), hown, fun i be' hp hb => ?_⟩
  by_cases hi : i = id
  ·subst hi; exact absurd hp hpr
  ·exact ⟨be', by simp only [c', hi, if_false]; exact hb, .refl be'⟩
 have hble : ∀ i, i ≠ id → BLe (c.B i) (c'.B i) := by
  intro i hi
  simp only [c', hi, if_false]; exact BLe.refl _
 refine ⟨c', rfl, by simp [c'], ⟨fun i => ?_, ?_, ?_, ?_⟩, hgrow, hble⟩
 ·by_cases hi : i = id
  ·subst hi; simp only [c', Mem.put, if_true]; exact hent c' rfl hgrow.le
  ·simp only [Mem.put, hi, if_false]
   have hBi : c'.B i = c.B i := by simp [c', hi]
   rw [hBi]
   have hh : ∀ be' b, c.B i = some be' → be'.has b → c'.w.heap[b]? = c.w.heap[b]? := fun be' b hb hbb =>
    hkeep b ((h.ent i).lt hb hbb) fun be0 h0 h1 => hi (h.inj i id be' be0 b hb h0 hbb h1)
   have he := h.ent i
   cases hmi : m i with
   | none => rw [hmi] at he; simpa only [RepE] using he
   | some le' =>
    rw [hmi] at he
    cases le' with
    | box cs =>
     simp only [RepE] at he ⊢
     obtain ⟨b, vs, ee, h1, h2, h3, h4⟩ := he
     exact ⟨b, vs, ee, h1, (hh _ b h1 rfl).trans h2, RepL.mono hgrow.le cs vs (fun j hj => by
      by_cases hji : j = id
      ·subst hji; rw [hbox i cs hi hmi] at hj; cases hj
      ·exact hble j hji) h3, h4⟩
    | arr ee k xs =>
     simp only [RepE] at he ⊢
     obtain ⟨u, vs, h1, h0, h2, h3, h4, h5⟩ := he
     exact ⟨u, vs, h1, h0, ownsRow_same h2 (fun b hb => hh _ b h1 (.inl hb)), RepL.mono hgrow.le xs vs (fun j hj => by rw [norefL_of_pureL xs h5] at hj; cases hj) h3, h4, h5⟩
    | nest ee k os xs =>
     simp only [RepE] at he ⊢
     obtain ⟨u, vs, bs, h1, h0, h2, h3, h4⟩ := he
     exact ⟨u, vs, bs, h1, h0, ownsRow_same h2 (fun b hb => hh _ b h1 (.inl hb)), h3.mono hgrow.le (fun b hb => hh _ b h1 (.inr hb)), h4⟩
    | dead => simpa only [RepE] using he
    | map kt vt es =>
     simp only [RepE] at he ⊢
     obtain ⟨b, es', ck, h1, h2, h3, h4, h5, h6, h7⟩ := he
     exact ⟨b, es', ck, h1, (hh _ b h1 rfl).trans h2, RepL.mono hgrow.le _ _ (fun j hj => by rw [norefL_of_pureL _ h5] at hj; cases hj) h3, RepL.mono hgrow.le _ _ (fun j hj => by rw [norefL_of_pureL _ h6] at hj; cases hj) h4, h5, h6, h7⟩
 ·intro i i' b1 b2 b h1 h2 h3 h4
  by_cases hi : i = id <;> by_cases hi' : i' = id
  ·rw [hi, hi']
  ·simp only [c', hi, if_true] at h1
   simp only [c', hi', if_false] at h2
   cases h1
   rcases hblk b h3 with ⟨be0, h5, h6⟩ | hs
   ·rw [hi]; exact h.inj id i' be0 b2 b h5 h2 h6 h4
   ·have := (h.ent i').lt h2 h4; omega
  ·simp only [c', hi, if_false] at h1
   simp only [c', hi', if_true] at h2
   cases h2
   rcases hblk b h4 with ⟨be0, h5, h6⟩ | hs
   ·rw [hi']; exact h.inj i id b1 be0 b h1 h5 h3 h6
   ·have := (h.ent i).lt h1 h3; omega
  ·simp only [c', hi, if_false] at h1
   simp only [c', hi', if_false] at h2
   exact h.inj i i' b1 b2 b h1 h2 h3 h4
 ·intro b ho hO
  rcases hown b ho with ho | hs
  ·exact h.notO b ho hO
  ·have := h.Olt b hO; omega
 ·intro b hO; exact Nat.lt_of_lt_of_le (h.Olt b hO) hsize

def Env.drop (e : Env) (id : Nat) : Env := fun i => if (e i).noref id = true then e i else .und
def OpOkT (P : Program) (pr : Nat → Prop) (id : Nat) (o : Oper) (ev : Operand → LV) (m : Mem) (lv : LV) (m' : Mem) : Prop :=
 ∀ (c : Cx) (a : Act) (Q : Exit → Act → World → Prop), (∀ x, RepV c (ev x) (a.eval x)) → RepM c m →
  o.wp P a c.w (fun a' w' => ∃ v c', a' = a.put o.dst v ∧ c'.w = w' ∧ RepV c' lv v ∧ RepM c' m' ∧ Grow pr c c' ∧ ∀ i, i ≠ id → BLe (c.B i) (c'.B i)) Q
theorem OpOkT.of {id k n n' e0 : Nat} {ys : List LV} (hpr : ¬ pr id) (hbox : HB id m)
  (W : ∀ (c : Cx) (a : Act), (∀ x, RepV c (ev x) (a.eval x)) → RepM c m → ∃ u f args vs', c.B id = some (.arr u k n []) ∧ (execOp a.eval o).run P c.w = .ok (.enter f args) c.w ∧ (Calls P f args c.w fun en w' => ∃ u', en = .returned u' ∧ RowTo c.w w' e0 k u u' ys.length (flat vs')) ∧ RepL c ys vs' ∧ (∀ v ∈ vs', v.cells.size = k ∧ ∀ y ∈ v.cells, y.oneCell' = true) ∧ LV.pureL ys = true ∧ 0 < k) :
  OpOkT P pr id o ev m (.arr id ys.length) (m.put id (.arr e0 k ys)) := by
 intro c a Q hev hm
 obtain ⟨u, f, args, vs', hB, hrun, hcall, hl, hc, hp, hk⟩ := W c a hev hm
 unfold Oper.wp
 rw [hrun]
 simp only [Oper.upon]
 refine hcall.mono ?_
 rintro en w' ⟨u', rfl, h⟩
 obtain ⟨c', hw, hb, h2, h3, h4⟩ := hm.updT (pr := pr) id (.arr e0 k ys) (.arr u' k ys.length []) w' h.grown.os h.grown.tape h.grown.output h.drawn h.grown.size
  (fun b hb hne => h.grown.block b hb (fun hh => hne _ hB (.inl hh.symm)))
  (fun b hb => hb.elim (fun hb => (h.blk b hb).imp (fun hh => ⟨_, hB, .inl hh⟩) (fun hh => hh)) (fun hh => by cases hh)) hpr hbox
  (fun c' hw hle => by
   simp only [RepE]
   exact ⟨u', vs', rfl, hk, by rw [hw]; exact h.own, RepL.mono hle _ _ (fun j hj => by rw [norefL_of_pureL _ hp] at hj; cases hj) hl, hc, hp⟩)
 refine ⟨u', c', rfl, hw, ?_, h2, h3, h4⟩
 simp only [RepV]
 refine ⟨?_, _, _, _, _, hb, Nat.le_refl _, fun _ => rfl⟩
 rcases h.own.2 with ⟨rfl, _⟩ | ⟨g, cap, cur, rfl, _⟩ <;> rfl

theorem flat_one {vs : List Value} (h : ∀ v ∈ vs, ∀ y ∈ v.cells, y.oneCell' = true) : ∀ y ∈ flat vs, y.oneCell' = true := by
 intro y hy
 simp only [flat, List.mem_flatMap] at hy
 obtain ⟨v, hv, hy⟩ := hy
 exact h v hv y (by simpa using hy)

def CloneW (P : Program) (f e k : Nat) : Prop := ∀ (a : Option Addr) (n cap : Nat) (news : List Value) (w : World), news.length = n * k → (a = none → n = 0) → (∀ ad, a = some ad → ∀ j u, news[j]? = some u → w.cell? (ad.add j) = some u) → (∀ u ∈ news, u.oneCell' = true) → n ≤ 1099511627776 →
 Calls P f #[.slice a n cap] w fun en w' => ∃ u', en = .returned u' ∧ RowTo w w' e k (.slice none 0 0) u' n news
theorem ok_bsA {d id kk len : Nat} {t el : TypeId} {ty : TypeId} {pos : String} {af : Array Edge} {gd : Option (Nat × Bool)} {α : Type} {g : α → LV} {ys : List α} {ps : List (Nat × Operand)} (he : telem P t = some el) (hrow : trow P el = true) (hk : tsize P el = kk) (hsm0 : Nat.ble (len * kk) 16777216 = true) (hidx0 : ps.map (·.1) = List.range len) (hv0 : (ps.map fun p => ev p.2) = ys.map g) (hok : OkF kk g) (hid : m id = .none) :
  OpOk P pr ⟨some d, .buildSlice t len ps.toArray, ty, pos, af, gd⟩ ev m (.arr id ys.length) (m.put id (.arr el kk (ys.map g))) := by
 subst hk
 have hsm := Nat.le_of_ble_eq_true hsm0
 have hu := elem_of he
 obtain ⟨i, zv, hi, hzv, hzs, hz1, hsz, hby, hts⟩ := row_of hrow
 obtain ⟨parts, hparts0⟩ : ∃ parts : Array (Nat × Operand), parts = ps.toArray := ⟨_, rfl⟩
 have hpt : parts.toList = ps := by rw [hparts0]
 have hidx : parts.toList.map (·.1) = List.range len := by rw [hpt]; exact hidx0
 have hels : okEls (tsize P el) (parts.toList.map fun p => ev p.2) := by rw [hpt, hv0]; exact hok.els ys
 obtain ⟨o, ho0⟩ : ∃ o : Oper, o = ⟨some d, .buildSlice t len ps.toArray, ty, pos, af, gd⟩ := ⟨_, rfl⟩
 have ho : o.op = .buildSlice t len parts := by rw [ho0, hparts0]
 rw [← ho0]
 refine OpOk.value fun c a hev hm => ?_
 have hplen : parts.toList.length = len := by have := congrArg List.length hidx; simpa using this
 let vs := parts.toList.map fun p => a.eval p.2
 have hl : RepL c (parts.toList.map fun p => ev p.2) vs := RepL.of (by simp [vs]) fun j x v hx hv => by
  simp only [vs, List.getElem?_map, Option.map_eq_some_iff] at hx hv
  obtain ⟨p, hp, rfl⟩ := hx
  obtain ⟨p', hp', rfl⟩ := hv
  rw [hp] at hp'; cases hp'; exact hev _
 have hcell : ∀ v ∈ vs, v.cells.size = i.size ∧ ∀ y ∈ v.cells, y.oneCell' = true := by
  intro v hv
  simp only [vs, List.mem_map] at hv
  obtain ⟨p, hp, rfl⟩ := hv
  obtain ⟨_, e1, e2⟩ := hels (ev p.2) (List.mem_map.2 ⟨p, hp, rfl⟩)
  obtain ⟨e3, e4⟩ := (hev p.2).cellsOf e2
  refine ⟨?_, e4⟩
  have := e3.length
  rw [e1, hts] at this
  simpa using this.symm
 have hpure : LV.pureL (parts.toList.map fun p => ev p.2) = true := pureL_iff.2 fun x hx => (hels x hx).1
 have hparts : (parts.map fun (p : Nat × Operand) => (p.1, a.eval p.2)).toList = (vs.zipIdx 0).map fun x => (x.2, x.1) := by
  apply List.ext_getElem?
  intro j
  have hj := congrArg (fun l => l[j]?) hidx
  simp only [List.getElem?_map, List.getElem?_range] at hj
  simp only [Array.toList_map, List.getElem?_map, List.getElem?_zipIdx, vs, Nat.zero_add]
  cases hp : parts.toList[j]? with
  | none => simp
  | some p =>
   rw [hp] at hj
   have hjl : j < len := by
    rw [← hplen]; exact (List.getElem?_eq_some_iff.1 hp).1
   rw [List.getElem?_range hjl] at hj
   simp at hj
   simp [hj]
 obtain ⟨cells, hfill, hflat⟩ : ∃ cells, Instr.fill (fun i' => some (i' * i.size, i.size)) ((Array.range (len * i.size)).map (zv.cells[· % zv.cells.size]!)) (parts.map fun (p : Nat × Operand) => (p.1, a.eval p.2)).toList = some cells ∧ cells.toList = flat vs := by
  have hvl : vs.length = len := by simp [vs, hplen]
  obtain ⟨r, hr, hrs, hrk⟩ := Great.fill_dense hsz vs 0 ((Array.range (len * i.size)).map (zv.cells[· % zv.cells.size]!)) (fun v hv => (hcell v hv).1) (by simp [hvl])
  refine ⟨r, by rw [hparts]; exact hr, ?_⟩
  apply List.ext_getElem?
  intro j
  rw [flat_get hsz (fun v hv => (hcell v hv).1), Array.getElem?_toList, hrk j]
  simp only [Nat.zero_mul, Nat.zero_le, true_and, Nat.zero_add, Nat.sub_zero, hvl]
  by_cases hj : j < len * i.size
  ·rw [if_pos hj]
  ·rw [if_neg hj]
   have h1 : ¬ j / i.size < len := fun hh => hj ((Nat.div_lt_iff_lt_mul hsz).1 hh)
   rw [List.getElem?_eq_none (by omega : vs.length ≤ j / i.size)]
   simp; omega
 have hcells : cells = (flat vs).toArray := by rw [← hflat]
 subst hcells
 have hrun : (execOp a.eval o).run P c.w = .ok (.value (.slice (some ⟨c.w.heap.size, 0, .none⟩) len len)) (c.w.alloc (.cells (flat vs).toArray el)) := by
  by_cases hl0 : len = 0
  ·subst hl0
   have hp0 : parts = #[] := by apply Array.ext'; simpa using hplen
   subst hp0
   simp [execOp, ho, Instr.buildSlice, run_underlying hu, sizeOf, typeInfo, hi, Instr.fill, newRow, vs, flat, Array.range_zero']
  ·have hpos : ¬ len * i.size = 0 := by
    intro h0
    rcases Nat.mul_eq_zero.1 h0 with h0 | h0 <;> omega
   have hb := run_buildSlice (P := P) c.w t el len (parts.map fun (p : Nat × Operand) => (p.1, a.eval p.2)) (flat vs).toArray i zv hu hi hzv (by rw [hts] at hsm; omega) hpos hfill
   simp [execOp, ho, hb]
 have hlen : ys.length = len := by rw [← hplen, hpt]; have := congrArg List.length hv0; simpa using this.symm
 have hB := hm.fresh hid
 have hl' : RepL c (ys.map g) vs := by rw [← hv0, ← hpt]; exact hl
 have hflen : (flat vs).length = len * i.size := by
  rw [flat_length (fun v hv => (hcell v hv).1)]; congr 1; rw [← hplen]; simp [vs]
 have hown : (c.w.alloc (.cells (flat vs).toArray el)).ownsRow 0 el i.size (.slice (some ⟨c.w.heap.size, 0, .none⟩) len len) len (flat vs) :=
  ⟨hflen, .inr ⟨c.w.heap.size, len, (flat vs).toArray, rfl, Nat.zero_le _, heap_alloc_new c.w _, Nat.le_refl _, by
   have : len ≤ len * tsize P el := Nat.le_mul_of_pos_right _ (by rw [hts]; exact hsz)
   simp only [maxLen]; omega, by simp [hflen], by rw [← hflen]; simp⟩⟩
 obtain ⟨c', hw, hb, h2, h3⟩ := hm.upd (pr := pr) id (.arr el (tsize P el) (ys.map g)) (.arr (.slice (some ⟨c.w.heap.size, 0, .none⟩) len len) (tsize P el) len []) (c.w.alloc (.cells (flat vs).toArray el)) rfl rfl rfl (Nat.le_refl _) (by simp)
  (fun b hb _ => hpOld c.w _ b hb) (fun b hb => by simp [BE.has, Value.ownBlock] at hb; exact .inr (by omega)) (by rw [hB]; trivial) (fun _ be0 h0 => by rw [hB] at h0; cases h0)
  (fun c' hw hle hble => by
   simp only [RepE]
   refine ⟨.slice (some ⟨c.w.heap.size, 0, .none⟩) len len, vs, by simp [hlen], by rw [hts]; exact hsz, ?_, RepL.mono hle _ _ (fun j _ => hble j) hl', fun u hu => by rw [hts]; exact hcell u hu, by rw [← hv0, ← hpt]; exact hpure⟩
   rw [hw, hts]; simpa [hlen] using hown)
 refine ⟨_, c', by rw [hw]; exact hrun, ?_, h2, h3⟩
 simp only [RepV]
 exact ⟨rfl, _, _, _, _, hb, by omega, fun _ => rfl⟩
theorem clone_ok {f e0 k : Nat} (W : CloneW P f e0 k) (hk : Nat.ble 1 k = true) {α : Type} {g : α → LV} {xs r : List α} (id : Nat) (h : app [] xs = some r) : LCall P f [.lst k (xs.map g)] (Mem.of []) (.arr id r.length) (Mem.of [(id, .arr e0 k (r.map g))]) := by
 unfold app at h
 split at h
 ·rename_i hb
  obtain rfl : xs = r := by simpa using h
  intro c vs hm ha
  simp only [RepL] at ha
  obtain ⟨v, vs', rfl, hv, rfl⟩ := ha
  simp only [RepV] at hv
  obtain ⟨a, cap, rfl, hcap, hnil, hp, hx⟩ := hv
  have hx' : ∃ us, (flat us).length = xs.length * k ∧ (a = none → xs.length = 0) ∧ (∀ ad, a = some ad → ∀ j u, (flat us)[j]? = some u → c.w.cell? (ad.add j) = some u) ∧ RepL c (xs.map g) us ∧ ∀ u ∈ us, u.cells.size = k ∧ ∀ y ∈ u.cells, y.oneCell' = true := by
   rcases hx with hx | ⟨b, off, us, rfl, hbl, hX, hl, hc, hra⟩
   ·have hx0 : xs = [] := by simpa using hx
    subst hx0
    exact ⟨[], by simp [flat], fun _ => rfl, by simp [flat], by simp [RepL], by simp⟩
   ·refine ⟨us, ?_, (fun h => by cases h), fun ad had j u hu => ?_, hl, hc⟩
    ·rw [flat_length (fun v hv => (hc v hv).1)]; congr 1; have := hl.length; simpa using this.symm
    ·cases had; rw [Addr.add_lit]; exact hra j u hu
  obtain ⟨us, h1, h2, h3, hl, hc⟩ := hx'
  have hlen : (xs.map g).length = xs.length := by simp
  have := W a xs.length cap (flat us) c.w h1 h2 h3 (flat_one fun v hv => (hc v hv).2) (by simpa using hb)
  rw [hlen]
  refine this.mono ?_
  rintro en w' ⟨u', rfl, hr⟩
  have hB := hm.fresh (id := id) rfl
  obtain ⟨c', hw, hb', h4, h5⟩ := hm.upd (pr := fun id => Mem.of [] id ≠ .none) id (.arr e0 k (xs.map g)) (.arr u' k xs.length []) w' hr.grown.os hr.grown.tape hr.grown.output hr.drawn hr.grown.size
   (fun b hb _ => hr.grown.block b hb (by simp [Value.ownBlock])) (fun b hb => .inr (hb.elim (fun hb => (hr.blk b hb).elim (fun h => by simp [Value.ownBlock] at h) (fun h => h)) (fun hh => by cases hh))) (by rw [hB]; trivial) (fun _ be0 h0 => by rw [hB] at h0; cases h0)
   (fun c' hw hle hble => by
    simp only [RepE]
    exact ⟨u', us, by simp, Nat.le_of_ble_eq_true hk, by rw [hw]; simpa using hr.own, RepL.mono hle _ _ (fun j _ => hble j) hl, hc, hp⟩)
  refine ⟨u', c', rfl, hw, h4, ?_, h5.grow⟩
  simp only [RepV]
  refine ⟨?_, _, _, _, _, hb', Nat.le_refl _, fun _ => rfl⟩
  rcases hr.own.2 with ⟨rfl, _⟩ | ⟨g, cap, cur, rfl, _⟩ <;> rfl
 ·cases h
theorem pnC {c : List LV} (hc : LV.pureL c = true) : ∀ {l : List LV}, LV.pureL l = true → LV.pureL (l ++ c) = true := fun h => pureL_append h hc
theorem bits_agg {cs : Array Value} (h : ∀ y ∈ cs.toList, (∃ k n, y = .int k n) ∨ ∃ b, y = .bool b) (n : Nat) : Instr.sameBits (n + 1) (.agg cs) (.agg cs) = true := by
 simp only [Instr.sameBits, beq_self_eq_true, Bool.true_and, List.all_eq_true]
 intro p hp
 have hpe : p.1 = p.2 ∧ p.1 ∈ cs.toList := by
  obtain ⟨i, hi, rfl⟩ := List.mem_iff_getElem.1 hp
  simp [List.getElem_zip]
 obtain ⟨a, b⟩ := p
 simp only at hpe ⊢
 obtain ⟨he, hm⟩ := hpe
 subst he
 rcases h _ hm with ⟨k, m, h⟩ | ⟨b, h⟩ <;> subst h <;> cases n <;> simp [Instr.sameBits]
mutual
theorem refs_pure : ∀ (x : LV), x.pure = true → x.refs = []
 | .und, _ | .int _ _, _ | .bool _, _ | .nil, _ | .slen _, _ | .full _ _, _ | .str _, _ | .it _, _ | .nilf, _ | .nilp, _ | .lst _ _, _ => by simp [LV.refs]
 | .sptr cs, h => by simp only [LV.pure] at h; simp only [LV.refs]; exact refsL_pure' cs h
 | .arr _ _, h | .ptr _ _, h | .eptr _ _ _ _, h | .mp _, h => by simp [LV.pure] at h
 | .agg cs, h => by simp only [LV.pure] at h; simp only [LV.refs]; exact refsL_pure' cs h
 | .tup cs, h => by simp only [LV.pure] at h; simp only [LV.refs]; exact refsL_pure' cs h
 | .fn _ cs, h => by simp only [LV.pure] at h; simp only [LV.refs]; exact refsL_pure' cs h
 | .bfn _ cs, h => by simp only [LV.pure] at h; simp only [LV.refs]; exact refsL_pure' cs h
theorem refsL_pure' : ∀ (xs : List LV), LV.pureL xs = true → LV.refsL xs = []
 | [], _ => by simp [LV.refsL]
 | x :: xs, h => by
  simp only [LV.pureL, Bool.and_eq_true] at h
  simp only [LV.refsL, refs_pure x h.1, refsL_pure' xs h.2, List.append_nil]
end
theorem refsL_pure {xs : List LV} (h : LV.pureL xs = true) : LV.refsL xs = [] := refsL_pure' xs h
end
end Go.L
set_option linter.unusedVariables false
set_option linter.unusedSimpArgs false
namespace Go.L
section
variable {P : Program} {N : Nat} {pr : Nat → Prop} {ops : Array Oper} {e : Env} {m m' : Mem} {ev : Operand → LV} {o : Oper} {lv : LV} {l : List Oper} {KE : Env → Mem → Prop}
def tarr (P : Program) (t : TypeId) : Option (Nat × Nat) := match P.underlying t, P.info? t with
 | some (.array n e), some it => match it.zero, P.info? e with
  | some z, some ie => if z.cells.size = n ∧ ie.size = 1 then some (n, e) else .none
  | _, _ => .none
 | _, _ => .none
theorem tarr_of {t n e : Nat} (h : tarr P t = some (n, e)) : ∃ it z ie, P.underlying t = some (.array n e) ∧ P.info? t = some it ∧ it.zero = some z ∧ P.info? e = some ie ∧ z.cells.size = n ∧ ie.size = 1 := by
 unfold tarr at h
 split at h
 ·rename_i n' e' it hu hi
  split at h
  ·rename_i z ie hz hie
   split at h
   ·rename_i hc
    simp only [Option.some.injEq, Prod.mk.injEq] at h
    obtain ⟨rfl, rfl⟩ := h
    exact ⟨it, z, ie, hu, hi, hz, hie, hc.1, hc.2⟩
   ·cases h
  ·cases h
 ·cases h
theorem cells1 {c : Cx} {x : LV} {v : Value} (h : RepV c x v) (hs : x.scalar = true) : v.cells = #[v] := by
 have := oneCell_of_scalar hs h
 cases v <;> first | rfl | simp [Value.oneCell'] at this
theorem ok_buildA {d : Option Nat} {t ty : TypeId} {pos : String} {af : Array Edge} {g : Option (Nat × Bool)} {ps : List (Nat × Operand)} {n el : Nat} {xs : List LV} (ht : tarr P t = some (n, el)) (hp : ps.map (·.1) = List.range n) (hx : (ps.map fun p => ev p.2) = xs) (hsc : xs.all LV.scalar = true) :
  OpOk P pr ⟨d, .build t ps.toArray, ty, pos, af, g⟩ ev m (.agg xs) m := by
 obtain ⟨it, z, ie, hu, hi, hz, hie, hzs, hs1⟩ := tarr_of ht
 subst hx
 refine OpOk.same fun c a hev hm => ?_
 let vs := ps.map fun p => a.eval p.2
 have hplen : ps.length = n := by have := congrArg List.length hp; simpa using this
 have hvl : vs.length = n := by simp [vs, hplen]
 have hv1 : ∀ v ∈ vs, v.cells = #[v] := fun v hv => by
  obtain ⟨p, hp', rfl⟩ := List.mem_map.1 hv
  rw [List.all_eq_true] at hsc
  exact cells1 (hev p.2) (hsc _ (List.mem_map.2 ⟨p, hp', rfl⟩))
 have hparts : (ps.toArray.map fun (p : Nat × Operand) => (p.1, a.eval p.2)).toList = (vs.zipIdx 0).map fun x => (x.2, x.1) := by
  apply List.ext_getElem?
  intro j
  have hj := congrArg (fun l => l[j]?) hp
  simp only [List.getElem?_map, List.getElem?_range] at hj
  simp only [Array.toList_map, List.getElem?_map, List.getElem?_zipIdx, vs, Nat.zero_add]
  cases hq : ps[j]? with
  | none => simp [hq]
  | some p =>
   rw [hq] at hj
   have hjl : j < n := by rw [← hplen]; exact (List.getElem?_eq_some_iff.1 hq).1
   rw [List.getElem?_range hjl] at hj
   simp at hj
   simp [hq, hj]
 obtain ⟨r, hr, hrs, hrk⟩ := Great.fill_dense (s := 1) (by omega) vs 0 z.cells (fun v hv => by rw [hv1 v hv]; rfl) (by simp [hvl, hzs])
 have hrl : r.toList = vs := by
  apply List.ext_getElem?
  intro j
  rw [Array.getElem?_toList, hrk j]
  simp only [Nat.zero_mul, Nat.zero_le, true_and, Nat.zero_add, Nat.sub_zero, hvl, Nat.mul_one, Nat.div_one, Nat.mod_one]
  by_cases hj : j < n
  ·rw [if_pos hj]
   have hj' : j < vs.length := by omega
   rw [List.getElem?_eq_getElem hj']
   simp [hv1 _ (List.getElem_mem hj')]
  ·rw [if_neg hj, List.getElem?_eq_none (by omega)]
   simp; omega
 have hb : P.built t (ps.toArray.map fun p => (p.1, a.eval p.2)).toList = some r := by
  unfold Program.built
  simp only [hi, hu, hz, hie, hs1, hparts]
  exact hr
 have hrun := run_build (P := P) c.w t _ r hb
 refine ⟨.agg r, by simp only [execOp, Sem.run_bind, hrun]; first | rfl | simp [Result.andThen], ?_⟩
 simp only [RepV]
 exact ⟨r.toList, by simp, by rw [hrl]; have h := repL_map hev (ps.map (·.2)); simpa [vs, List.map_map, Function.comp_def] using h⟩
theorem ok_ixS {α : Type} {f : α → LV} {ys : List α} {z : α} {d : Option Nat} {x y : Operand} {t ty : TypeId} {pos : String} {af : Array Edge} {g : Option (Nat × Bool)} {n el : Nat} {k : IntKind} {u : Int} (ht : tarr P t = some (n, el)) (hn : Nat.ble 2 n = true) (hx : ev x = .sptr (ys.map f)) (hy : ev y = .int k u) (hlen : ys.length = n) (hz : idx ys u = some z) :
  OpOkR P pr ⟨d, .indexAddr t x y, ty, pos, af, g⟩ ev m (.sptr [f z]) m := by
 obtain ⟨it, zz, ie, hu, hi, hzz, hie, hzs, hs1⟩ := tarr_of ht
 obtain ⟨h0, h2⟩ := idxOk hz
 have h1 : u.toNat < n := by rw [← hlen]; exact (List.getElem?_eq_some_iff.1 h2).1
 refine OpOkR.value fun c a hev hm => ?_
 have e1 := hev x (by simp [Op.operands])
 have e2 := hev y (by simp [Op.operands])
 rw [hx] at e1; rw [hy] at e2
 simp only [RepV] at e1 e2
 obtain ⟨b, off, vs, hv, hb, hX, hl, hone, hra⟩ := e1
 have hlt : u < (n : Int) := by omega
 have hn2 : ¬ n ≤ 1 := by have := Nat.le_of_ble_eq_true hn; omega
 obtain ⟨w, hw1, hw2⟩ := hl.get (i := u.toNat) (x := f z) (by simp [h2])
 refine ⟨.pointer (some ⟨b, off + u.toNat, .none⟩), c, ?_, ?_, hm, Step.refl pr c⟩
 ·simp [execOp, Instr.indexAt, asIntOf, e2, hv, Instr.sureAddr, run_underlying hu, sizeOf, typeInfo, hie, hs1, h0, hlt, hn2, Addr.add_mid]
 ·simp only [RepV]
  refine ⟨b, off + u.toNat, [w], rfl, hb, hX, ?_, ?_, ?_⟩
  ·simp only [RepL]; exact ⟨w, [], rfl, hw2, rfl⟩
  ·intro y hy; simp at hy; subst hy; exact hone _ (List.mem_of_getElem? hw1)
  ·intro j v hj
   cases j with
   | zero => simp at hj; subst hj; simpa using hra u.toNat w hw1
   | succ j => simp at hj
end
end Go.L
set_option linter.unusedVariables false
set_option linter.unusedSimpArgs false
namespace Go.L
mutual
/-- does the value not speak of memory that nobody owns? -/
def LV.nolst : LV → Bool
 | .lst _ _ => false
 | .full _ _ => false
 | .sptr _ => false
 | .agg cs => LV.nolstL cs
 | .tup cs => LV.nolstL cs
 | .fn _ cs => LV.nolstL cs
 | .bfn _ cs => LV.nolstL cs
 | _ => true
def LV.nolstL : List LV → Bool
 | [] => true
 | x :: xs => x.nolst && LV.nolstL xs
end
def LE.plain (id : Nat) : LE → Prop
 | .box cs => LV.nolstL cs = true ∧ LV.norefL id cs = true
 | .arr _ _ xs => LV.nolstL xs = true
 | .map _ _ es => LV.nolstL (es.map (·.1)) = true ∧ LV.nolstL (es.map (·.2)) = true
 | .nest _ _ _ _ => False
 | .dead => True
inductive LendL (id k : Nat) (xs : List LV) : List LV → List LV → Prop
 | nil : LendL id k xs [] []
 | row {n : Nat} {l l' : List LV} (hn : n = xs.length) (h : LendL id k xs l l') : LendL id k xs (.arr id n :: l) (.lst k xs :: l')
 | keep {x : LV} {l l' : List LV} (hx : x.noref id = true) (h : LendL id k xs l l') : LendL id k xs (x :: l) (x :: l')
theorem LendL.rep {id k : Nat} {xs : List LV} {c c' : Cx} (hV : ∀ x v, x.noref id = true → RepV c x v → RepV c' x v) (hR : ∀ v, RepV c (.arr id xs.length) v → RepV c' (.lst k xs) v) : ∀ {l l' : List LV} (h : LendL id k xs l l') {vs : List Value}, RepL c l vs → RepL c' l' vs
 | _, _, .nil, vs, hr => by simpa only [RepL] using hr
 | _, _, .row hn h, vs, hr => by
  subst hn
  simp only [RepL] at hr ⊢
  obtain ⟨v, vs', rfl, h1, h2⟩ := hr
  exact ⟨v, vs', rfl, hR v h1, h.rep hV hR h2⟩
 | _, _, .keep hx h, vs, hr => by
  simp only [RepL] at hr ⊢
  obtain ⟨v, vs', rfl, h1, h2⟩ := hr
  exact ⟨v, vs', rfl, hV _ v hx h1, h.rep hV hR h2⟩
mutual
/-- a value where the name i is j -/
def LV.ren (i j : Nat) : LV → LV
 | .arr id n => .arr (if id = i then j else id) n
 | .agg cs => .agg (LV.renL i j cs)
 | .tup cs => .tup (LV.renL i j cs)
 | x => x
def LV.renL (i j : Nat) : List LV → List LV
 | [] => []
 | x :: xs => x.ren i j :: LV.renL i j xs
end
mutual
theorem RepV.ren {c c' : Cx} {i j : Nat} (hle : c.Le c') (hB : c'.B j = c.B i) (hj : c.B j = .none) (hk : ∀ k, k ≠ i → k ≠ j → c'.B k = c.B k) : ∀ (x : LV) (v : Value), (x.ren i j).noref i = true → RepV c x v → RepV c' (x.ren i j) v
 | .arr id n, v, hn, h => by
  simp only [LV.ren, RepV] at h ⊢
  by_cases hi : id = i
  ·simp only [hi, if_true, hB]; rw [hi] at h; exact h
  ·simp only [hi, if_false]
   have hij : id ≠ j := fun he => by rw [he, hj] at h; obtain ⟨_, _, _, _, _, h1, _⟩ := h; cases h1
   rw [hk id hi hij]; exact h
 | .agg cs, v, hn, h => by
  simp only [LV.ren, RepV] at h ⊢
  obtain ⟨vs, h1, h2⟩ := h
  exact ⟨vs, h1, RepL.ren hle hB hj hk cs vs (by simpa [LV.ren, LV.noref] using hn) h2⟩
 | .tup cs, v, hn, h => by
  simp only [LV.ren, RepV] at h ⊢
  obtain ⟨vs, h1, h2⟩ := h
  exact ⟨vs, h1, RepL.ren hle hB hj hk cs vs (by simpa [LV.ren, LV.noref] using hn) h2⟩
 | .und, v, hn, h => by simp only [LV.ren, RepV]
 | .int k n, v, hn, h => by simpa only [LV.ren, RepV] using h
 | .bool b, v, hn, h => by simpa only [LV.ren, RepV] using h
 | .nil, v, hn, h => by simpa only [LV.ren, RepV] using h
 | .slen _, v, hn, h => by simpa only [LV.ren, RepV] using h
 | .str _, v, hn, h => by simpa only [LV.ren, RepV] using h
 | .it _, v, hn, h => by simpa only [LV.ren, RepV] using h
 | .full k xs, v, hn, h => by simp only [LV.ren] at hn ⊢; exact RepV.mono hle _ v (fun id hid => by simp [LV.noref] at hid) h
 | .nilf, v, hn, h => by simpa only [LV.ren, RepV] using h
 | .nilp, v, hn, h => by simpa only [LV.ren, RepV] using h
 | .lst k xs, v, hn, h => by simp only [LV.ren] at hn ⊢; exact RepV.mono hle _ v (fun id hid => by simp [LV.noref] at hid) h
 | .sptr cs, v, hn, h => by
  simp only [LV.ren, LV.noref] at hn ⊢
  refine RepV.mono hle _ v (fun k hk' => ?_) h
  by_cases hki : k = i
  ·subst hki; simp only [LV.noref] at hk'; rw [hn] at hk'; cases hk'
  ·by_cases hij : k = j
   ·rw [hij, hj]; trivial
   ·rw [hk k hki hij]; exact BLe.refl _
 | .ptr id o, v, hn, h => by
  simp only [LV.ren, LV.noref, bne_iff_ne] at hn ⊢
  refine RepV.mono hle _ v (fun k hk' => ?_) h
  simp only [LV.noref, bne_eq_false_iff_eq] at hk'
  subst hk'
  by_cases hij : id = j
  ·rw [hij, hj]; trivial
  ·rw [hk id hn hij]; exact BLe.refl _
 | .eptr id n q o, v, hn, h => by
  simp only [LV.ren, LV.noref, bne_iff_ne] at hn ⊢
  refine RepV.mono hle _ v (fun k hk' => ?_) h
  simp only [LV.noref, bne_eq_false_iff_eq] at hk'
  subst hk'
  by_cases hij : id = j
  ·rw [hij, hj]; trivial
  ·rw [hk id hn hij]; exact BLe.refl _
 | .mp id, v, hn, h => by
  simp only [LV.ren, LV.noref, bne_iff_ne] at hn ⊢
  refine RepV.mono hle _ v (fun k hk' => ?_) h
  simp only [LV.noref, bne_eq_false_iff_eq] at hk'
  subst hk'
  by_cases hij : id = j
  ·rw [hij, hj]; trivial
  ·rw [hk id hn hij]; exact BLe.refl _
 | .fn f cs, v, hn, h => by
  simp only [LV.ren, LV.noref] at hn ⊢
  refine RepV.mono hle _ v (fun k hk' => ?_) h
  by_cases hki : k = i
  ·subst hki; simp only [LV.noref] at hk'; rw [hn] at hk'; cases hk'
  ·by_cases hij : k = j
   ·rw [hij, hj]; trivial
   ·rw [hk k hki hij]; exact BLe.refl _
 | .bfn f cs, v, hn, h => by
  simp only [LV.ren, LV.noref] at hn ⊢
  refine RepV.mono hle _ v (fun k hk' => ?_) h
  by_cases hki : k = i
  ·subst hki; simp only [LV.noref] at hk'; rw [hn] at hk'; cases hk'
  ·by_cases hij : k = j
   ·rw [hij, hj]; trivial
   ·rw [hk k hki hij]; exact BLe.refl _
theorem RepL.ren {c c' : Cx} {i j : Nat} (hle : c.Le c') (hB : c'.B j = c.B i) (hj : c.B j = .none) (hk : ∀ k, k ≠ i → k ≠ j → c'.B k = c.B k) : ∀ (xs : List LV) (vs : List Value), LV.norefL i (LV.renL i j xs) = true → RepL c xs vs → RepL c' (LV.renL i j xs) vs
 | [], vs, hn, h => by simpa only [LV.renL, RepL] using h
 | x :: xs, vs, hn, h => by
  simp only [LV.renL, RepL] at h ⊢
  obtain ⟨v, vs', rfl, h1, h2⟩ := h
  simp only [LV.renL, LV.norefL, Bool.and_eq_true] at hn
  exact ⟨v, vs', rfl, RepV.ren hle hB hj hk x v hn.1 h1, RepL.ren hle hB hj hk xs vs' hn.2 h2⟩
end
theorem RepM.ren {c : Cx} {ml : List (Nat × LE)} {i j e k : Nat} {xs : List LV} (hij : i ≠ j) (h : RepM c (Mem.of ml)) (hi : Mem.of ml i = some (.arr e k xs)) (hj : Mem.of ml j = .none) (hfree : freeB i ml = true) :
  ∃ c' : Cx, c'.w = c.w ∧ c'.O = c.O ∧ RepM c' (Mem.of ((j, .arr e k xs) :: ml.filter fun q => q.1 != i)) ∧ c.Le c' ∧ c'.B j = c.B i ∧ (∀ q, q ≠ i → q ≠ j → c'.B q = c.B q) ∧ ∀ b, c'.own b ↔ c.own b := by
 have hBj := h.fresh hj
 let c' : Cx := ⟨c.w, fun q => if q = j then c.B i else if q = i then .none else c.B q, c.O⟩
 have e1 : c'.B j = c.B i := by simp [c']
 have e2 : c'.B i = .none := by simp [c', hij]
 have e3 : ∀ q, q ≠ i → q ≠ j → c'.B q = c.B q := fun q h1 h2 => by simp [c', h1, h2]
 have hown : ∀ b, c'.own b ↔ c.own b := by
  intro b
  constructor
  ·rintro ⟨q, be, g1, g2⟩
   by_cases hq : q = j
   ·subst hq; rw [e1] at g1; exact ⟨i, be, g1, g2⟩
   ·by_cases hq' : q = i
    ·subst hq'; rw [e2] at g1; cases g1
    ·rw [e3 q hq' hq] at g1; exact ⟨q, be, g1, g2⟩
  ·rintro ⟨q, be, g1, g2⟩
   by_cases hq : q = j
   ·subst hq; rw [hBj] at g1; cases g1
   ·by_cases hq' : q = i
    ·subst hq'; exact ⟨j, be, by rw [e1]; exact g1, g2⟩
    ·exact ⟨q, be, by rw [e3 q hq' hq]; exact g1, g2⟩
 have hle : c.Le c' := ⟨Nat.le_refl _, fun b _ hx => ⟨rfl, fun hx' => hx (hx'.imp (fun h => h) (hown b).1)⟩⟩
 refine ⟨c', rfl, rfl, ⟨fun q => ?_, ?_, fun b ho => h.notO b ((hown b).1 ho), h.Olt⟩, hle, e1, e3, hown⟩
 ·rw [show Mem.of ((j, LE.arr e k xs) :: ml.filter fun q => q.1 != i) q = if q = j then some (LE.arr e k xs) else Mem.of (ml.filter fun q => q.1 != i) q from rfl, ← Mem.of_del]
  by_cases hq : q = j
  ·subst hq
   rw [e1]
   have he := h.ent i
   rw [hi] at he
   simp only [if_true, RepE] at he ⊢
   obtain ⟨u, vs, h1, h0, h2, h3, h4, h5⟩ := he
   exact ⟨u, vs, h1, h0, h2, RepL.mono hle xs vs (fun z hz => by rw [norefL_of_pureL xs h5] at hz; cases hz) h3, h4, h5⟩
  ·simp only [hq, if_false]
   by_cases hq' : q = i
   ·subst hq'; rw [e2]; simp [Mem.del, RepE]
   ·rw [e3 q hq' hq]
    have he := h.ent q
    simp only [Mem.del, hq', if_false]
    cases hmq : Mem.of ml q with
    | none => rw [hmq] at he; simpa only [RepE] using he
    | some le =>
     rw [hmq] at he
     have hBk : ∀ z, z ≠ i → BLe (c.B z) (c'.B z) := fun z hz => by
      by_cases hzj : z = j
      ·subst hzj; rw [hBj]; trivial
      ·rw [e3 z hz hzj]; exact BLe.refl _
     cases le with
     | box cs =>
      simp only [RepE] at he ⊢
      obtain ⟨b, vs, e', h1, h2, h3, h4⟩ := he
      exact ⟨b, vs, e', h1, h2, RepL.mono hle cs vs (fun z hz => hBk z (fun hc => by subst hc; rw [freeB_of hfree q cs hq' hmq] at hz; cases hz)) h3, h4⟩
     | arr e' k' xs' =>
      simp only [RepE] at he ⊢
      obtain ⟨u, vs, h1, h0, h2, h3, h4, h5⟩ := he
      exact ⟨u, vs, h1, h0, h2, RepL.mono hle xs' vs (fun z hz => by rw [norefL_of_pureL xs' h5] at hz; cases hz) h3, h4, h5⟩
     | nest e' k' os xs' =>
      simp only [RepE] at he ⊢
      obtain ⟨u, vs, bs, h1, h0, h2, h3, h4⟩ := he
      exact ⟨u, vs, bs, h1, h0, h2, h3.mono hle (fun b _ => rfl), h4⟩
     | dead => simpa only [RepE] using he
     | map kt vt es =>
      simp only [RepE] at he ⊢
      obtain ⟨b, es', ck, h1, h2, h3, h4, h5, h6, h7⟩ := he
      exact ⟨b, es', ck, h1, h2, RepL.mono hle _ _ (fun z hz => by rw [norefL_of_pureL _ h5] at hz; cases hz) h3, RepL.mono hle _ _ (fun z hz => by rw [norefL_of_pureL _ h6] at hz; cases hz) h4, h5, h6, h7⟩
 ·intro q q' be be' b g1 g2 g3 g4
  have key : ∀ q be, c'.B q = some be → ∃ p, c.B p = some be ∧ (q = j ∧ p = i ∨ q ≠ j ∧ q ≠ i ∧ p = q) := fun q be g => by
   by_cases hq : q = j
   ·subst hq; rw [e1] at g; exact ⟨i, g, .inl ⟨rfl, rfl⟩⟩
   ·by_cases hq' : q = i
    ·subst hq'; rw [e2] at g; cases g
    ·rw [e3 q hq' hq] at g; exact ⟨q, g, .inr ⟨hq, hq', rfl⟩⟩
  obtain ⟨p, p1, p2⟩ := key q be g1
  obtain ⟨p', p1', p2'⟩ := key q' be' g2
  have := h.inj p p' be be' b p1 p1' g3 g4
  rcases p2 with ⟨a1, a2⟩ | ⟨a1, a2, a3⟩ <;> rcases p2' with ⟨b1, b2⟩ | ⟨b1, b2, b3⟩
  ·rw [a1, b1]
  ·exact absurd (this.symm.trans a2 |>.symm.trans b3 |>.symm) b2
  ·exact absurd (a3.symm.trans (this.trans b2)) a2
  ·rw [← a3, ← b3]; exact this
theorem Env.of_ren (i j : Nat) : ∀ (el : List (Nat × LV)) (q : Nat), Env.of (el.map fun p => (p.1, p.2.ren i j)) q = (Env.of el q).ren i j
 | [], q => rfl
 | (d, v) :: r, q => by
  simp only [List.map_cons, Env.of]
  split
  ·rfl
  ·exact Env.of_ren i j r q
def renOk (i j : Nat) (el : List (Nat × LV)) : Bool := el.all fun p => (p.2.ren i j).noref i
theorem renOk_of {i j : Nat} : ∀ {el : List (Nat × LV)}, renOk i j el = true → ∀ q, ((Env.of el q).ren i j).noref i = true
 | [], _, q => rfl
 | (d, v) :: r, h, q => by
  simp only [renOk, List.all_cons, Bool.and_eq_true] at h
  simp only [Env.of]
  split
  ·exact h.1
  ·exact renOk_of h.2 q
theorem Wk.ren {pr : Nat → Prop} {el : List (Nat × LV)} {ml : List (Nat × LE)} (i j : Nat) {e k : Nat} {xs : List LV} (hij : (i == j) = false) (hi : Mem.of ml i = some (.arr e k xs)) (hj : Mem.of ml j = .none) (hfree : freeB i ml = true) (hel : renOk i j el = true) (hpr : ¬ pr i) :
  Wk pr (Env.of el) (Mem.of ml) (Env.of (el.map fun p => (p.1, p.2.ren i j))) (Mem.of ((j, .arr e k xs) :: ml.filter fun q => q.1 != i)) := by
 intro N c a hrep
 obtain ⟨c', hw, hO, hm', hle, e1, e3, hown⟩ := hrep.mem.ren (by simpa using hij) hi hj hfree
 have hBj := hrep.mem.fresh hj
 refine ⟨c', hw, ⟨fun q => ?_, hm', hrep.size, hrep.defers⟩, ?_⟩
 ·rw [Env.of_ren]
  exact RepV.ren hle e1 hBj e3 _ _ (renOk_of hel q) (hrep.env q)
 ·refine ⟨hO, by rw [hw], by rw [hw], by rw [hw], by rw [hw]; exact Nat.le_refl _, by rw [hw]; exact Nat.le_refl _, fun b _ _ => by rw [hw], fun b ho => .inl ((hown b).1 ho), fun q be hp hb => ?_⟩
  by_cases hq : q = j
  ·subst hq; rw [hBj] at hb; cases hb
  ·exact ⟨be, by rw [e3 q (fun hc => hpr (hc ▸ hp)) hq]; exact hb, .refl be⟩
end Go.L
set_option linter.unusedVariables false
set_option linter.unusedSimpArgs false
namespace Go.L
section
variable {P : Program} {N : Nat} {pr : Nat → Prop} {ops : Array Oper} {e : Env} {m m' : Mem} {ev : Operand → LV} {o : Oper} {lv : LV} {l : List Oper} {KE : Env → Mem → Prop}
theorem RepN.at {c : Cx} {os : List (Nat × Nat × Nat)} : ∀ {xs : List LV} {vs : List Value} {bs : List Nat}, RepN c os xs vs bs → ∀ {i : Nat} {x : LV}, xs[i]? = some x →
  ∃ v bp b bq, vs[i]? = some v ∧ bs = bp ++ (b ++ bq) ∧ ElN c os x v b ∧ ∀ {c' : Cx} {x' : LV} {v' : Value} {b' : List Nat}, c.Le c' → (∀ q ∈ bp ++ bq, c'.w.heap[q]? = c.w.heap[q]?) → ElN c' os x' v' b' → RepN c' os (xs.set i x') (vs.set i v') (bp ++ (b' ++ bq))
 | [], _, _, h, i, x, hx => by simp at hx
 | y :: ys, vs, bs, h, i, x, hx => by
  simp only [RepN] at h
  obtain ⟨v, vs', b1, b2, rfl, rfl, h1, h2⟩ := h
  cases i with
  | zero =>
   simp at hx; subst hx
   refine ⟨v, [], b1, b2, by simp, by simp, h1, fun {c' x' v' b'} hle hh he => ?_⟩
   simp only [List.set_cons_zero, RepN, List.nil_append]
   exact ⟨v', vs', b', b2, rfl, rfl, he, h2.mono hle (fun q hq => hh q (by simp [hq]))⟩
  | succ i =>
   simp at hx
   obtain ⟨u, bp, b, bq, g1, rfl, g3, g4⟩ := h2.at hx
   refine ⟨u, b1 ++ bp, b, bq, by simpa using g1, by simp, g3, fun {c' x' v' b'} hle hh he => ?_⟩
   simp only [List.set_cons_succ, RepN]
   refine ⟨v, vs'.set i v', b1, bp ++ (b' ++ bq), rfl, by simp, ?_, g4 hle (fun q hq => hh q (by simp at hq ⊢; rcases hq with h | h <;> simp [h])) he⟩
   obtain ⟨cs, ws, rfl, hv, hc⟩ := h1
   exact ⟨cs, ws, rfl, hv, hc.mono hle (fun q hq => hh q (by simp [hq]))⟩
theorem RepN.repl {c : Cx} {os : List (Nat × Nat × Nat)} {x : LV} {v : Value} (h : ElN c os x v []) : ∀ n, RepN c os (List.replicate n x) (List.replicate n v) []
 | 0 => by simp [RepN]
 | n + 1 => by
  simp only [List.replicate_succ, RepN]
  exact ⟨v, List.replicate n v, [], [], rfl, rfl, h, RepN.repl h n⟩
end
theorem OwnC.frz {c c' : Cx} (hle : c.Le c') (hw : c'.w = c.w) {e k : Nat} {x : LV} {v : Value} {bs : List Nat} (hX : ∀ b ∈ bs, ¬ c'.X b) (h : OwnC c e k x v bs) : RepV c' x v := by
 rcases h with ⟨rfl, _⟩ | ⟨ys, us, rfl, hk, hown, hl, hc, hp, rfl⟩
 ·simp only [RepV]
 ·simp only [RepV]
  have hl' := RepL.mono hle ys us (fun j hj => by rw [norefL_of_pureL ys hp] at hj; cases hj) hl
  rcases hown.2 with ⟨rfl, h0⟩ | ⟨g, cap, cur, rfl, _, hg, hnc, _⟩
  ·exact ⟨.none, 0, by rw [h0], by omega, fun _ => rfl, hp, .inl (List.eq_nil_of_length_eq_zero h0)⟩
  ·refine ⟨some ⟨g, 0, .none⟩, cap, rfl, hnc, by simp, hp, .inr ⟨g, 0, us, rfl, by rw [hw]; exact (Array.getElem?_eq_some_iff.1 hg).1, hX g (by simp [Value.ownBlock]), hl', hc, ?_⟩⟩
   rw [hw]; exact rangeAt_own hown rfl
theorem RepC.frz {c c' : Cx} (hle : c.Le c') (hw : c'.w = c.w) {os : List (Nat × Nat × Nat)} : ∀ {o : Nat} {xs : List LV} {ws : List Value} {bs : List Nat}, (∀ b ∈ bs, ¬ c'.X b) → RepC c os o xs ws bs → RepL c' xs ws
 | _, [], _, _, _, h => by simp only [RepC] at h; simp only [RepL]; exact h.1
 | o, x :: xs, ws, bs, hX, h => by
  simp only [RepC] at h
  obtain ⟨w, ws', b1, b2, rfl, rfl, h1, h2⟩ := h
  simp only [RepL]
  refine ⟨w, ws', rfl, ?_, RepC.frz hle hw (fun b hb => hX b (by simp [hb])) h2⟩
  unfold CellN at h1
  split at h1
  ·exact OwnC.frz hle hw (fun b hb => hX b (by simp [hb])) h1
  ·exact RepV.mono hle x w (fun id hid => by rw [noref_of_pure x h1.2.1] at hid; cases hid) h1.1
theorem RepN.frz {c c' : Cx} (hle : c.Le c') (hw : c'.w = c.w) {os : List (Nat × Nat × Nat)} : ∀ {xs : List LV} {vs : List Value} {bs : List Nat}, (∀ b ∈ bs, ¬ c'.X b) → RepN c os xs vs bs → RepL c' xs vs
 | [], _, _, _, h => by simp only [RepN] at h; simp only [RepL]; exact h.1
 | x :: xs, vs, bs, hX, h => by
  simp only [RepN] at h
  obtain ⟨v, vs', b1, b2, rfl, rfl, ⟨cs, ws, rfl, rfl, h1⟩, h2⟩ := h
  simp only [RepL]
  refine ⟨_, vs', rfl, ?_, RepN.frz hle hw (fun b hb => hX b (by simp [hb])) h2⟩
  simp only [RepV]
  exact ⟨ws, rfl, h1.frz hle hw (fun b hb => hX b (by simp [hb]))⟩
end Go.L
set_option linter.unusedVariables false
set_option linter.unusedSimpArgs false
namespace Go.L
section
variable {P : Program} {N : Nat} {pr : Nat → Prop} {ops : Array Oper} {ev : Operand → LV} {o : Oper} {lv : LV} {m m' : Mem}
theorem RepC.at {c : Cx} {os : List (Nat × Nat × Nat)} : ∀ {q : Nat} {xs : List LV} {ws : List Value} {bs : List Nat}, RepC c os q xs ws bs → ∀ {j : Nat} {x : LV}, xs[j]? = some x →
  ∃ w bp b bq, ws[j]? = some w ∧ bs = bp ++ (b ++ bq) ∧ CellN c os (q + j) x w b ∧ ∀ {c' : Cx} {x' : LV} {w' : Value} {b' : List Nat}, c.Le c' → (∀ r ∈ bp ++ bq, c'.w.heap[r]? = c.w.heap[r]?) → CellN c' os (q + j) x' w' b' → RepC c' os q (xs.set j x') (ws.set j w') (bp ++ (b' ++ bq))
 | _, [], _, _, h, j, x, hx => by simp at hx
 | q, y :: ys, ws, bs, h, j, x, hx => by
  simp only [RepC] at h
  obtain ⟨w, ws', b1, b2, rfl, rfl, h1, h2⟩ := h
  cases j with
  | zero =>
   simp at hx; subst hx
   refine ⟨w, [], b1, b2, by simp, by simp, h1, fun {c' x' w' b'} hle hh he => ?_⟩
   simp only [List.set_cons_zero, RepC, List.nil_append]
   exact ⟨w', ws', b', b2, rfl, rfl, he, h2.mono hle (fun r hr => hh r (by simp [hr]))⟩
  | succ j =>
   simp at hx
   obtain ⟨u, bp, b, bq, g1, rfl, g3, g4⟩ := RepC.at h2 hx
   have hq : q + 1 + j = q + (j + 1) := by omega
   rw [hq] at g3
   refine ⟨u, b1 ++ bp, b, bq, by simpa using g1, by simp, g3, fun {c' x' w' b'} hle hh he => ?_⟩
   simp only [List.set_cons_succ, RepC]
   refine ⟨w, ws'.set j w', b1, bp ++ (b' ++ bq), rfl, by simp, h1.mono hle (fun r hr => hh r (by simp [hr])), g4 hle (fun r hr => hh r (by simp at hr ⊢; rcases hr with h | h <;> simp [h])) (by rw [hq]; exact he)⟩
section
variable {d : Option Nat} {d1 : Nat} {x y : Operand} {t ty : TypeId} {pos : String} {af : Array Edge} {gd : Option (Nat × Bool)} {e0 k id n i o0 : Nat} {os : List (Nat × Nat × Nat)} {xs cs : List LV} {z : LV}
end
end
end Go.L
set_option linter.unusedVariables false
set_option linter.unusedSimpArgs false
namespace Go.L
section
variable {P : Program} {N : Nat} {pr : Nat → Prop} {ev : Operand → LV} {m : Mem} {d : Option Nat} {x y : Operand} {t ty : TypeId} {pos : String} {af : Array Edge} {gd : Option (Nat × Bool)} {e0 k id n i o0 id2 e' k' : Nat} {os : List (Nat × Nat × Nat)} {xs cs ys : List LV}
end
end Go.L
set_option linter.unusedVariables false
set_option linter.unusedSimpArgs false
namespace Go.L
section
variable {P : Program} {N : Nat} {pr : Nat → Prop} {ev : Operand → LV} {m m' : Mem} {d : Option Nat} {x y : Operand} {t ty : TypeId} {pos : String} {af : Array Edge} {gd : Option (Nat × Bool)} {lv : LV}
end
end Go.L
set_option linter.unusedVariables false
set_option linter.unusedSimpArgs false
namespace Go.L
section
variable {P : Program} {N : Nat} {pr : Nat → Prop} {ev : Operand → LV} {m m' : Mem} {d : Option Nat} {x y : Operand} {t ty : TypeId} {pos : String} {af : Array Edge} {gd : Option (Nat × Bool)} {lv : LV} {α β : Type} {f : α → LV} {g : β → LV} {e0 k id n : Nat} {os : List (Nat × Nat × Nat)} {xs : List α} {u : Int} {z0 : α} {cs : List LV} {o0 : Nat} {z : LV}
theorem ok_min {kd kd' : IntKind} {u w : Int} {ts : Array TypeId} (hx : ev x = .int kd u) (hy : ev y = .int kd' w) : OpOkR P pr ⟨d, .call ⟨.builtin .min, #[x, y], ts⟩, ty, pos, af, gd⟩ ev m (.int kd (min u w)) m := by
 refine OpOkR.value fun c a hev hM => ?_
 have hv := hev x (by simp [Op.operands, Call.operands])
 have hw := hev y (by simp [Op.operands, Call.operands])
 rw [hx] at hv
 rw [hy] at hw
 simp only [RepV] at hv hw
 have hmn : (if w < u then w else u) = min u w := by omega
 exact ⟨.int kd (min u w), c, by simp [execOp, resolve, invoke, builtin, Builtin.min_, Builtin.min2, hv, hw, hmn], by simp [RepV], hM, Step.refl pr c⟩
theorem ok_max {kd kd' : IntKind} {u w : Int} {ts : Array TypeId} (hx : ev x = .int kd u) (hy : ev y = .int kd' w) : OpOkR P pr ⟨d, .call ⟨.builtin .max, #[x, y], ts⟩, ty, pos, af, gd⟩ ev m (.int kd (max u w)) m := by
 refine OpOkR.value fun c a hev hM => ?_
 have hv := hev x (by simp [Op.operands, Call.operands])
 have hw := hev y (by simp [Op.operands, Call.operands])
 rw [hx] at hv
 rw [hy] at hw
 simp only [RepV] at hv hw
 have hmn : (if w > u then w else u) = max u w := by omega
 exact ⟨.int kd (max u w), c, by simp [execOp, resolve, invoke, builtin, Builtin.max_, Builtin.max2, hv, hw, hmn], by simp [RepV], hM, Step.refl pr c⟩
end
end Go.L
set_option linter.unusedVariables false
set_option linter.unusedSimpArgs false
namespace Go.L
theorem RepM.re {c : Cx} {m : Mem} (h : RepM c m) {bid : Nat} {cs cs' : List LV} (hm : m bid = some (.box cs)) {vs : List Value} {b : Nat} {e : TypeId} (hB : c.B bid = some (.box b cs.length)) (hh : c.w.heap[b]? = some (.cells vs.toArray e (0, 0))) (hl : RepL c cs' vs) (h1 : ∀ v ∈ vs, v.oneCell' = true) (hn : cs'.length = cs.length) : RepM c (m.put bid (.box cs')) := by
 refine ⟨fun i => ?_, h.inj, h.notO, h.Olt⟩
 by_cases hi : i = bid
 ·subst hi
  simp only [Mem.put, if_true, RepE]
  exact ⟨b, vs, e, by rw [hn]; exact hB, hh, hl, h1⟩
 ·simp only [Mem.put, hi, if_false]
  exact h.ent i
theorem repL_und {c : Cx} : ∀ (cs : List LV) (vs : List Value), RepL c cs vs → RepL c (cs.map fun _ => LV.und) vs
 | [], vs, h => by simpa only [RepL, List.map_nil] using h
 | x :: xs, vs, h => by
  simp only [RepL, List.map_cons] at h ⊢
  obtain ⟨v, vs', rfl, h1, h2⟩ := h
  exact ⟨v, vs', rfl, by simp [RepV], repL_und xs vs' h2⟩
theorem norefL_und {id : Nat} : ∀ (cs : List LV), LV.norefL id (cs.map fun _ => LV.und) = true
 | [] => by simp [LV.norefL]
 | x :: xs => by simp [LV.norefL, LV.noref, norefL_und xs]
theorem frzAL_length {id k : Nat} {xs : List LV} : ∀ (cs : List LV), (LV.frzAL id k xs cs).length = cs.length
 | [] => by simp [LV.frzAL]
 | x :: cs => by simp [LV.frzAL, frzAL_length cs]
def freeB2 (id bid : Nat) (ml : List (Nat × LE)) : Bool := ml.all fun q => q.1 == id || q.1 == bid || match q.2 with | .box cs => LV.norefL id cs | .arr _ _ _ => true | .map _ _ _ => true | .nest _ _ _ _ => true | .dead => true
theorem Wk.frzBx {pr : Nat → Prop} {el : List (Nat × LV)} {ml : List (Nat × LE)} {α : Type} {f : α → LV} (id e k : Nat) (xs : List α) (bid : Nat) {cs cs' : List LV} (hid : Mem.of ml id = some (.arr e k (xs.map f))) (hb : Mem.of ml bid = some (.box cs)) (hne : (bid == id) = false) (hcs : LV.frzAL id k (xs.map f) cs = cs') (hfree : freeB2 id bid ml = true) (henv : (el.all fun p => p.2.noref id) = true) (hpr : ¬ pr id) :
  Wk pr (Env.of el) (Mem.of ml) (Env.of el) (((Mem.of ml).del id).put bid (.box cs')) := by
 intro N c a hrep
 have hne : bid ≠ id := by simpa using hne
 obtain ⟨b, vs, e1, hBb, hh, hl, h1⟩ := cell_box hrep.mem hb
 have hm1 := hrep.mem.re (cs' := cs.map fun _ => LV.und) hb hBb hh (repL_und cs vs hl) h1 (by simp)
 obtain ⟨c', hw, hO, hm', hV, hown, hX, hB⟩ := hm1.del id (by
  intro i ds hi hd
  by_cases hib : i = bid
  ·subst hib
   simp only [Mem.put, if_true, Option.some.injEq, LE.box.injEq] at hd
   rw [← hd]; exact norefL_und cs
  ·simp only [Mem.put, hib, if_false] at hd
   have := List.all_eq_true.1 hfree _ (memOf_some hd)
   simpa [hi, hib] using this)
 have hle : c.Le c' := ⟨by rw [hw]; exact Nat.le_refl _, fun b _ hx => ⟨by rw [hw], fun hx' => hx (hx'.imp (fun h => by rw [hO] at h; exact h) (hown b))⟩⟩
 have harr : ∀ v, RepV c (.arr id (xs.map f).length) v → RepV c' (.lst k (xs.map f)) v := by
  intro v hv
  obtain ⟨us, hBu, hk, hown', hl, hc, hp⟩ := arr_now hrep.mem hv hid rfl
  simp only [RepV]
  have hl' := RepL.mono hle (xs.map f) us (fun j hj => by rw [norefL_of_pureL _ hp] at hj; cases hj) hl
  rcases hown'.2 with ⟨rfl, h0⟩ | ⟨g, cap, cur, rfl, _, hg, hnc, _⟩
  ·exact ⟨.none, 0, by rw [h0], by omega, fun _ => rfl, hp, .inl (List.eq_nil_of_length_eq_zero h0)⟩
  ·refine ⟨some ⟨g, 0, .none⟩, cap, rfl, hnc, by simp, hp, .inr ⟨g, 0, us, rfl, by rw [hw]; exact (Array.getElem?_eq_some_iff.1 hg).1, hX g _ hBu (.inl rfl), hl', hc, ?_⟩⟩
   rw [hw]; exact rangeAt_own hown' rfl
 have hl2 : RepL c' cs' vs := by rw [← hcs]; exact frzAL_rep hV harr cs vs hl
 have hlen : cs'.length = cs.length := by rw [← hcs, frzAL_length]
 have hm2 := hm'.re (bid := bid) (cs := cs.map fun _ => LV.und) (cs' := cs') (by simp [Mem.del, Mem.put, hne]) (by rw [hB bid hne]; simpa using hBb) (by rw [hw]; exact hh) hl2 h1 (by simpa using hlen)
 have hmem : (((Mem.of ml).put bid (.box (cs.map fun _ => LV.und))).del id).put bid (.box cs') = ((Mem.of ml).del id).put bid (.box cs') := by
  funext i
  simp only [Mem.put, Mem.del]
  by_cases hib : i = bid <;> simp [hib]
 rw [hmem] at hm2
 refine ⟨c', hw, ⟨fun i => hV _ _ ?_ (hrep.env i), hm2, hrep.size, hrep.defers⟩, ?_⟩
 ·clear hrep
  induction el with
  | nil => simp [Env.of, LV.noref]
  | cons p el ih =>
   simp only [List.all_cons, Bool.and_eq_true] at henv
   simp only [Env.of]
   split
   ·exact henv.1
   ·exact ih henv.2
 ·refine ⟨hO, by rw [hw], by rw [hw], by rw [hw], by rw [hw]; exact Nat.le_refl _, by rw [hw]; exact Nat.le_refl _, fun b _ _ => by rw [hw], fun b ho => .inl (hown b ho), fun i be hpi hb => ?_⟩
  exact ⟨be, by rw [hB i (fun h => hpr (h ▸ hpi))]; exact hb, .refl be⟩
theorem frA0 {id k : Nat} {ys : List LV} : LV.frzAL id k ys [] = [] := by simp [LV.frzAL]
theorem frAK {id k : Nat} {ys : List LV} {x : LV} {cs cs' : List LV} (h : x.noref id = true) (hr : LV.frzAL id k ys cs = cs') : LV.frzAL id k ys (x :: cs) = x :: cs' := by
 simp only [LV.frzAL, frzA_noref x h, hr]
theorem frAZ {α : Type} {f : α → LV} {id k : Nat} {ys : List α} {cs cs' : List LV} (hr : LV.frzAL id k (ys.map f) cs = cs') : LV.frzAL id k (ys.map f) (.arr id ys.length :: cs) = .lst k (ys.map f) :: cs' := by
 simp [LV.frzAL, LV.frzA, hr]
theorem OpOk.sub {P : Program} {pr : Nat → Prop} {o : Oper} {ev ev' : Operand → LV} {m m' : Mem} {lv : LV} (h : OpOk P pr o ev' m lv m') (hs : ∀ x, Sub (ev x) (ev' x)) : OpOk P pr o ev m lv m' :=
 fun c a Q hev hm => h c a Q (fun x => hs x c _ (hev x)) hm
theorem ok_bs1 {P : Program} {pr : Nat → Prop} {ev : Operand → LV} {m : Mem} {d : Option Nat} {t el kk : Nat} {x : Operand} {ty : TypeId} {pos : String} {af : Array Edge} {g : Option (Nat × Bool)} {α : Type} {f : α → LV} (y : α) (he : telem P t = some el) (hr : trow P el = true) (hk : tsize P el = kk) (hb : Nat.ble (1 * kk) 16777216 = true) (hs : Sub (ev x) (f y)) (hok : OkF kk f) :
  OpOk P pr ⟨d, .buildSlice t 1 #[(0, x)], ty, pos, af, g⟩ ev m (.lst kk ([y].map f)) m := by
 classical
 have hsub : ∀ z, Sub (ev z) ((fun z => if z = x then f y else ev z) z) := by
  intro z
  by_cases hz : z = x
  ·subst hz; simpa using hs
  ·simp only [hz, if_false]; exact Sub.rfl
 obtain ⟨lv, m', ⟨rfl, rfl⟩, h⟩ := LOp_sound (ro := []) (K := fun lv m' => lv = .lst kk ([y].map f) ∧ m' = m) (oBS (P := P) (pr := pr) (ev := fun z => if z = x then f y else ev z) (m := m) (d := d) (ty := ty) (pos := pos) (af := af) (g := g) (n := 1) (ps := [(0, x)]) (ys := [y]) he hr hk hb rfl (by simp) hok ⟨rfl, rfl⟩)
 exact h.sub hsub
section
variable {α β γ : Type} {n : Nat} {v w : Option (α × List β)}
end
end Go.L
set_option linter.unusedVariables false
set_option linter.unusedSimpArgs false
namespace Go.L
section
variable {P : Program} {N : Nat} {pr : Nat → Prop} {ev : Operand → LV} {m m' : Mem} {d : Option Nat} {x y z : Operand} {t ty : TypeId} {pos : String} {af : Array Edge} {gd : Option (Nat × Bool)} {lv : LV} {α β : Type} {f : α → LV} {g : β → LV} {e0 k id n : Nat} {os : List (Nat × Nat × Nat)} {xs : List α} {u : Int} {z0 : α} {cs : List LV} {o0 : Nat}
theorem OpOk.mem {o : Oper} {m2 : Mem} (h : OpOk P pr o ev m lv m') (hs : ∀ c, RepM c m' → RepM c m2) : OpOk P pr o ev m lv m2 := by
 intro c a Q hev hm
 refine Oper.wp_mono ?_ (h c a Q hev hm)
 rintro a' w' ⟨v, c', h1, h2, h3, h4, h5⟩
 exact ⟨v, c', h1, h2, h3, hs c' h4, h5⟩
end
theorem RepM.subA {c : Cx} {m : Mem} {id e k : Nat} {xs ys : List LV} (hs : SubL xs ys) (hp : LV.pureL ys = true) (h : RepM c (m.put id (.arr e k xs))) : RepM c (m.put id (.arr e k ys)) := by
 refine ⟨fun i => ?_, h.inj, h.notO, h.Olt⟩
 have he := h.ent i
 by_cases hi : i = id
 ·subst hi
  simp only [Mem.put, if_true, RepE] at he ⊢
  obtain ⟨u, vs, h1, h2, h3, h4, h5, h6⟩ := he
  have hl : ys.length = xs.length := by rw [h4.length, (hs.rep h4).length]
  exact ⟨u, vs, by rw [hl]; exact h1, h2, by rw [hl]; exact h3, hs.rep h4, h5, hp⟩
 ·simp only [Mem.put, hi, if_false] at he ⊢
  exact he
theorem SubL.repl {x y : LV} (h : Sub x y) : ∀ n, SubL (List.replicate n x) (List.replicate n y)
 | 0 => trivial
 | n + 1 => ⟨h, SubL.repl h n⟩
end Go.L
set_option linter.unusedVariables false
set_option linter.unusedSimpArgs false
namespace Go.L
theorem Wk.ownBx {pr : Nat → Prop} {el : List (Nat × LV)} {ml : List (Nat × LE)} (id e k bid j : Nat) {cs cs' : List LV} (hid : Mem.of ml id = .none) (hk : Nat.ble 1 k = true) (hb : Mem.of ml bid = some (.box cs)) (hj : cs[j]? = some .nil) (hcs : cs.set j (.arr id 0) = cs') (hpr : ¬ pr id) :
  Wk pr (Env.of el) (Mem.of ml) (Env.of el) (((Mem.of ml).put id (.arr e k [])).put bid (.box cs')) := by
 intro N c a hrep
 have hne : bid ≠ id := fun h => by rw [h, hid] at hb; cases hb
 have hB := hrep.mem.fresh hid
 obtain ⟨c', hw, hb', h2, h3⟩ := hrep.mem.upd (pr := pr) id (.arr e k []) (.arr (.slice .none 0 0) k 0 []) c.w rfl rfl rfl (Nat.le_refl _) (Nat.le_refl _)
  (fun b _ _ => rfl) (fun b hb => by simp [BE.has, Value.ownBlock] at hb) (by rw [hB]; trivial) (fun h => absurd h hpr)
  (fun c' hw hle hble => by
   simp only [RepE]
   exact ⟨.slice .none 0 0, [], rfl, Nat.le_of_ble_eq_true hk, by rw [hw]; exact World.ownsRow_nil c.w 0 e k, by simp [RepL], by simp, by simp [LV.pureL]⟩)
 have hb2 : ((Mem.of ml).put id (.arr e k [])) bid = some (.box cs) := by simp only [Mem.put, hne, if_false]; exact hb
 obtain ⟨b, vs, e1, hBb, hh, hl, h1⟩ := cell_box h2 hb2
 have hset : ∀ (cs : List LV) (vs : List Value) (j : Nat), RepL c' cs vs → cs[j]? = some .nil → RepL c' (cs.set j (.arr id 0)) vs := by
  intro cs
  induction cs with
  | nil => intro vs j _ h; simp at h
  | cons x xs ih =>
   intro vs j hl hj
   simp only [RepL] at hl
   obtain ⟨v, vs', rfl, hv, hl'⟩ := hl
   cases j with
   | zero =>
    simp at hj; subst hj
    simp only [RepV] at hv
    simp only [List.set_cons_zero, RepL]
    refine ⟨v, vs', rfl, ?_, hl'⟩
    simp only [RepV]
    exact ⟨by rw [hv]; rfl, _, _, _, _, hb', Nat.le_refl _, fun _ => hv⟩
   | succ j =>
    simp only [List.set_cons_succ, RepL]
    exact ⟨v, vs', rfl, hv, ih vs' j hl' (by simpa using hj)⟩
 have hm2 := h2.re (cs' := cs') hb2 hBb hh (by rw [← hcs]; exact hset cs vs j hl hj) h1 (by rw [← hcs]; simp)
 exact ⟨c', hw, ⟨fun i => h3.repV (hrep.env i), hm2, hrep.size, hrep.defers⟩, h3.grow⟩
def AbsC (m : Mem) (os : List (Nat × Nat × Nat)) : Nat → List LV → List LV → List Nat → Prop
 | _, [], cs', S => cs' = [] ∧ S = []
 | o, x :: xs, cs', S => ∃ x' xs' S1 S2, cs' = x' :: xs' ∧ S = S1 ++ S2 ∧ AbsC m os (o + 1) xs xs' S2 ∧
   match os.lookup o with
   | .none => x' = x ∧ x.pure = true ∧ S1 = []
   | some (e, k) => (x = .nil ∧ 0 < k ∧ x' = .lst k [] ∧ S1 = []) ∨ ∃ id2 ys, x = .arr id2 ys.length ∧ m id2 = some (.arr e k ys) ∧ x' = .lst k ys ∧ S1 = [id2]
def blkOf : Option BE → List Nat
 | some (.arr u _ _ _) => u.ownBlock.toList
 | _ => []
def blks (c : Cx) (S : List Nat) : List Nat := S.flatMap fun j => blkOf (c.B j)
theorem AbsC.len {m : Mem} {os : List (Nat × Nat × Nat)} : ∀ {o : Nat} {cs cs' : List LV} {S : List Nat}, AbsC m os o cs cs' S → cs'.length = cs.length
 | _, [], _, _, h => by simp only [AbsC] at h; rw [h.1]
 | o, x :: xs, cs', S, h => by
  simp only [AbsC] at h
  obtain ⟨x', xs', S1, S2, rfl, rfl, h1, h2⟩ := h
  simp [h1.len]
theorem AbsC.rep {c c' : Cx} {m : Mem} (hM : RepM c m) (hle : c.Le c') {os : List (Nat × Nat × Nat)} : ∀ {o : Nat} {cs cs' : List LV} {S : List Nat} {ws : List Value}, AbsC m os o cs cs' S → RepL c cs ws → (∀ b ∈ blks c S, c'.w.heap[b]? = c.w.heap[b]?) → RepC c' os o cs' ws (blks c S)
 | _, [], _, _, ws, h, hl, _ => by
  simp only [AbsC] at h
  obtain ⟨rfl, rfl⟩ := h
  simp only [RepL] at hl
  simp only [RepC]; exact ⟨hl, by simp [blks]⟩
 | o, x :: xs, cs', S, ws, h, hl, hh => by
  simp only [AbsC] at h
  obtain ⟨x', xs', S1, S2, rfl, rfl, h1, h2⟩ := h
  simp only [RepL] at hl
  obtain ⟨w, ws', rfl, hw, hl'⟩ := hl
  have hb : blks c (S1 ++ S2) = blks c S1 ++ blks c S2 := by simp [blks]
  rw [hb] at hh ⊢
  simp only [RepC]
  refine ⟨w, ws', blks c S1, blks c S2, rfl, rfl, ?_, AbsC.rep hM hle h1 hl' (fun b hb => hh b (by simp [hb]))⟩
  unfold CellN
  split at h2
  ·rename_i hlk
   obtain ⟨rfl, hp, rfl⟩ := h2
   rw [hlk]
   exact ⟨RepV.mono hle _ w (fun id hid => by rw [noref_of_pure _ hp] at hid; cases hid) hw, hp, by simp [blks]⟩
  ·rename_i e k hlk
   rw [hlk]
   rcases h2 with ⟨rfl, hk, rfl, rfl⟩ | ⟨id2, ys, rfl, hm, rfl, rfl⟩
   ·simp only [RepV] at hw
    subst hw
    exact .inr ⟨[], [], rfl, hk, World.ownsRow_nil c'.w 0 e k, by simp [RepL], by simp, rfl, by simp [blks, Value.ownBlock]⟩
   ·obtain ⟨us, hB, hk, hown, hrl, hc, hp⟩ := arr_now hM hw hm rfl
    refine .inr ⟨ys, us, rfl, hk, ownsRow_same hown (fun b hb => hh b ?_), RepL.mono hle ys us (fun j hj => by rw [norefL_of_pureL ys hp] at hj; cases hj) hrl, hc, hp, by simp [blks, hB, blkOf]⟩
    simp [blks, hB, blkOf, hb]
section
variable {P : Program} {N : Nat} {pr : Nat → Prop} {ev : Operand → LV} {m m' : Mem} {d : Option Nat} {x y z : Operand} {t ty : TypeId} {pos : String} {af : Array Edge} {gd : Option (Nat × Bool)} {lv : LV} {α β : Type} {f : α → LV} {g : β → LV} {e0 k id n : Nat} {os : List (Nat × Nat × Nat)}
end
end Go.L
set_option linter.unusedVariables false
set_option linter.unusedSimpArgs false
namespace Go.L
theorem Sub.lst {k : Nat} {xs ys : List LV} (h : SubL xs ys) (hp : LV.pureL ys = true) : Sub (.lst k xs) (.lst k ys) := fun c v hv => by
 simp only [RepV] at hv ⊢
 obtain ⟨a, cap, rfl, h1, h2, h3, h4⟩ := hv
 have hl : ∀ {xs ys : List LV}, SubL xs ys → xs.length = ys.length := by
  intro xs
  induction xs with
  | nil => intro ys h; cases ys with
   | nil => rfl
   | cons y ys => cases h
  | cons x xs ih => intro ys h; cases ys with
   | nil => cases h
   | cons y ys => simp [ih h.2]
 refine ⟨a, cap, by rw [hl h], by rw [← hl h]; exact h1, h2, hp, ?_⟩
 rcases h4 with rfl | ⟨b, off, vs, q1, q2, q3, q4, q5⟩
 ·left; exact List.eq_nil_of_length_eq_zero (by rw [← hl h]; rfl)
 ·exact .inr ⟨b, off, vs, q1, q2, q3, h.rep q4, q5⟩
section
variable {P : Program} {N : Nat} {pr : Nat → Prop} {ev : Operand → LV} {m m' : Mem} {d : Option Nat} {x y z : Operand} {t ty : TypeId} {pos : String} {af : Array Edge} {gd : Option (Nat × Bool)} {lv : LV} {α β : Type} {f : α → LV} {g : β → LV} {e0 k id n : Nat} {os : List (Nat × Nat × Nat)} {xs : List α} {u : Int} {z0 : α} {cs : List LV} {o0 : Nat}
theorem OpOk.res {o : Oper} {lv' : LV} (h : OpOk P pr o ev m lv m') (hs : Sub lv lv') : OpOk P pr o ev m lv' m' := by
 intro c a Q hev hm
 refine Oper.wp_mono ?_ (h c a Q hev hm)
 rintro a' w' ⟨v, c', h1, h2, h3, h4, h5⟩
 exact ⟨v, c', h1, h2, hs c' v h3, h4, h5⟩
theorem ok_mkS {i el kk : Nat} {zc : LV} {z : α} {r : List α} (hi : 100 + i = id) (he : telem P t = some el) (hz : tzero P el = some zc) (hr : trow P el = true) (hk : tsize P el = kk) (hx : ev x = .int .i64 u) (hy : ev y = .int .i64 u) (hp : zc.pure = true) (hs : Sub zc (f z)) (hok : OkF kk f) (hl : mkl z u = some r) (hf : m id = .none) :
  OpOk P pr ⟨some i, .makeSlice t x y, ty, pos, af, gd⟩ ev m (.arr id r.length) (m.put id (.arr el kk (r.map f))) := by
 have hl' : mkl zc u = some (List.replicate r.length zc) := by
  unfold mkl at hl ⊢
  split at hl
  ·rename_i h0; cases hl; simp [h0]
  ·cases hl
 have hrr : r = List.replicate r.length z := by
  unfold mkl at hl
  split at hl
  ·cases hl; simp
  ·cases hl
 obtain ⟨lv, m', ⟨rfl, rfl⟩, h⟩ := LOp_sound (ro := []) (K := fun lv m' => lv = .arr id r.length ∧ m' = m.put id (.arr el kk ((List.replicate r.length zc).map fun x => x))) (P := P) (pr := pr) (o := ⟨some i, .makeSlice t x y, ty, pos, af, gd⟩) (ev := ev) (m := m)
  (oMk (f := fun x : LV => x) hi he hz hr hk hx hy hp hl' hf ⟨by simp, rfl⟩)
 refine h.mem fun c hc => ?_
 have hsub : SubL ((List.replicate r.length zc).map fun x => x) (r.map f) := by
  rw [List.map_id']
  conv => rhs; rw [hrr]
  rw [List.map_replicate]
  exact SubL.repl hs _
 exact RepM.subA hsub (hok.pureL r) hc
end
def SubN (os : List (Nat × Nat × Nat)) : Nat → List LV → List LV → Prop
 | _, [], ys => ys = []
 | o, x :: xs, ys => ∃ y ys', ys = y :: ys' ∧ SubN os (o + 1) xs ys' ∧ match os.lookup o with
   | some _ => y = x
   | .none => Sub x y ∧ y.pure = true
theorem SubN.rep {c : Cx} {os : List (Nat × Nat × Nat)} : ∀ {o : Nat} {xs ys : List LV} {ws : List Value} {bs : List Nat}, SubN os o xs ys → RepC c os o xs ws bs → RepC c os o ys ws bs
 | _, [], ys, ws, bs, h, hr => by simp only [SubN] at h; subst h; exact hr
 | o, x :: xs, ys, ws, bs, h, hr => by
  simp only [SubN] at h
  obtain ⟨y, ys', rfl, h1, h2⟩ := h
  simp only [RepC] at hr ⊢
  obtain ⟨w, ws', b1, b2, rfl, rfl, h3, h4⟩ := hr
  refine ⟨w, ws', b1, b2, rfl, rfl, ?_, SubN.rep h1 h4⟩
  unfold CellN at h3 ⊢
  split at h2
  ·rename_i p hl
   obtain ⟨e, k⟩ := p
   rw [hl] at h3 ⊢
   subst h2; exact h3
  ·rename_i hl
   rw [hl] at h3 ⊢
   exact ⟨h2.1 c w h3.1, h2.2, h3.2.2⟩
theorem RepN.sub {c : Cx} {os : List (Nat × Nat × Nat)} {xs ys : List LV} (hs : SubN os 0 xs ys) : ∀ {n : Nat} {vs : List Value} {bs : List Nat}, RepN c os (List.replicate n (.agg xs)) vs bs → RepN c os (List.replicate n (.agg ys)) vs bs
 | 0, vs, bs, h => by simpa only [List.replicate_zero, RepN] using h
 | n + 1, vs, bs, h => by
  simp only [List.replicate_succ, RepN] at h ⊢
  obtain ⟨v, vs', b1, b2, rfl, rfl, ⟨cs, ws, he, hv, hc⟩, h2⟩ := h
  cases he
  exact ⟨v, vs', b1, b2, rfl, rfl, ⟨ys, ws, rfl, hv, hs.rep hc⟩, RepN.sub hs h2⟩
theorem OpOkR.mem {P : Program} {pr : Nat → Prop} {ev : Operand → LV} {m m' m2 : Mem} {lv : LV} {o : Oper} (h : OpOkR P pr o ev m lv m') (hs : ∀ c, RepM c m' → RepM c m2) : OpOkR P pr o ev m lv m2 := by
 intro c a Q hev hm
 refine Oper.wp_mono ?_ (h c a Q hev hm)
 rintro a' w' ⟨v, c', h1, h2, h3, h4, h5⟩
 exact ⟨v, c', h1, h2, h3, hs c' h4, h5⟩
theorem LCall.frz {P : Program} {fn : Nat} {args : List LV} {α : Type} {f : α → LV} {id n e k : Nat} {xs : List α} (h : LCall P fn args (Mem.of []) (.arr id n) (Mem.of [(id, .arr e k (xs.map f))])) (hn : n = xs.length) : LCall P fn args (Mem.of []) (.lst k (xs.map f)) (Mem.of []) := by
 intro c vs hM hv
 refine (h c vs hM hv).mono ?_
 rintro en w' ⟨v, c1, rfl, rfl, hm1, hr, hg⟩
 obtain ⟨us, hB, hk, hown, hl, hc, hp⟩ := arr_now (e := e) (k := k) (xs := xs.map f) hm1 hr (by simp [Mem.of]) (by simpa using hn)
 obtain ⟨c', hw, hO, hm', hV, hown', hX, hB'⟩ := hm1.del id (by
  intro i ds hi hd
  simp [Mem.of, hi] at hd)
 have hle : c1.Le c' := ⟨by rw [hw]; exact Nat.le_refl _, fun b _ hx => ⟨by rw [hw], fun hx' => hx (hx'.imp (fun h => by rw [hO] at h; exact h) (hown' b))⟩⟩
 have hmm : (Mem.of [(id, .arr e k (xs.map f))]).del id = Mem.of [] := by
  funext i
  simp only [Mem.del, Mem.of]
  by_cases hi : i = id <;> simp [hi]
 rw [hmm] at hm'
 refine ⟨v, c', rfl, hw, hm', ?_, ?_⟩
 ·simp only [RepV]
  have hl' := RepL.mono hle (xs.map f) us (fun j hj => by rw [norefL_of_pureL _ hp] at hj; cases hj) hl
  rcases hown.2 with ⟨rfl, h0⟩ | ⟨g, cap, cur, rfl, _, hg', hnc, _⟩
  ·exact ⟨.none, 0, by rw [h0], by omega, fun _ => rfl, hp, .inl (List.eq_nil_of_length_eq_zero h0)⟩
  ·refine ⟨some ⟨g, 0, .none⟩, cap, rfl, hnc, by simp, hp, .inr ⟨g, 0, us, rfl, by rw [hw]; exact (Array.getElem?_eq_some_iff.1 hg').1, hX g _ hB (.inl rfl), hl', hc, ?_⟩⟩
   rw [hw]; exact rangeAt_own hown rfl
 ·refine hg.trans ⟨hO, by rw [hw], by rw [hw], by rw [hw], by rw [hw]; exact Nat.le_refl _, by rw [hw]; exact Nat.le_refl _, fun b _ _ => by rw [hw], fun b ho => .inl (hown' b ho), fun i be hpi hb => ?_⟩
  simp [Mem.of] at hpi
theorem mD {P : Program} {pr : Nat → Prop} {ro : List Nat} {ops : Array Oper} {l : List Oper} {mds : List Nat} {KE : Env → Mem → Prop} {e : Env} {m : Mem} {lv : LV} {le : LE} {i md id : Nat} {op : Op} {ty : TypeId} {pos : String} {af : Array Edge} (hid : mdom md = id) (hmd : isR md = true) (hm : m id = some le) (h : DomR P pr ro ⟨some i, op, ty, pos, af, .none⟩ (lev e) id le lv) (hr : LOpsM P pr ro ops (List.zip l mds) KE (e.put i lv) m) : LOpsM P pr ro ops (List.zip (⟨some i, op, ty, pos, af, .none⟩ :: l) (md :: mds)) KE e m := by
 subst hid
 have h1 : 1000 ≤ md ∧ md < 100000 := by simpa [isR] using hmd
 show LStepM P pr ro ops md _ _ e m
 unfold LStepM
 have hg : Go.L.gd ops ⟨some i, op, ty, pos, af, .none⟩ e = some true := rfl
 rw [hg]
 simp only
 split
 ·omega
 ·omega
 ·omega
 ·omega
 ·rw [if_neg (by omega), if_pos h1.2]
  exact ⟨lv, le, hm, h, hr⟩
theorem mW {P : Program} {pr : Nat → Prop} {ro : List Nat} {ops : Array Oper} {l : List Oper} {mds : List Nat} {KE : Env → Mem → Prop} {e : Env} {m : Mem} {lv : LV} {le le' : LE} {i md id : Nat} {op : Op} {ty : TypeId} {pos : String} {af : Array Edge} (hid : mdom md = id) (hmd : Nat.ble 100000 md = true) (hm : m id = some le) (h : DomW P pr ro ⟨some i, op, ty, pos, af, .none⟩ (lev e) id le le' lv) (hr : LOpsM P pr ro ops (List.zip l mds) KE (e.put i lv) (m.over (Mem.of [(id, le')]))) : LOpsM P pr ro ops (List.zip (⟨some i, op, ty, pos, af, .none⟩ :: l) (md :: mds)) KE e m := by
 subst hid
 have h1 : 100000 ≤ md := by simpa using hmd
 show LStepM P pr ro ops md _ _ e m
 unfold LStepM
 have hg : Go.L.gd ops ⟨some i, op, ty, pos, af, .none⟩ e = some true := rfl
 rw [hg]
 simp only
 split
 ·omega
 ·omega
 ·omega
 ·omega
 ·rw [if_neg (by omega), if_neg (by omega)]
  exact ⟨lv, le, le', hm, h, hr⟩
theorem mS {P : Program} {pr : Nat → Prop} {ro : List Nat} {ops : Array Oper} {l : List Oper} {mds : List Nat} {KE : Env → Mem → Prop} {e : Env} {m : Mem} {lv : LV} {le le' : LE} {md id : Nat} {op : Op} {ty : TypeId} {pos : String} {af : Array Edge} (hid : mdom md = id) (hmd : Nat.ble 100000 md = true) (hm : m id = some le) (h : ∀ m0 : Mem, m0 id = some le → ∀ K' : LV → Mem → Prop, K' lv (m0.put id le') → LOp P pr ro ⟨.none, op, ty, pos, af, .none⟩ (lev e) m0 K') (hr : LOpsM P pr ro ops (List.zip l mds) KE e (m.put id le')) : LOpsM P pr ro ops (List.zip (⟨.none, op, ty, pos, af, .none⟩ :: l) (md :: mds)) KE e m := by
 subst hid
 have h1 : 100000 ≤ md := by simpa using hmd
 show LStepM P pr ro ops md _ _ e m
 unfold LStepM
 have hg : Go.L.gd ops ⟨.none, op, ty, pos, af, .none⟩ e = some true := rfl
 rw [hg]
 simp only
 split
 ·omega
 ·omega
 ·omega
 ·omega
 ·rw [if_neg (by omega), if_neg (by omega)]
  refine ⟨lv, le, le', hm, fun m0 h0 K' hK => h m0 h0 K' (by rw [← over_one]; exact hK), ?_⟩
  rw [over_one]; exact hr
theorem mM {P : Program} {pr : Nat → Prop} {ro : List Nat} {ops : Array Oper} {l : List Oper} {mds : List Nat} {KE : Env → Mem → Prop} {e : Env} {m : Mem} {lv : LV} {i : Nat} {op : Op} {ty : TypeId} {pos : String} {af : Array Edge} (h : ∀ m0, OpOkR P pr ⟨some i, op, ty, pos, af, .none⟩ (lev e) m0 lv m0) (hr : LOpsM P pr ro ops (List.zip l mds) KE (e.put i lv) m) : LOpsM P pr ro ops (List.zip (⟨some i, op, ty, pos, af, .none⟩ :: l) (4 :: mds)) KE e m := ⟨lv, h, hr⟩
def Env.look (e : Env) : List (Nat × LV) → List (Nat × LV)
 | [] => []
 | (i, _) :: r => (i, e i) :: Env.look e r
def Mem.look (m : Mem) : List (Nat × LE) → List (Nat × Option LE)
 | [] => []
 | (i, _) :: r => (i, m i) :: Mem.look m r
def LEs : List (Nat × LE) → List (Nat × Option LE)
 | [] => []
 | (i, x) :: r => (i, some x) :: LEs r
theorem look_eq {e : Env} : ∀ {el : List (Nat × LV)}, Env.look e el = el → EnvEq e el
 | [], _ => trivial
 | (i, v) :: r, h => by
  simp only [Env.look, List.cons.injEq, Prod.mk.injEq, true_and] at h
  exact ⟨h.1, look_eq h.2⟩
theorem mlook_eq {m : Mem} : ∀ {ml : List (Nat × LE)}, Mem.look m ml = LEs ml → MemIs m ml
 | [], _ => trivial
 | (i, v) :: r, h => by
  simp only [Mem.look, LEs, List.cons.injEq, Prod.mk.injEq, true_and] at h
  exact ⟨h.1, mlook_eq h.2⟩
theorem Wk.eq {ml0 ml : List (Nat × LE)} {el : List (Nat × LV)} {e : Env} {m : Mem} (he : Env.look e el = el) (hm : Mem.look m ml = LEs ml) (hr : keptRefs (el.map fun p => (p.1, e p.1)) ml = true) (hpr : (ml0.all fun p => ml.any fun q => q.1 == p.1) = true) : Wk (fun id => Mem.of ml0 id ≠ .none) e m (Env.of el) (Mem.of ml) := Wk.to (eQ (look_eq he)) (mlook_eq hm) hr (prK hpr)
theorem zS {P : Program} {N : Nat} {ops : Array Oper} {ml0 ml : List (Nat × LE)} {el : List (Nat × LV)} {e : Env} {m : Mem} (he : Env.look e el = el := by exact rfl) (hm : Mem.look m ml = LEs ml := by exact rfl) (hr : keptRefs (el.map fun p => (p.1, e p.1)) ml = true := by exact rfl) (hpr : (ml0.all fun p => ml.any fun q => q.1 == p.1) = true := by exact rfl) : SOps P N (fun id => Mem.of ml0 id ≠ .none) ops [] (fun e m => Wk (fun id => Mem.of ml0 id ≠ .none) e m (Env.of el) (Mem.of ml)) e m := s0 (Wk.eq he hm hr hpr)
theorem zM {P : Program} {ro : List Nat} {ops : Array Oper} {ml0 ml : List (Nat × LE)} {el : List (Nat × LV)} {e : Env} {m : Mem} (he : Env.look e el = el := by exact rfl) (hm : Mem.look m ml = LEs ml := by exact rfl) (hr : keptRefs (el.map fun p => (p.1, e p.1)) ml = true := by exact rfl) (hpr : (ml0.all fun p => ml.any fun q => q.1 == p.1) = true := by exact rfl) : LOpsM P (fun id => Mem.of ml0 id ≠ .none) ro ops (List.zip [] []) (fun e m => Wk (fun id => Mem.of ml0 id ≠ .none) e m (Env.of el) (Mem.of ml)) e m := m0 (Wk.eq he hm hr hpr)
theorem R {α : Type} {a : α} : a = a := rfl
theorem aT {α : Type} {a b : Array α} (h : a = b) : a.toList = b.toList := congrArg Array.toList h
theorem oI {α : Type} {a b : α} (h : some a = some b) : a = b := Option.some.inj h
theorem nT {a b n : Nat} (h : n = b) (h2 : Nat.ble a b = true) : a ≤ n := by rw [h]; exact Nat.le_of_ble_eq_true h2
theorem cB {a b : Bool} (h : a = b) : LV.bool a = LV.bool b := congrArg LV.bool h
theorem roundI {pr : Nat → Prop} {I : Nat → Env → Mem → Prop} {n : Nat} {Q : Exit → Env → Mem → Prop} {e e' : Env} {m m' : Mem} (h : I n e' m') (hw : Wk pr e m e' m') : roundQ pr I (n + 1) Q .normal e m := roundN hw h
section
variable {P : Program} {N : Nat} {pr : Nat → Prop} {ops : Array Oper} {l : List Oper} {KE : Env → Mem → Prop} {e : Env} {m : Mem} {i : Nat} {x : Operand} {ty : TypeId} {pos : String} {af : Array Edge}
theorem sMi {k : IntKind} {n : Int} (h : lev e x = (.int k n)) (hr : SOps P N pr ops l KE (e.put i (.int k n)) m) : SOps P N pr ops (⟨some i, .move x, ty, pos, af, .none⟩ :: l) KE e m := sN (oM h hr)
theorem sMb {b : Bool} (h : lev e x = (.bool b)) (hr : SOps P N pr ops l KE (e.put i (.bool b)) m) : SOps P N pr ops (⟨some i, .move x, ty, pos, af, .none⟩ :: l) KE e m := sN (oM h hr)
theorem sMl {k : Nat} {xs : List LV} (h : lev e x = (.lst k xs)) (hr : SOps P N pr ops l KE (e.put i (.lst k xs)) m) : SOps P N pr ops (⟨some i, .move x, ty, pos, af, .none⟩ :: l) KE e m := sN (oM h hr)
theorem sMa {id n : Nat} (h : lev e x = (.arr id n)) (hr : SOps P N pr ops l KE (e.put i (.arr id n)) m) : SOps P N pr ops (⟨some i, .move x, ty, pos, af, .none⟩ :: l) KE e m := sN (oM h hr)
theorem sMp {id o : Nat} (h : lev e x = (.ptr id o)) (hr : SOps P N pr ops l KE (e.put i (.ptr id o)) m) : SOps P N pr ops (⟨some i, .move x, ty, pos, af, .none⟩ :: l) KE e m := sN (oM h hr)
theorem sMt {cs : List LV} (h : lev e x = (.tup cs)) (hr : SOps P N pr ops l KE (e.put i (.tup cs)) m) : SOps P N pr ops (⟨some i, .move x, ty, pos, af, .none⟩ :: l) KE e m := sN (oM h hr)
theorem sAi {k : IntKind} {n : Int} (h : lev e x = (.int k n)) (hr : SOps P N pr ops l KE (e.put i (.int k n)) m) : SOps P N pr ops (⟨some i, .assign x, ty, pos, af, .none⟩ :: l) KE e m := sN (oA h hr)
theorem sAb {b : Bool} (h : lev e x = (.bool b)) (hr : SOps P N pr ops l KE (e.put i (.bool b)) m) : SOps P N pr ops (⟨some i, .assign x, ty, pos, af, .none⟩ :: l) KE e m := sN (oA h hr)
theorem sAn  (h : lev e x = .nil) (hr : SOps P N pr ops l KE (e.put i .nil) m) : SOps P N pr ops (⟨some i, .assign x, ty, pos, af, .none⟩ :: l) KE e m := sN (oA h hr)
theorem sAl {k : Nat} {xs : List LV} (h : lev e x = (.lst k xs)) (hr : SOps P N pr ops l KE (e.put i (.lst k xs)) m) : SOps P N pr ops (⟨some i, .assign x, ty, pos, af, .none⟩ :: l) KE e m := sN (oA h hr)
theorem sAa {id n : Nat} (h : lev e x = (.arr id n)) (hr : SOps P N pr ops l KE (e.put i (.arr id n)) m) : SOps P N pr ops (⟨some i, .assign x, ty, pos, af, .none⟩ :: l) KE e m := sN (oA h hr)
theorem sAp {id o : Nat} (h : lev e x = (.ptr id o)) (hr : SOps P N pr ops l KE (e.put i (.ptr id o)) m) : SOps P N pr ops (⟨some i, .assign x, ty, pos, af, .none⟩ :: l) KE e m := sN (oA h hr)
end
section
variable {P : Program} {pr : Nat → Prop} {ro : List Nat} {ops : Array Oper} {l : List Oper} {mds : List Nat} {KE : Env → Mem → Prop} {e : Env} {m : Mem} {i : Nat} {x : Operand} {ty : TypeId} {pos : String} {af : Array Edge}
theorem mMi {k : IntKind} {n : Int} (h : lev e x = (.int k n)) (hr : LOpsM P pr ro ops (List.zip l mds) KE (e.put i (.int k n)) m) : LOpsM P pr ro ops (List.zip (⟨some i, .move x, ty, pos, af, .none⟩ :: l) (0 :: mds)) KE e m := mN0 (oM h ⟨rfl, hr⟩)
theorem mAi {k : IntKind} {n : Int} (h : lev e x = (.int k n)) (hr : LOpsM P pr ro ops (List.zip l mds) KE (e.put i (.int k n)) m) : LOpsM P pr ro ops (List.zip (⟨some i, .assign x, ty, pos, af, .none⟩ :: l) (0 :: mds)) KE e m := mN0 (oA h ⟨rfl, hr⟩)
theorem mMb {b : Bool} (h : lev e x = (.bool b)) (hr : LOpsM P pr ro ops (List.zip l mds) KE (e.put i (.bool b)) m) : LOpsM P pr ro ops (List.zip (⟨some i, .move x, ty, pos, af, .none⟩ :: l) (0 :: mds)) KE e m := mN0 (oM h ⟨rfl, hr⟩)
theorem mAb {b : Bool} (h : lev e x = (.bool b)) (hr : LOpsM P pr ro ops (List.zip l mds) KE (e.put i (.bool b)) m) : LOpsM P pr ro ops (List.zip (⟨some i, .assign x, ty, pos, af, .none⟩ :: l) (0 :: mds)) KE e m := mN0 (oA h ⟨rfl, hr⟩)
theorem mMn  (h : lev e x = .nil) (hr : LOpsM P pr ro ops (List.zip l mds) KE (e.put i .nil) m) : LOpsM P pr ro ops (List.zip (⟨some i, .move x, ty, pos, af, .none⟩ :: l) (0 :: mds)) KE e m := mN0 (oM h ⟨rfl, hr⟩)
theorem mAn  (h : lev e x = .nil) (hr : LOpsM P pr ro ops (List.zip l mds) KE (e.put i .nil) m) : LOpsM P pr ro ops (List.zip (⟨some i, .assign x, ty, pos, af, .none⟩ :: l) (0 :: mds)) KE e m := mN0 (oA h ⟨rfl, hr⟩)
theorem mMl {k : Nat} {xs : List LV} (h : lev e x = (.lst k xs)) (hr : LOpsM P pr ro ops (List.zip l mds) KE (e.put i (.lst k xs)) m) : LOpsM P pr ro ops (List.zip (⟨some i, .move x, ty, pos, af, .none⟩ :: l) (0 :: mds)) KE e m := mN0 (oM h ⟨rfl, hr⟩)
theorem mAl {k : Nat} {xs : List LV} (h : lev e x = (.lst k xs)) (hr : LOpsM P pr ro ops (List.zip l mds) KE (e.put i (.lst k xs)) m) : LOpsM P pr ro ops (List.zip (⟨some i, .assign x, ty, pos, af, .none⟩ :: l) (0 :: mds)) KE e m := mN0 (oA h ⟨rfl, hr⟩)
theorem mMa {id n : Nat} (h : lev e x = (.arr id n)) (hr : LOpsM P pr ro ops (List.zip l mds) KE (e.put i (.arr id n)) m) : LOpsM P pr ro ops (List.zip (⟨some i, .move x, ty, pos, af, .none⟩ :: l) (0 :: mds)) KE e m := mN0 (oM h ⟨rfl, hr⟩)
theorem mAa {id n : Nat} (h : lev e x = (.arr id n)) (hr : LOpsM P pr ro ops (List.zip l mds) KE (e.put i (.arr id n)) m) : LOpsM P pr ro ops (List.zip (⟨some i, .assign x, ty, pos, af, .none⟩ :: l) (0 :: mds)) KE e m := mN0 (oA h ⟨rfl, hr⟩)
theorem mMp {id o : Nat} (h : lev e x = (.ptr id o)) (hr : LOpsM P pr ro ops (List.zip l mds) KE (e.put i (.ptr id o)) m) : LOpsM P pr ro ops (List.zip (⟨some i, .move x, ty, pos, af, .none⟩ :: l) (0 :: mds)) KE e m := mN0 (oM h ⟨rfl, hr⟩)
theorem mAp {id o : Nat} (h : lev e x = (.ptr id o)) (hr : LOpsM P pr ro ops (List.zip l mds) KE (e.put i (.ptr id o)) m) : LOpsM P pr ro ops (List.zip (⟨some i, .assign x, ty, pos, af, .none⟩ :: l) (0 :: mds)) KE e m := mN0 (oA h ⟨rfl, hr⟩)
theorem mMs {cs : List LV} (h : lev e x = (.sptr cs)) (hr : LOpsM P pr ro ops (List.zip l mds) KE (e.put i (.sptr cs)) m) : LOpsM P pr ro ops (List.zip (⟨some i, .move x, ty, pos, af, .none⟩ :: l) (0 :: mds)) KE e m := mN0 (oM h ⟨rfl, hr⟩)
theorem mAs {cs : List LV} (h : lev e x = (.sptr cs)) (hr : LOpsM P pr ro ops (List.zip l mds) KE (e.put i (.sptr cs)) m) : LOpsM P pr ro ops (List.zip (⟨some i, .assign x, ty, pos, af, .none⟩ :: l) (0 :: mds)) KE e m := mN0 (oA h ⟨rfl, hr⟩)
theorem mMg {cs : List LV} (h : lev e x = (.agg cs)) (hr : LOpsM P pr ro ops (List.zip l mds) KE (e.put i (.agg cs)) m) : LOpsM P pr ro ops (List.zip (⟨some i, .move x, ty, pos, af, .none⟩ :: l) (0 :: mds)) KE e m := mN0 (oM h ⟨rfl, hr⟩)
theorem mAg {cs : List LV} (h : lev e x = (.agg cs)) (hr : LOpsM P pr ro ops (List.zip l mds) KE (e.put i (.agg cs)) m) : LOpsM P pr ro ops (List.zip (⟨some i, .assign x, ty, pos, af, .none⟩ :: l) (0 :: mds)) KE e m := mN0 (oA h ⟨rfl, hr⟩)
theorem mMt {cs : List LV} (h : lev e x = (.tup cs)) (hr : LOpsM P pr ro ops (List.zip l mds) KE (e.put i (.tup cs)) m) : LOpsM P pr ro ops (List.zip (⟨some i, .move x, ty, pos, af, .none⟩ :: l) (0 :: mds)) KE e m := mN0 (oM h ⟨rfl, hr⟩)
theorem mAt {cs : List LV} (h : lev e x = (.tup cs)) (hr : LOpsM P pr ro ops (List.zip l mds) KE (e.put i (.tup cs)) m) : LOpsM P pr ro ops (List.zip (⟨some i, .assign x, ty, pos, af, .none⟩ :: l) (0 :: mds)) KE e m := mN0 (oA h ⟨rfl, hr⟩)
theorem mMf {k : Nat} {cs : List LV} (h : lev e x = (.fn k cs)) (hr : LOpsM P pr ro ops (List.zip l mds) KE (e.put i (.fn k cs)) m) : LOpsM P pr ro ops (List.zip (⟨some i, .move x, ty, pos, af, .none⟩ :: l) (0 :: mds)) KE e m := mN0 (oM h ⟨rfl, hr⟩)
theorem mAf {k : Nat} {cs : List LV} (h : lev e x = (.fn k cs)) (hr : LOpsM P pr ro ops (List.zip l mds) KE (e.put i (.fn k cs)) m) : LOpsM P pr ro ops (List.zip (⟨some i, .assign x, ty, pos, af, .none⟩ :: l) (0 :: mds)) KE e m := mN0 (oA h ⟨rfl, hr⟩)
end
structure FnV (α : Type) where
 f : Nat
 c : List LV
 m : Option α
 hc : LV.pureL c = true
instance {α : Type} : Inhabited (FnV α) := ⟨⟨0, [], .none, rfl⟩⟩
theorem FnV.refs {α : Type} (x : FnV α) : LV.refsL x.c = [] := refsL_pure x.hc
end Go.L
set_option linter.unusedVariables false
set_option linter.unusedSimpArgs false
namespace Go.L
variable {P : Program} {d : Nat} {t : TypeId}
def EqRun (P : Program) (d : Nat) (t : TypeId) (v u : Value) (b : Bool) : Prop := ∀ w, (Op.equalIn d t v u).run P w = .ok b w
def EqFs (P : Program) (d : Nat) (xs ys : Array Value) (fs : List Field) (b : Bool) : Prop := ∀ w, (Op.eqFields d xs ys fs).run P w = .ok b w
theorem eqI {k : IntKind} {a b : Int} (h : P.underlying t = some (.int k)) : EqRun P (d + 1) t (.int k a) (.int k b) (a == b) := fun w => run_equalIn_int w d t k k a b h
theorem eqS {xs ys : Array Value} {b : Bool} (hS : P.underlying t = some (.struct (P.fieldsOf t))) (hp : P.stoodInHeld t = false) (h : EqFs P d xs ys (P.fieldsOf t).toList b) : EqRun P (d + 1) t (.agg xs) (.agg ys) b := fun w => (run_equalIn_agg w d t xs ys hS hp).trans (h w)
theorem eqN {xs ys : Array Value} : EqFs P d xs ys [] true := fun w => by simp [Op.eqFields]
theorem eqC {xs ys : Array Value} {f : Field} {fs : List Field} {v u : Value} {b c : Bool} (hn : (f.name != "_") = true) (hv : ∀ w, (part f.type xs f.offset).run P w = .ok v w) (hu : ∀ w, (part f.type ys f.offset).run P w = .ok u w) (he : EqRun P d f.type v u b) (hr : EqFs P d xs ys fs c) : EqFs P d xs ys (f :: fs) (b && c) := fun w => by
 have hn' : f.name ≠ "_" := by simpa using hn
 simp only [Op.eqFields, hn', ne_eq, not_false_eq_true, if_true, Sem.run_bind, hv, hu, Result.andThen_ok, he w, Sem.run_ite]
 cases b with
 | false => simp
 | true => simp [hr w]
theorem eqT {xs ys : List LV} {vs us : List Value} {b c : Bool} (hg : P.eqGuardType P.depth t = false) (hx : exactL xs = some vs) (hy : exactL ys = some us) (h : EqRun P Op.maxDepth t (.agg vs.toArray) (.agg us.toArray) b) (hc : b = c) : AggEq P t xs ys c := ⟨hg, vs, us, hx, hy, fun w => hc ▸ h w⟩
end Go.L
set_option linter.unusedVariables false
set_option linter.unusedSimpArgs false
namespace Go.L
section
variable {P : Program} {pr : Nat → Prop} {m m' : Mem} {lv : LV} {o : Oper} {e : Env} {ev : Operand → LV}
def Env.only (e : Env) (sl : List Nat) : Env := fun i => if sl.contains i then e i else .und
theorem OpOk.toR (sl : List Nat) (hs : ∀ i ∈ sl, Operand.tmp i ∈ o.op.operands) (h : OpOk P pr o (lev (e.only sl)) m lv m') : OpOkR P pr o (lev e) m lv m' := by
 intro c a Q hev hm
 refine h c a Q (fun x => ?_) hm
 cases x with
 | tmp t =>
  simp only [lev, Env.only]
  by_cases ht : sl.contains t = true
  ·simp only [ht, if_true]; exact hev (.tmp t) (hs t (by simpa using ht))
  ·simp only [ht, if_false, RepV]; simp [RepV]
 | const v => exact repV_ofV c v
 | global g => simp [lev, RepV]
 | func f => simp only [lev, Act.eval, RepV]; exact ⟨[], rfl, by simp [RepL]⟩
theorem OpOkR.frz {id n k : Nat} {el : TypeId} {α : Type} {f : α → LV} {xs : List α} (hp : ∀ x ∈ o.op.operands, (ev x).pure = true) (h : OpOkR P (fun _ => False) o ev Mem.none (.arr id n) (Mem.none.put id (.arr el k (xs.map f)))) (hn : n = xs.length) (m0 : Mem) : OpOkR P pr o ev m0 (.lst k (xs.map f)) m0 := by
 intro c a Q hev hm
 let c1 : Cx := ⟨c.w, fun _ => .none, c.X⟩
 have hno : ∀ b, ¬ c1.own b := by rintro b ⟨i, be, hb, _⟩; cases hb
 have hle1 : c.Le c1 := ⟨Nat.le_refl _, fun b _ hX => ⟨rfl, fun hX' => hX'.elim hX (hno b)⟩⟩
 have hXlt : ∀ b, c.X b → b < c.w.heap.size := fun b hb => hb.elim (hm.Olt b) (hm.own_lt)
 have hm1 : RepM c1 Mem.none := ⟨fun i => by simp [Mem.none, RepE, c1], (fun i i' be be' b h1 => by cases h1), fun b hb => (hno b hb).elim, hXlt⟩
 have hev1 : ∀ x ∈ o.op.operands, RepV c1 (ev x) (a.eval x) := fun x hx => RepV.mono hle1 _ _ (fun id hid => by rw [noref_of_pure _ (hp x hx)] at hid; cases hid) (hev x hx)
 refine Oper.wp_mono ?_ (h c1 a Q hev1 hm1)
 rintro a' w' ⟨v, c', ha, rfl, hv, hm', hst⟩
 obtain ⟨us, hB, hk, hown, hl, hc, hpu⟩ := arr_now (e := el) (k := k) (xs := xs.map f) hm' hv (by simp [Mem.put]) (by simpa using hn)
 have hold : ∀ b, b < c.w.heap.size → c'.w.heap[b]? = c.w.heap[b]? := fun b hb => hst.grow.keep b hb (hno b)
 have hnew : ∀ b, c'.own b → c.w.heap.size ≤ b := fun b hb => (hst.grow.own b hb).elim (fun h => (hno b h).elim) (fun h => h)
 let c2 : Cx := ⟨c'.w, c.B, c.O⟩
 have hle2 : c.Le c2 := ⟨hst.grow.size, fun b hb hX => ⟨hold b hb, hX⟩⟩
 have hm2 : RepM c2 m0 := ⟨fun i => RepE.mono hle2 (fun _ => BLe.refl _) (fun be b hbe hb => hold b ((hm.ent i).lt hbe hb)) (hm.ent i), hm.inj, hm.notO, fun b hb => Nat.lt_of_lt_of_le (hm.Olt b hb) hst.grow.size⟩
 have hle3 : c'.Le c2 := by
  refine ⟨Nat.le_refl _, fun b _ hX => ⟨rfl, fun hX' => hX (.inl ?_)⟩⟩
  rw [hst.grow.O]; exact hX'
 refine ⟨v, c2, ha, rfl, ?_, hm2, ⟨⟨rfl, hst.grow.os, hst.grow.tape, hst.grow.output, hst.grow.drawn, hst.grow.size, fun b hb _ => hold b hb, fun b hb => .inl hb, fun i be _ hb => ⟨be, hb, .refl be⟩⟩, fun _ => BLe.refl _⟩⟩
 simp only [RepV]
 have hl' := RepL.mono hle3 (xs.map f) us (fun j hj => by rw [norefL_of_pureL _ hpu] at hj; cases hj) hl
 rcases hown.2 with ⟨rfl, h0⟩ | ⟨g, cap, cur, rfl, _, hg', hnc, _⟩
 ·exact ⟨.none, 0, by rw [h0], by omega, fun _ => rfl, hpu, .inl (List.eq_nil_of_length_eq_zero h0)⟩
 ·refine ⟨some ⟨g, 0, .none⟩, cap, rfl, hnc, by simp, hpu, .inr ⟨g, 0, us, rfl, (Array.getElem?_eq_some_iff.1 hg').1, fun hX => ?_, hl', hc, rangeAt_own hown rfl⟩⟩
  have h1 := hnew g ⟨id, _, hB, .inl rfl⟩
  exact absurd (hXlt g hX) (Nat.not_lt.2 h1)
end
theorem eqA2 {P : Program} {d : Nat} {t e : TypeId} {xs ys : Array Value} {v0 v1 u0 u1 : Value} {b0 b1 : Bool} (ht : P.underlying t = some (.array 2 e)) (hs : ∀ w, (sizeOf e).run P w = .ok 1 w) (p0 : ∀ w, (part e xs 0).run P w = .ok v0 w) (p1 : ∀ w, (part e xs 1).run P w = .ok v1 w) (q0 : ∀ w, (part e ys 0).run P w = .ok u0 w) (q1 : ∀ w, (part e ys 1).run P w = .ok u1 w) (h0 : EqRun P d e v0 u0 b0) (h1 : EqRun P d e v1 u1 b1) : EqRun P (d + 1) t (.agg xs) (.agg ys) (b0 && b1) := fun w => by
 have h0' := h0 w
 have h1' := h1 w
 unfold Op.equalIn
 simp only [Sem.run_bind, run_underlying ht, Result.andThen_ok, hs]
 simp only [Std.Legacy.Range.forIn_eq_forIn_range', Std.Legacy.Range.size]
 cases b0 <;> cases b1 <;> simp [List.range', forIn, List.forIn'_cons, p0, p1, q0, q1, h0', h1', Sem.run_bind, Result.andThen]
section
variable {P : Program} {pr : Nat → Prop} {m : Mem} {ev : Operand → LV} {α β : Type} {f : α → LV} {g : β → LV} {d : Option Nat} {x y : Operand} {t ty : TypeId} {pos : String} {af : Array Edge} {gd : Option (Nat × Bool)}
theorem ok_ixV {ys : List α} {z : α} {n el : Nat} {k : IntKind} {u : Int} (ht : tarr P t = some (n, el)) (hk : tok P el = true) (ha : tagg P el = false) (hx : ev x = .agg (ys.map f)) (hy : ev y = .int k u) (hlen : ys.length = n) (hz : idx ys u = some z) :
  OpOkR P pr ⟨d, .index t x y, ty, pos, af, gd⟩ ev m (f z) m := by
 obtain ⟨it, zz, ie, hu, hi, hzz, hie, hzs, hs1⟩ := tarr_of ht
 obtain ⟨h0, h2⟩ := idxOk hz
 have h1 : u.toNat < n := by rw [← hlen]; exact (List.getElem?_eq_some_iff.1 h2).1
 refine OpOkR.value fun c a hev hm => ?_
 have e1 := hev x (by simp [Op.operands])
 have e2 := hev y (by simp [Op.operands])
 rw [hx] at e1; rw [hy] at e2
 simp only [RepV] at e1 e2
 obtain ⟨vs, hv, hl⟩ := e1
 have hlt : u < (n : Int) := by omega
 obtain ⟨w, hw1, hw2⟩ := hl.get (i := u.toNat) (x := f z) (by simp [h2])
 have hag : ∀ w, (isAgg el).run P w = .ok false w := fun w => by
  unfold tagg at ha
  unfold isAgg
  cases hue : P.underlying el with
  | none => unfold tok at hk; simp [hue] at hk
  | some dd => rw [hue] at ha; cases dd <;> simp_all [run_underlying hue]
 refine ⟨w, c, ?_, hw2, hm, Step.refl pr c⟩
 simp [execOp, Instr.index, asIntOf, e2, hv, run_underlying hu, sizeOf, typeInfo, hie, hs1, h0, hlt, part, hag, hw1, Sem.run]
theorem ok_lenM {id kt vt : Nat} {xs : List (α × β)} (ht : tmap P t = some (kt, vt)) (hx : ev x = .mp id) (hm : m id = some (.map kt vt (mlv f g xs))) : OpOkR P pr ⟨d, .call ⟨.builtin .len, #[x], #[t]⟩, ty, pos, af, gd⟩ ev m (.int .i64 xs.length) m := by
 refine OpOkR.value fun c a hev hM => ?_
 have e1 := hev x (by simp [Op.operands, Call.operands])
 rw [hx] at e1
 simp only [RepV] at e1
 obtain ⟨b, hB, hv⟩ := e1
 have he := hM.ent id
 rw [hm] at he
 simp only [RepE] at he
 obtain ⟨b', es, ck, g1, g2, g3, _⟩ := he
 rw [hB] at g1; cases g1
 have hl := g3.length
 simp only [mlv, List.map_map, List.length_map] at hl
 refine ⟨.int .i64 xs.length, c, ?_, by simp [RepV], hM, Step.refl pr c⟩
 simp [execOp, resolve, invoke, builtin, hv, Builtin.len_, run_underlying (tmap_under ht), MapKept.run_getObj_map g2, goInt, hl, Result.andThen]
end
end Go.L
set_option linter.unusedVariables false
set_option linter.unusedSimpArgs false
namespace Go.L
noncomputable def anyPick {α β : Type} (left : List α) (F : α → List α → Option β) : Option β :=
 open Classical in if h : ∃ r, ∀ z left', left.Perm (z :: left') → F z left' = some r then some h.choose else .none
theorem anyPick_to {α β : Type} {left : List α} {F : α → List α → Option β} {r : β} (h : anyPick left F = some r) : ∀ z left', left.Perm (z :: left') → F z left' = some r := by
 unfold anyPick at h
 split at h
 ·rename_i hh
  cases h
  exact hh.choose_spec
 ·cases h
theorem anyPick_of {α β : Type} {left : List α} {F : α → List α → Option β} {r : β} (hne : left ≠ []) (h : ∀ z left', left.Perm (z :: left') → F z left' = some r) : anyPick left F = some r := by
 unfold anyPick
 have hh : ∃ r, ∀ z left', left.Perm (z :: left') → F z left' = some r := ⟨r, h⟩
 rw [dif_pos hh]
 cases left with
 | nil => exact absurd rfl hne
 | cons z l =>
  have := hh.choose_spec z l (List.Perm.refl _)
  rw [h z l (List.Perm.refl _)] at this
  exact this.symm
def pickL {α : Type} (xs : List α) (es : List MapEntry) (seen : Array Nat) : List α := ((xs.zip es).filter fun p => !seen.contains p.2.born).map (·.1)
theorem filter_one {α : Type} (seen : Array Nat) (e : MapEntry) (z : α) : ∀ (l : List (α × MapEntry)), (l.map (·.2.born)).Nodup → (z, e) ∈ l → seen.contains e.born = false →
  (l.filter fun p => !seen.contains p.2.born).Perm ((z, e) :: l.filter fun p => !(seen.push e.born).contains p.2.born)
 | [], _, h, _ => by cases h
 | (y, q) :: l, hn, hm, hs => by
  simp only [List.map_cons, List.nodup_cons] at hn
  rcases List.mem_cons.1 hm with he | hm'
  ·cases he
   have hrest : (l.filter fun p => !(seen.push e.born).contains p.2.born) = l.filter fun p => !seen.contains p.2.born := by
    refine List.filter_congr fun p hp => ?_
    have hne : ¬ p.2.born = e.born := fun he => hn.1 (List.mem_map.2 ⟨p, hp, he⟩)
    rw [contains_push]
    simp [hne]
   rw [List.filter_cons_of_pos (by simp only [hs]; rfl), List.filter_cons_of_neg (by rw [contains_push]; simp), hrest]
  ·have hne : ¬ q.born = e.born := fun he => hn.1 (List.mem_map.2 ⟨(z, e), hm', he.symm⟩)
   have ih := filter_one seen e z l hn.2 hm' hs
   have h1 : (!(seen.push e.born).contains q.born) = !seen.contains q.born := by rw [contains_push]; simp [hne]
   by_cases hq : seen.contains q.born = true
   ·rw [List.filter_cons_of_neg (by simp only [hq]; decide), List.filter_cons_of_neg (by simp only [h1, hq]; decide)]; exact ih
   ·have hq' : seen.contains q.born = false := by simpa using hq
    rw [List.filter_cons_of_pos (by simp only [hq']; rfl), List.filter_cons_of_pos (by simp only [h1, hq']; rfl)]
    exact (ih.cons _).trans (List.Perm.swap _ _ _)
theorem pickL_next {α : Type} {xs : List α} {es : List MapEntry} {seen : Array Nat} {e : MapEntry} {j : Nat} {z : α} (hn : (es.map (·.born)).Nodup) (hl : es.length = xs.length) (hz : xs[j]? = some z) (he : es[j]? = some e) (hs : seen.contains e.born = false) :
  (pickL xs es seen).Perm (z :: pickL xs es (seen.push e.born)) := by
 have h2 : ((xs.zip es).map (·.2.born)) = es.map (·.born) := by
  have h0 : (xs.zip es).map (·.2) = es := by rw [List.map_snd_zip]; omega
  have h1 : (xs.zip es).map (·.2.born) = ((xs.zip es).map (·.2)).map (·.born) := by rw [List.map_map]; rfl
  rw [h1, h0]
 have hm : (z, e) ∈ xs.zip es := by
  refine List.mem_iff_getElem?.2 ⟨j, ?_⟩
  rw [List.getElem?_zip_eq_some]; exact ⟨hz, he⟩
 have := (filter_one seen e z (xs.zip es) (by rw [h2]; exact hn) hm hs).map (·.1)
 exact this
theorem pickL_nil {α : Type} {xs : List α} {es : Array MapEntry} {seen : Array Nat} (h : (leftOf es seen).size = 0) : pickL xs es.toList seen = [] := by
 unfold pickL
 rw [List.map_eq_nil_iff, List.filter_eq_nil_iff]
 intro p hp hc
 have h1 : p.2 ∈ es.toList := (List.of_mem_zip hp).2
 have h2 : p.2 ∈ (leftOf es seen).toList := by
  rw [leftOf]; simp only [Array.toList_filter, List.mem_filter]; exact ⟨h1, hc⟩
 have h3 : (leftOf es seen).toList = [] := List.eq_nil_of_length_eq_zero (by simpa using h)
 rw [h3] at h2; cases h2
theorem pickL_all {α : Type} {xs : List α} {es : List MapEntry} (hl : es.length = xs.length) : pickL xs es #[] = xs := by
 unfold pickL
 rw [List.filter_eq_self.2 (fun p _ => by simp), List.map_fst_zip]; omega

section
variable {P : Program} {N : Nat} {pr : Nat → Prop} {e : Env} {m : Mem} {α β : Type} {f : α → LV} {g : β → LV}
def LHD (P : Program) (N : Nat) (pr : Nat → Prop) (code : Code) (Q : Exit → Env → Mem → Prop) (e : Env) (m : Mem) : Prop :=
 ∀ (c : Cx) (a : Act), Rep N c e m a → code.wp P (fun x a' w' => ∃ e' m', ∃ c' : Cx, c'.w = w' ∧ Rep N c' e' m' a' ∧ Grow pr c c' ∧ Q x e' m') a c.w
theorem LH.toD {code : Code} {Q : Exit → Env → Mem → Prop} (h : LH P N pr code Q e m) : LHD P N pr code Q e m := by
 obtain ⟨ex, e', m', h1, h2⟩ := h
 intro c a hr
 refine wp_mono (h1 c a hr) ?_
 rintro x a' w' ⟨rfl, c', hw, hr', hg⟩
 exact ⟨e', m', c', hw, hr', hg, h2⟩
theorem LHD.wk {code : Code} {Q : Exit → Env → Mem → Prop} {e' : Env} {m' : Mem} (hw : Wk pr e m e' m') (h : LHD P N pr code Q e' m') : LHD P N pr code Q e m := by
 intro c a hr
 obtain ⟨c1, hw1, hr1, hg1⟩ := hw N c a hr
 rw [← hw1]
 refine wp_mono (h c1 a hr1) ?_
 rintro x a' w' ⟨e2, m2, c2, hw2, hr2, hg2, hq⟩
 exact ⟨e2, m2, c2, hw2, hr2, hg1.trans hg2, hq⟩
theorem LHD.seq {x y : Code} {Q : Exit → Env → Mem → Prop} (h : LHD P N pr x (thenQ (LHD P N pr y Q) Q) e m) : LHD P N pr (.seq x y) Q e m := by
 intro c a hr
 refine wp_seq (wp_mono (h c a hr) ?_)
 rintro x a' w' ⟨e', m', c', rfl, hr', hg, hq⟩
 cases x with
 | normal =>
  refine wp_mono (hq c' a' hr') ?_
  rintro x a2 w2 ⟨e2, m2, c2, hw2, hr2, hg2, hq2⟩
  exact ⟨e2, m2, c2, hw2, hr2, hg.trans hg2, hq2⟩
 | exit id => exact ⟨e', m', c', rfl, hr', hg, hq⟩
 | goto l => exact ⟨e', m', c', rfl, hr', hg, hq⟩
 | ret => exact ⟨e', m', c', rfl, hr', hg, hq⟩
 | panic ch => exact ⟨e', m', c', rfl, hr', hg, hq⟩
 | outgrown => exact ⟨e', m', c', rfl, hr', hg, hq⟩
theorem LHD.seqT {l : List Oper} {rid : Nat} {yc : Code} {Q : Exit → Env → Mem → Prop} (el : List (Nat × LV)) (ml : List (Nat × LE)) (hd : dstsOk N l = true) (h : SOps P N pr l.toArray l (fun e m => Wk pr e m (Env.of el) (Mem.of ml)) e m) (hr : LHD P N pr yc Q (Env.of el) (Mem.of ml)) : LHD P N pr (.seq (.region rid l.toArray false) yc) Q e m :=
 LHD.seq (LH.toD (LH.loneT el ml hd h hr))
theorem bodyD {fn' : Nat} {fn : Func} {code : Code} {args : List LV} {ml0 ml1 : List (Nat × LE)} {LV0 : LV} (hf : P.funcs[fn']? = some fn) (hb : fn.body = some code) (hn : args.length ≤ fn.ntmps)
  (h : LHD P fn.ntmps (fun id => Mem.of ml0 id ≠ .none) code (retQ P fn (fun id => Mem.of ml0 id ≠ .none) (Ends LV0 ml1)) (Env.args args) (Mem.of ml0)) : LCall P fn' args (Mem.of ml0) LV0 (Mem.of ml1) := by
 intro c vs hm ha
 refine calls_of_wp hf hb ?_
 have hlen := ha.length
 have hrep : Rep fn.ntmps c (Env.args args) (Mem.of ml0) { tmps := vs.toArray ++ Array.replicate (fn.ntmps - vs.toArray.size) undef, defers := [] } := by
  refine ⟨fun i => ?_, hm, by simp; omega, rfl⟩
  simp only [Env.args, List.getD_eq_getElem?_getD]
  cases hi : args[i]? with
  | none => simp [RepV]
  | some x =>
   obtain ⟨v, hv, hr⟩ := ha.get hi
   have hil : i < vs.length := (List.getElem?_eq_some_iff.1 hv).1
   have : (vs.toArray ++ Array.replicate (fn.ntmps - vs.toArray.size) undef).getD i undef = v := by
    rw [Array.getD_eq_getD_getElem?, Array.getElem?_append_left (by simpa using hil)]
    simp [hv]
   rw [this]; exact hr
 refine wp_mono (h c _ hrep) ?_
 rintro x a' w' ⟨e', m1, c1, rfl, hr1, hg1, hq⟩
 have main : (lres P e' m1 fn.results.toList fun l => ∃ ml, (∀ p ∈ ml, m1 p.1 = some p.2) ∧ keptRefs [(0, oneOf l)] ml = true ∧ (∀ id, Mem.of ml0 id ≠ .none → m1 id = .none ∨ Mem.of ml id ≠ .none) ∧ Ends LV0 ml1 (oneOf l) (Mem.of ml)) →
   a'.defers = [] ∧ ∃ v, (results fn a'.tmps).run P c1.w = .ok v c1.w ∧ ∃ v' c', Ending.returned v = .returned v' ∧ c'.w = c1.w ∧ RepM c' (Mem.of ml1) ∧ RepV c' LV0 v' ∧ Grow (fun id => Mem.of ml0 id ≠ .none) c c' := by
  intro hres
  obtain ⟨l, ⟨ml, h1, h2, h3, hR⟩, hl⟩ := lres_sound _ _ hres
  obtain ⟨us, hus, hul⟩ := hl _ c1 a' hr1
  have hone : (results fn a'.tmps).run P c1.w = .ok (if h : us.toArray.size = 1 then us.toArray[0] else .tuple us.toArray) c1.w := by
   have e1 : results fn a'.tmps = (do let vs ← fn.results.mapM (resOne a'.tmps); pure (if h : vs.size = 1 then vs[0] else .tuple vs)) := by
    unfold results
    congr 2
   rw [e1, Array.mapM_eq_mapM_toList]
   simp only [Sem.run_bind, Sem.run_map, hus, Result.andThen_ok, Sem.run_pure]
  have hrv : RepV c1 (oneOf l) (if h : us.toArray.size = 1 then us.toArray[0] else .tuple us.toArray) := by
   have hll := hul.length
   match l, us, hul with
   | [], us, hul => simp only [RepL] at hul; subst hul; simp [oneOf, RepV, RepL]
   | [x], us, hul =>
    simp only [RepL] at hul
    obtain ⟨v, vs', rfl, hv, rfl⟩ := hul
    simpa [oneOf] using hv
   | x :: y :: l, us, hul =>
    have hsz : ¬ us.toArray.size = 1 := by have := hul.length; simp at this ⊢; omega
    rw [dif_neg hsz]
    simp only [oneOf, RepV]
    exact ⟨us, rfl, hul⟩
  obtain ⟨c2, hw2, ⟨henv2, hm2, _, _⟩, hg2⟩ := Wk.cut (pr := fun id => Mem.of ml0 id ≠ .none) (e := Env.of [(0, oneOf l)]) (m := m1) [(0, oneOf l)] ml (by simp [Env.of]) h1 h2 (fun id hp => h3 id hp) 1 c1 { tmps := #[if h : us.toArray.size = 1 then us.toArray[0] else .tuple us.toArray], defers := [] }
   ⟨fun i => by
    by_cases hi : i = 0
    ·subst hi; simpa [Env.of] using hrv
    ·simp [Env.of, hi, RepV], hr1.mem, rfl, rfl⟩
  have hv2 := henv2 0
  simp only [Env.of, if_true] at hv2
  obtain ⟨hsub, hml⟩ := hR
  rw [hml] at hm2
  exact ⟨hr1.defers, _, hone, _, c2, rfl, hw2, hm2, hsub c2 _ (by simpa using hv2), hg1.trans hg2⟩
 cases x with
 | ret => exact main hq
 | normal => exact main hq
 | _ => exact hq.elim
def Iter (f : α → LV) (g : β → LV) (xs : List (α × β)) (r : Nat) (left : List (α × β)) (cur : Option (α × β)) (c : Cx) : Prop :=
 ∃ b since seen last es ck, c.O r ∧ (b < c.w.heap.size ∧ ¬ c.own b) ∧ c.w.heap[r]? = some (.mapIter (some b) since seen last) ∧ c.w.heap[b]? = some (.map es ck) ∧ BornOk es ck ∧ (∀ x ∈ es.toList, x.born < since) ∧ since ≤ last ∧ since ≤ ck ∧ es.toList.length = xs.length ∧
  (∀ (j : Nat) z, xs[j]? = some z → ∃ en, es.toList[j]? = some en ∧ RepV c (f z.1) en.key ∧ RepV c (g z.2) en.val) ∧ left = pickL xs es.toList seen ∧
  ∀ z, cur = some z → ∃ (seen0 : Array Nat) (en : MapEntry) (j : Nat), seen = seen0.push en.born ∧ last = ck ∧ xs[j]? = some z ∧ es.toList[j]? = some en
theorem Iter.grow {xs left : List (α × β)} {r : Nat} {cur : Option (α × β)} {c c' : Cx} (hf : ∀ z, (f z).pure = true) (hg : ∀ z, (g z).pure = true) (h : Iter f g xs r left cur c) (hm : RepM c m) (hgr : Grow pr c c') : Iter f g xs r left cur c' := by
 obtain ⟨b, since, seen, last, es, ck, h1, h2, h3, h4, h5, h6, h7, h7', h8, h9, h10, h11⟩ := h
 have k : ∀ q, c.O q → c'.w.heap[q]? = c.w.heap[q]? := fun q hq => hgr.keep q (hm.Olt q hq) fun ho => hm.notO q ho hq
 refine ⟨b, since, seen, last, es, ck, by rw [hgr.O]; exact h1, ⟨Nat.lt_of_lt_of_le h2.1 hgr.size, fun ho => (hgr.own b ho).elim h2.2 fun hl => absurd h2.1 (Nat.not_lt.2 hl)⟩, (k r h1).trans h3, (hgr.keep b h2.1 h2.2).trans h4, h5, h6, h7, h7', h8, fun j z hz => ?_, h10, h11⟩
 obtain ⟨en, e1, e2, e3⟩ := h9 j z hz
 exact ⟨en, e1, RepV.mono hgr.le _ _ (fun id hid => by rw [noref_of_pure _ (hf _)] at hid; cases hid) e2, RepV.mono hgr.le _ _ (fun id hid => by rw [noref_of_pure _ (hg _)] at hid; cases hid) e3⟩
structure GI (pr : Nat → Prop) (S : Nat → Prop) (c0 c : Cx) : Prop where
 O : c.O = fun x => c0.O x ∨ S x
 os : c.w.os = c0.w.os
 tape : c.w.tape = c0.w.tape
 output : c.w.output = c0.w.output
 drawn : c0.w.drawn ≤ c.w.drawn
 size : c0.w.heap.size ≤ c.w.heap.size
 keep : ∀ b, b < c0.w.heap.size → ¬ c0.own b → c.w.heap[b]? = c0.w.heap[b]?
 own : ∀ b, c.own b → c0.own b ∨ c0.w.heap.size ≤ b
 prot : ∀ id be, pr id → c0.B id = some be → ∃ be', c.B id = some be' ∧ be.Same be'
theorem GI.grow {S : Nat → Prop} {c0 c c' : Cx} (h : GI pr S c0 c) (k : Grow pr c c') : GI pr S c0 c' where
 O := by rw [k.O, h.O]
 os := k.os.trans h.os
 tape := k.tape.trans h.tape
 output := k.output.trans h.output
 drawn := Nat.le_trans h.drawn k.drawn
 size := Nat.le_trans h.size k.size
 keep b hb ho := (k.keep b (Nat.lt_of_lt_of_le hb h.size) fun hc => (h.own b hc).elim ho fun hl => absurd hb (Nat.not_lt.2 hl)).trans (h.keep b hb ho)
 own b hb := (k.own b hb).elim (h.own b) fun hl => .inr (Nat.le_trans h.size hl)
 prot id be hp hb := by
  obtain ⟨be1, h1, h2⟩ := h.prot id be hp hb
  obtain ⟨be2, h3, h4⟩ := k.prot id be1 hp h1
  exact ⟨be2, h3, h2.trans h4⟩
theorem GI.done {S : Nat → Prop} {c0 c : Cx} {a : Act} (h : GI pr S c0 c) (hr : Rep N c e m a) : ∃ c' : Cx, c'.w = c.w ∧ Rep N c' e m a ∧ Grow pr c0 c' := by
 let c' : Cx := ⟨c.w, c.B, c0.O⟩
 have hO : ∀ x, c0.O x → c.O x := fun x hx => by rw [h.O]; exact .inl hx
 have hle : c.Le c' := ⟨Nat.le_refl _, fun b _ hX => ⟨rfl, fun hX' => hX (hX'.imp (hO b) (fun q => q))⟩⟩
 refine ⟨c', rfl, ⟨fun i => RepV.mono hle _ _ (fun id _ => BLe.refl _) (hr.env i), ⟨fun id => RepE.mono hle (fun id => BLe.refl _) (fun be b _ _ => rfl) (hr.mem.ent id), hr.mem.inj, fun b ho hO' => hr.mem.notO b ho (hO b hO'), fun b hb => hr.mem.Olt b (hO b hb)⟩, hr.size, hr.defers⟩, ⟨rfl, h.os, h.tape, h.output, h.drawn, h.size, h.keep, h.own, h.prot⟩⟩
def LHX (P : Program) (N : Nat) (pr : Nat → Prop) (J : Cx → Prop) (code : Code) (Q : Env → Mem → Prop) (e : Env) (m : Mem) : Prop :=
 ∃ e' m', (∀ (c : Cx) (a : Act), Rep N c e m a → J c → code.wp P (fun x a' w' => x = .normal ∧ ∃ c' : Cx, c'.w = w' ∧ Rep N c' e' m' a' ∧ Grow pr c c') a c.w) ∧ Q e' m'
theorem rep_und {c : Cx} {a : Act} {i : Nat} {v : Value} (h : Rep N c e m a) (hi : e i = .und) : Rep N c e m (a.put (some i) v) := by
 refine ⟨fun j => ?_, h.mem, by simp [Act.put, h.size], h.defers⟩
 by_cases hj : j = i
 ·subst hj; rw [hi]; simp [RepV]
 ·have := h.env j
  simp only [Act.put]
  simpa [Array.getElem?_setIfInBounds_ne (Ne.symm hj)] using this
theorem aput_at {a : Act} {i : Nat} {v : Value} (h : i < a.tmps.size) : (a.put (some i) v).eval (.tmp i) = v := by
 simp [Act.put, Act.eval, h]
theorem LHX.entry {xs left : List (α × β)} {z : α × β} {r ti d rid bid : Nat} {l : List Oper} {ty : TypeId} {pos : String} {af : Array Edge} {yc : Code} {Q : Env → Mem → Prop} (el : List (Nat × LV)) (ml : List (Nat × LE))
  (hti : e ti = .it r) (hd : dstsOk N (⟨some d, .entry (.tmp ti), ty, pos, af, .none⟩ :: l) = true)
  (h : SOps P N pr (⟨some d, .entry (.tmp ti), ty, pos, af, .none⟩ :: l).toArray l (fun e m => Wk pr e m (Env.of el) (Mem.of ml)) (e.put d (.tup [f z.1, g z.2])) m)
  (hr : LH P N pr yc (blockQ bid fun ex e' m' => ex = .normal ∧ Q e' m') (Env.of el) (Mem.of ml)) :
  LHX P N pr (Iter f g xs r left (some z)) (.block bid (.seq (.region rid (⟨some d, .entry (.tmp ti), ty, pos, af, .none⟩ :: l).toArray false) yc)) Q e m := by
 obtain ⟨e1, m1, hK, hrun⟩ := h (dsts_of hd) (fun o ho => by simp [ho])
 obtain ⟨ex3, e3, m3, hx3, hq3⟩ := hr
 -- the rest inside the block
 refine ⟨e3, m3, fun c a hrep hJ => ?_, ?_⟩
 ·refine wp_block (wp_seq ?_)
  refine wp_region ?_
  rw [List.size_toArray, List.range_eq_range', wpOps_eq_wpList _ 0 (by simp)]
  obtain ⟨b, since, seen, last, es, ck, h1, h2, h3, h4, h5, h6, h7, h7', h8, h9, h10, h11⟩ := hJ
  obtain ⟨seen0, en, j, rfl, rfl, hz, hen⟩ := h11 z rfl
  have hv : a.eval (.tmp ti) = .pointer (some ⟨r, 0, .none⟩) := by
   have := hrep.ev (.tmp ti)
   simp only [lev] at this
   rw [hti] at this
   simpa only [RepV] using this
  have hrn := run_entry_at (P := P) c.w r b since seen0 es _ en h3 h4 (List.mem_of_getElem? hen) h5.1
  have hex : (execOp a.eval ⟨some d, .entry (.tmp ti), ty, pos, af, .none⟩).run P c.w = .ok (.value (.tuple #[en.key, en.val])) c.w := by
   simp [execOp, hv, hrn, Result.andThen]
  simp only [wpList]
  rw [if_pos (by rfl)]
  left
  unfold Oper.wp
  rw [hex, Oper.upon_value]
  obtain ⟨en', q1, q2, q3⟩ := h9 j z hz
  rw [hen] at q1; cases q1
  have hdN : d < N := by
   have := dsts_of hd ⟨some d, .entry (.tmp ti), ty, pos, af, .none⟩ (by simp) d rfl
   exact this
  have hrep1 : Rep N c (e.put d (.tup [f z.1, g z.2])) m (a.put (some d) (.tuple #[en.key, en.val])) :=
   hrep.put (d := some d) (Step.refl pr c) hrep.mem (fun i hi => by cases hi; exact hdN) (by
    simp only [RepV]; exact ⟨[en.key, en.val], rfl, by simp only [RepL]; exact ⟨_, _, rfl, q2, _, _, rfl, q3, rfl⟩⟩)
  refine wpList_mono _ _ _ _ _ ?_ (hrun c _ hrep1)
  rintro x a' w' ⟨rfl, c', rfl, hr', hg'⟩
  obtain ⟨c2, hw2, hr2, hg2⟩ := hK N c' a' hr'
  show yc.wp P _ a' c'.w
  rw [← hw2]
  refine wp_mono (hx3 c2 a' hr2) ?_
  rintro x a3 w3 ⟨rfl, c3, rfl, hr3, hg3⟩
  have hfin : ∃ c' : Cx, c'.w = c3.w ∧ Rep N c' e3 m3 a3 ∧ Grow pr c c' := ⟨c3, rfl, hr3, (hg'.trans hg2).trans hg3⟩
  cases x with
  | exit jd =>
   by_cases hj : jd = bid
   ·subst hj; simp only [Exit.inBlock, if_true]; exact ⟨trivial, hfin⟩
   ·simp only [blockQ, hj, if_false] at hq3; cases hq3.1
  | normal => exact ⟨rfl, hfin⟩
  | goto l => cases hq3.1
  | ret => cases hq3.1
  | panic ch => cases hq3.1
  | outgrown => cases hq3.1
 ·cases ex3 with
  | exit jd =>
   by_cases hj : jd = bid
   ·subst hj; simp only [blockQ, if_true] at hq3; exact hq3.2
   ·simp only [blockQ, hj, if_false] at hq3; cases hq3.1
  | normal => exact hq3.2
  | goto l => cases hq3.1
  | ret => cases hq3.1
  | panic ch => cases hq3.1
  | outgrown => cases hq3.1
theorem envEq_mem : ∀ {l : List (Nat × LV)} {i : Nat} {v : LV}, EnvEq e l → (i, v) ∈ l → e i = v
 | [], _, _, _, h => by cases h
 | (j, u) :: r, i, v, h, hm => by
  rcases List.mem_cons.1 hm with he | hm
  ·cases he; exact h.1
  ·exact envEq_mem h.2 hm
theorem iter_new {c : Cx} {a : Act} {ts ti mid kt vt : Nat} {xs : List (α × β)} {ml0 : List (Nat × LE)} {S : Value → Prop} (hpr : pr = fun id => Mem.of ml0 id ≠ .none) (hr : Rep N c e m a) (hmap : m mid = some (.map kt vt (mlv f g xs))) (hs : e ts = .mp mid) (hti : ti < N)
  (el : Nat → List (Nat × LV)) (ml : List (Nat × LE)) (he : ∀ r, Env.look (e.put ti (.it r)) (el r) = el r) (hm : Mem.look m ml = LEs ml) (hk : ∀ r, keptRefs (el r) ml = true) (hp : (ml0.all fun p => ml.any fun q => q.1 == p.1) = true) (hmid : Mem.of ml mid = .none) :
  ∃ b es ck, a.eval (.tmp ts) = .map (some b) ∧ c.w.heap[b]? = some (.map es ck) ∧ ∃ c' : Cx, c'.w = c.w.alloc (.mapIter (some b) ck #[] ck) ∧ Rep N c' (Env.of (el c.w.heap.size)) (Mem.of ml) (a.put (some ti) (.pointer (some ⟨c.w.heap.size, 0, .none⟩))) ∧ Iter f g xs c.w.heap.size xs .none c' ∧ GI pr (fun x => x = c.w.heap.size) c c' := by
 subst hpr
 have hent := hr.mem.ent mid
 rw [hmap] at hent
 simp only [RepE] at hent
 obtain ⟨b, es, ck, hB, hh, hk1, hk2, hp1, hp2, hnd, hbo⟩ := hent
 have hv := hr.ev (.tmp ts)
 simp only [lev] at hv
 rw [hs] at hv
 simp only [RepV] at hv
 obtain ⟨b', hb', hval⟩ := hv
 rw [hB] at hb'; cases hb'
 have hblt : b < c.w.heap.size := (Array.getElem?_eq_some_iff.1 hh).1
 have hml := mlook_eq hm
 obtain ⟨c1, hw1, hO1, hm1, hV1, hown1, hno1, hB1⟩ := hr.mem.sub (Mem.of ml) (fun id => by
   cases h : Mem.of ml id with
   | none => exact .inr rfl
   | some le => exact .inl (hml.all _ (memOf_some h)).symm)
  (fun id cs hid j hj => by
   have h2 := hk 0
   simp only [keptRefs, Bool.and_eq_true, List.all_eq_true] at h2
   have h3 := h2.2 _ (memOf_some hid)
   simp only [List.all_eq_true] at h3
   exact memOf_ne (h3 j (refsL_of_norefL cs hj)))
 have hbn : ¬ c1.own b := hno1 b ⟨mid, _, hB, rfl⟩ fun id be hid hbe hhas => by
  have : id = mid := hr.mem.inj id mid be _ b hbe hB hhas rfl
  subst this; exact hid hmid
 let r := c.w.heap.size
 have hrn : ¬ c1.own r := fun ho => by have := hm1.own_lt ho; rw [hw1] at this; exact Nat.lt_irrefl _ this
 let c' : Cx := ⟨c.w.alloc (.mapIter (some b) ck #[] ck), c1.B, fun x => c.O x ∨ x = r⟩
 have hold : ∀ x, x < c.w.heap.size → c'.w.heap[x]? = c.w.heap[x]? := fun x hx => hpOld c.w _ x hx
 have hsz : c'.w.heap.size = c.w.heap.size + 1 := by show (c.w.heap.push _).size = _; simp
 have hle : c1.Le c' := by
  refine ⟨by rw [hw1, hsz]; omega, fun x hx hX => ?_⟩
  rw [hw1] at hx ⊢
  refine ⟨hold x hx, fun h => ?_⟩
  rcases h with h | h
  ·rcases h with h | h
   ·exact hX (.inl (by rw [hO1]; exact h))
   ·exact Nat.lt_irrefl _ (by rw [h] at hx; exact hx)
  ·exact hX (.inr h)
 have hownc : ∀ x, c'.own x → c1.own x := fun x h => h
 have hM' : RepM c' (Mem.of ml) := by
  refine ⟨fun id => RepE.mono hle (fun _ => BLe.refl _) (fun be x hbe hx => ?_) (hm1.ent id), hm1.inj, fun x ho hO => ?_, fun x hx => ?_⟩
  ·have hlt := (hm1.ent id).lt hbe hx
   rw [hw1] at hlt ⊢
   exact hold x hlt
  ·rcases hO with hO | hO
   ·exact hm1.notO x ho (by rw [hO1]; exact hO)
   ·subst hO; exact hrn ho
  ·rcases hx with hx | hx
   ·exact Nat.lt_of_lt_of_le (hr.mem.Olt x hx) (by rw [hsz]; omega)
   ·subst hx; rw [hsz]; exact Nat.lt_succ_self _
 have hel := look_eq (he r)
 have henv : ∀ i, RepV c' (Env.of (el r) i) ((a.put (some ti) (.pointer (some ⟨r, 0, .none⟩))).tmps.getD i undef) := by
  intro i
  rcases envOf_mem (el r) i with h | h
  ·rw [h]; simp [RepV]
  ·have h1 : (e.put ti (.it r)) i = Env.of (el r) i := envEq_mem hel h
   by_cases hi : i = ti
   ·subst hi
    simp only [Env.put, if_true] at h1
    rw [← h1]
    simp only [RepV, Act.put]
    have : i < a.tmps.size := by rw [hr.size]; exact hti
    simp [this]
   ·simp only [Env.put, hi, if_false] at h1
    have h2 := hk r
    simp only [keptRefs, Bool.and_eq_true, List.all_eq_true] at h2
    have h3 := hV1 (e i) _ (fun j hj => by rw [h1] at hj; exact memOf_ne (h2.1 _ h j (refs_of_noref _ hj))) (hr.env i)
    have h4 := RepV.mono hle _ _ (fun _ _ => BLe.refl _) h3
    rw [← h1]
    simp only [Act.put]
    simpa [Array.getElem?_setIfInBounds_ne (Ne.symm hi)] using h4
 refine ⟨b, es, ck, hval, hh, c', rfl, ⟨henv, hM', by simp [Act.put, hr.size], hr.defers⟩, ?_, ?_⟩
 ·have hlen := hk1.length
  simp only [mlv, List.map_map, List.length_map] at hlen
  refine ⟨b, ck, #[], ck, es, ck, .inr rfl, ⟨by rw [hsz]; omega, fun ho => hbn ho⟩, ?_, (hold b hblt).trans hh, hbo, hbo.2, Nat.le_refl _, Nat.le_refl _, hlen.symm, fun j z hz => ?_, (pickL_all hlen.symm).symm, fun z hz => by cases hz⟩
  ·show (c.w.heap.push _)[c.w.heap.size]? = _
   simp
  ·have hkk : ((mlv f g xs).map (·.1))[j]? = some (f z.1) := by simp [mlv, hz]
   have hvv : ((mlv f g xs).map (·.2))[j]? = some (g z.2) := by simp [mlv, hz]
   obtain ⟨k1, q1, q2⟩ := hk1.get hkk
   obtain ⟨u, q3, q4⟩ := hk2.get hvv
   simp only [List.getElem?_map, Option.map_eq_some_iff] at q1 q3
   obtain ⟨en, he1, rfl⟩ := q1
   obtain ⟨en', he2, rfl⟩ := q3
   rw [he1] at he2; cases he2
   have hle0 : c.Le c' := by
    refine ⟨by rw [hsz]; omega, fun x hx hX => ⟨hold x hx, fun h => ?_⟩⟩
    rcases h with h | h
    ·rcases h with h | h
     ·exact hX (.inl h)
     ·exact Nat.lt_irrefl _ (by rw [h] at hx; exact hx)
    ·exact hX (.inr (hown1 x h))
   have pf : (f z.1).pure = true := pureL_iff.1 hp1 _ (List.mem_of_getElem? hkk)
   have pg : (g z.2).pure = true := pureL_iff.1 hp2 _ (List.mem_of_getElem? hvv)
   exact ⟨en, he1, RepV.mono hle0 _ _ (fun id hid => by rw [noref_of_pure _ pf] at hid; cases hid) q2, RepV.mono hle0 _ _ (fun id hid => by rw [noref_of_pure _ pg] at hid; cases hid) q4⟩
 ·refine ⟨rfl, rfl, rfl, rfl, Nat.le_refl _, by rw [hsz]; omega, fun x hx _ => hold x hx, fun x ho => .inl (hown1 x ho), fun id be hpid hbe => ?_⟩
  have hne : Mem.of ml id ≠ .none := by
   cases hx : Mem.of ml0 id with
   | none => exact absurd hx hpid
   | some le => exact memOf_ne (List.all_eq_true.1 hp _ (memOf_some hx))
  exact ⟨be, by show c1.B id = _; rw [hB1 id hne]; exact hbe, .refl be⟩
theorem repV_heap {c c' : Cx} {x : LV} {v : Value} (h : c.Le c') (hr : RepV c x v) (hB : c'.B = c.B := by rfl) : RepV c' x v := RepV.mono h _ _ (fun id _ => by rw [hB]; exact BLe.refl _) hr
theorem iter_next {c : Cx} {a : Act} {r ti t1 t2 rid : Nat} {xs left : List (α × β)} {cur : Option (α × β)} {ty1 ty2 : TypeId} {pos1 pos2 : String} {af1 af2 : Array Edge} {S : Nat → Prop} {c0 : Cx} (hr : Rep N c e m a) (hti : e ti = .it r) (h1 : e t1 = .und) (h2 : e t2 = .und) (hd : dstsOk N [⟨some t1, .next (.tmp ti) false, ty1, pos1, af1, .none⟩, ⟨some t2, .extract (.tmp t1) 0, ty2, pos2, af2, .none⟩] = true) (hI : Iter f g xs r left cur c) (hG : GI pr S c0 c) (hrS : S r) (hr0 : c0.w.heap.size ≤ r) :
  (Code.region rid [⟨some t1, .next (.tmp ti) false, ty1, pos1, af1, .none⟩, ⟨some t2, .extract (.tmp t1) 0, ty2, pos2, af2, .none⟩].toArray false).wp P (fun x a' w' => x = .normal ∧ ∃ c' : Cx, c'.w = w' ∧ Rep N c' e m a' ∧ GI pr S c0 c' ∧
   ((left = [] ∧ a'.eval (.tmp t2) = .bool false) ∨ ∃ z left', left.Perm (z :: left') ∧ a'.eval (.tmp t2) = .bool true ∧ Iter f g xs r left' (some z) c')) a c.w := by
 obtain ⟨b, since, seen, last, es, ck, hO, hb, hh, hm, hbo, hold, hsl, hsc, hlen, hel, hleft, _⟩ := hI
 have hv : a.eval (.tmp ti) = .pointer (some ⟨r, 0, .none⟩) := by
  have := hr.ev (.tmp ti)
  simp only [lev] at this
  rw [hti] at this
  simpa only [RepV] using this
 have ht1 : t1 < N := dsts_of hd ⟨some t1, .next (.tmp ti) false, ty1, pos1, af1, .none⟩ (by simp) t1 rfl
 have ht2 : t2 < N := dsts_of hd ⟨some t2, .extract (.tmp t1) 0, ty2, pos2, af2, .none⟩ (by simp) t2 rfl
 refine wp_region ?_
 rw [List.size_toArray, List.range_eq_range', wpOps_eq_wpList _ 0 (by simp)]
 have hrlt : r < c.w.heap.size := hr.mem.Olt r hO
 have hrown : ¬ c.own r := fun ho => hr.mem.notO r ho hO
 have key : ∀ (v0 : Bool) (rest : List Value) (w' : World) (c' : Cx), (Instr.next (.pointer (some ⟨r, 0, .none⟩)) false ty1).run P c.w = .ok (.tuple (.bool v0 :: rest).toArray) w' → c'.w = w' → (∀ a', Rep N c e m a' → Rep N c' e m a') → GI pr S c0 c' →
   ((left = [] ∧ v0 = false) ∨ ∃ z left', left.Perm (z :: left') ∧ v0 = true ∧ Iter f g xs r left' (some z) c') →
   wpList P [⟨some t1, .next (.tmp ti) false, ty1, pos1, af1, .none⟩, ⟨some t2, .extract (.tmp t1) 0, ty2, pos2, af2, .none⟩].toArray (fun x a' w' => x = .normal ∧ ∃ c' : Cx, c'.w = w' ∧ Rep N c' e m a' ∧ GI pr S c0 c' ∧ ((left = [] ∧ a'.eval (.tmp t2) = .bool false) ∨ ∃ z left', left.Perm (z :: left') ∧ a'.eval (.tmp t2) = .bool true ∧ Iter f g xs r left' (some z) c')) [⟨some t1, .next (.tmp ti) false, ty1, pos1, af1, .none⟩, ⟨some t2, .extract (.tmp t1) 0, ty2, pos2, af2, .none⟩] a c.w := by
  intro v0 rest w' c' hrun hw hrep hg hcase
  have hex : (execOp a.eval ⟨some t1, .next (.tmp ti) false, ty1, pos1, af1, .none⟩).run P c.w = .ok (.value (.tuple (.bool v0 :: rest).toArray)) w' := by
   simp [execOp, hv, hrun, Result.andThen]
  simp only [wpList]
  rw [if_pos (by rfl)]
  left
  unfold Oper.wp
  rw [hex, Oper.upon_value]
  rw [if_pos (by rfl)]
  left
  have hsz : t1 < a.tmps.size := by rw [hr.size]; exact ht1
  have hex2 : (execOp (a.put (some t1) (.tuple (.bool v0 :: rest).toArray)).eval ⟨some t2, .extract (.tmp t1) 0, ty2, pos2, af2, .none⟩).run P w' = .ok (.value (.bool v0)) w' := by
   simp [execOp, aput_at hsz, Instr.extract, Result.andThen]
  rw [hex2, Oper.upon_value]
  have hsz2 : t2 < (a.put (some t1) (.tuple (.bool v0 :: rest).toArray)).tmps.size := by simp [Act.put, hr.size]; exact ht2
  refine ⟨trivial, c', hw, rep_und (rep_und (hrep a hr) h1) h2, hg, ?_⟩
  rcases hcase with ⟨q1, q2⟩ | ⟨z, left', q1, q2, q3⟩
  ·exact .inl ⟨q1, by rw [aput_at hsz2, q2]⟩
  ·exact .inr ⟨z, left', q1, by rw [aput_at hsz2, q2], q3⟩
 rcases run_next_at (P := P) c.w ty1 r b since last seen es ck hh hm hold hsl with ⟨hz, hrun⟩ | ⟨en, hen, w1, hw1, hrun⟩
 ·exact key false [] c.w c hrun rfl (fun _ h => h) hG (.inl ⟨by rw [hleft]; exact pickL_nil hz, rfl⟩)
 ·have hmem := mem_left hen
  obtain ⟨j, hj⟩ := List.mem_iff_getElem?.1 hmem.1
  have hjx : j < xs.length := by rw [← hlen]; exact (List.getElem?_eq_some_iff.1 hj).1
  have hz : xs[j]? = some xs[j] := by simp [hjx]
  let w2 := ChangeMaps.setBlock w1 r (.mapIter (some b) since (seen.push en.born) ck)
  have hw1h : w1.heap = c.w.heap := by rcases hw1 with rfl | rfl <;> rfl
  have hsz2 : w2.heap.size = c.w.heap.size := by simp [w2, ChangeMaps.setBlock, hw1h]
  have hat : w2.heap[r]? = some (.mapIter (some b) since (seen.push en.born) ck) := by simp [w2, ChangeMaps.setBlock, hw1h, hrlt]
  have hoff : ∀ x, x ≠ r → w2.heap[x]? = c.w.heap[x]? := fun x hx => by simp [w2, ChangeMaps.setBlock, hw1h, Array.getElem?_setIfInBounds_ne (Ne.symm hx)]
  let c' : Cx := ⟨w2, c.B, c.O⟩
  have hle : c.Le c' := ⟨Nat.le_of_eq hsz2.symm, fun x hx hX => ⟨hoff x (fun h => hX (.inl (by rw [h]; exact hO))), hX⟩⟩
  have hmm : RepM c m → RepM c' m := fun hm0 => ⟨fun id => RepE.mono hle (fun _ => BLe.refl _) (fun be x hbe hx => hoff x fun h => hrown ⟨id, be, hbe, h ▸ hx⟩) (hm0.ent id), hm0.inj, hm0.notO, fun x hx => by rw [hsz2]; exact hm0.Olt x hx⟩
  have hbr : b ≠ r := fun h => by rw [h, hh] at hm; cases hm
  refine key true [en.key, en.val] w2 c' hrun rfl (fun a' h => ⟨fun i => RepV.mono hle _ _ (fun _ _ => BLe.refl _) (h.env i), hmm h.mem, h.size, h.defers⟩) ?_ (.inr ⟨xs[j], pickL xs es.toList (seen.push en.born), ?_, rfl, ?_⟩)
  ·refine ⟨hG.O, ?_, ?_, ?_, ?_, by rw [hsz2]; exact hG.size, fun x hx ho => (hoff x (fun h => by rw [h] at hx; exact absurd hx (Nat.not_lt.2 hr0))).trans (hG.keep x hx ho), hG.own, hG.prot⟩
   ·rcases hw1 with rfl | rfl <;> exact hG.os
   ·rcases hw1 with rfl | rfl <;> exact hG.tape
   ·rcases hw1 with rfl | rfl <;> exact hG.output
   ·rcases hw1 with rfl | rfl
    ·exact hG.drawn
    ·exact Nat.le_trans hG.drawn (Nat.le_succ _)
  ·rw [hleft]; exact pickL_next hbo.1 hlen hz hj hmem.2
  ·exact ⟨b, since, seen.push en.born, ck, es, ck, hO, ⟨by rw [hsz2]; exact hb.1, hb.2⟩, hat, (hoff b hbr).trans hm, hbo, hold, hsc, hsc, hlen, fun i z hi => by
    obtain ⟨en', e1, e2, e3⟩ := hel i z hi
    exact ⟨en', e1, repV_heap (c := c) (c' := c') hle e2, repV_heap (c := c) (c' := c') hle e3⟩, rfl, fun z hzz => by cases hzz; exact ⟨seen, en, j, rfl, rfl, hz, hj⟩⟩
theorem wpList_app {ops : Array Oper} {Q : Exit → Act → World → Prop} (l' : List Oper) : ∀ (l : List Oper) (a : Act) (w : World), wpList P ops (fun x a' w' => x = .normal ∧ wpList P ops Q l' a' w') l a w → wpList P ops Q (l ++ l') a w := by
 intro l
 induction l with
 | nil => intro a w hh; exact hh.2
 | cons o l ih =>
  intro a w hh
  simp only [List.cons_append, wpList] at hh ⊢
  split
  ·rename_i hwt
   rw [if_pos hwt] at hh
   rcases hh with hh | ⟨h1, a0, w0, h2⟩
   ·left
    unfold Oper.wp at hh ⊢
    generalize (execOp a.eval o).run P w = r at hh ⊢
    cases r with
    | ok nx w' =>
     cases nx <;> simp only [Oper.upon] at hh ⊢ <;> first
      | exact ih _ _ hh
      | exact Calls.mono hh (fun en w'' he => by cases en <;> first | exact ih _ _ he | exact absurd he.1 (by simp) | (obtain ⟨_, _, h, _⟩ := he; cases h))
      | exact Rows.mono hh (fun _ _ he => ih _ _ he)
    | halt x w' => cases x <;> simp only [Oper.upon] at hh ⊢ <;> first | exact absurd hh.1 (by simp) | exact hh | (obtain ⟨_, _, h, _⟩ := hh; cases h)
   ·cases h2.1
  ·rename_i hwt
   rw [if_neg hwt] at hh
   exact ih _ _ hh
theorem LHD.rangeMap {V : Type} {l0 : List Oper} {ridR ridN bid ti ts t1 t2 mid kt vt tr : Nat} {tyR ty1 ty2 : TypeId} {posR pos1 pos2 : String} {afR af1 af2 : Array Edge} {bodyc rest : Code} {Q : Exit → Env → Mem → Prop} {ml0 : List (Nat × LE)} {xs : List (α × β)} (I : Nat → List (α × β) → V → Prop) (el : Nat → V → List (Nat × LV)) (ml : V → List (Nat × LE)) (v0 : V) (n0 : Nat)
  (hf : ∀ z, (f z).pure = true) (hg : ∀ z, (g z).pure = true) (ht : tmap P tr = some (kt, vt)) (hI : I n0 xs v0)
  (hd : dstsOk N (l0 ++ [⟨some ti, .range tr (.tmp ts), tyR, posR, afR, .none⟩]) = true)
  (h0 : SOps P N (fun id => Mem.of ml0 id ≠ .none) (l0 ++ [(⟨some ti, .range tr (.tmp ts), tyR, posR, afR, .none⟩ : Oper)]).toArray l0 (fun e1 m1 => e1 ts = .mp mid ∧ m1 mid = some (.map kt vt (mlv f g xs)) ∧ (∀ r, Env.look (e1.put ti (.it r)) (el r v0) = el r v0) ∧ Mem.look m1 (ml v0) = LEs (ml v0) ∧ (∀ r, keptRefs (el r v0) (ml v0) = true) ∧ (ml0.all fun p => (ml v0).any fun q => q.1 == p.1) = true ∧ Mem.of (ml v0) mid = .none) e m)
  (hti : ∀ r v, Env.of (el r v) ti = .it r) (h1 : ∀ r v, Env.of (el r v) t1 = .und) (h2 : ∀ r v, Env.of (el r v) t2 = .und)
  (hdN : dstsOk N [⟨some t1, .next (.tmp ti) false, ty1, pos1, af1, .none⟩, ⟨some t2, .extract (.tmp t1) 0, ty2, pos2, af2, .none⟩] = true)
  (hbody : ∀ n left v, I n left v → ∀ z left', left.Perm (z :: left') → ∀ r, LHX P N (fun id => Mem.of ml0 id ≠ .none) (Iter f g xs r left' (some z)) bodyc (fun e' m' => ∃ n' v', n' < n ∧ I n' left' v' ∧ Wk (fun id => Mem.of ml0 id ≠ .none) e' m' (Env.of (el r v')) (Mem.of (ml v'))) (Env.of (el r v)) (Mem.of (ml v)))
  (hrest : ∀ n v, I n [] v → ∀ r, LHD P N (fun id => Mem.of ml0 id ≠ .none) rest Q (Env.of (el r v)) (Mem.of (ml v))) :
  LHD P N (fun id => Mem.of ml0 id ≠ .none) (.seq (.seq (.region ridR (l0 ++ [(⟨some ti, .range tr (.tmp ts), tyR, posR, afR, .none⟩ : Oper)]).toArray false) (.block bid (.loop (.seq (.region ridN [⟨some t1, .next (.tmp ti) false, ty1, pos1, af1, .none⟩, ⟨some t2, .extract (.tmp t1) 0, ty2, pos2, af2, .none⟩].toArray false) (.seq (.cond (.tmp t2) .skip (.exit bid)) bodyc))))) rest) Q e m := by
 intro c a hr
 obtain ⟨e1, m1, ⟨k1, k2, k3, k4, k5, k6, k7⟩, hrun⟩ := h0 (dsts_of hd) (fun o ho => by simp [ho])
 refine wp_seq (wp_seq ?_)
 refine wp_region ?_
 rw [List.size_toArray, List.range_eq_range', wpOps_eq_wpList _ 0 (by simp)]
 refine wpList_app _ _ _ _ ?_
 refine wpList_mono _ _ _ _ _ ?_ (hrun c a hr)
 rintro x a1 w1 ⟨rfl, c1, rfl, hr1, hg1⟩
 refine ⟨rfl, ?_⟩
 have htiN : ti < N := dsts_of hd ⟨some ti, .range tr (.tmp ts), tyR, posR, afR, .none⟩ (by simp) ti rfl
 obtain ⟨b, es, ck, hv, hh, c2, hw2, hr2, hIt, hG⟩ := iter_new (S := fun _ => True) (ti := ti) rfl hr1 k2 k1 htiN (fun r => el r v0) (ml v0) k3 k4 k5 k6 k7
 have hex : (execOp a1.eval ⟨some ti, .range tr (.tmp ts), tyR, posR, afR, .none⟩).run P c1.w = .ok (.value (.pointer (some ⟨c1.w.heap.size, 0, .none⟩))) (c1.w.alloc (.mapIter (some b) ck #[] ck)) := by
  simp [execOp, hv, run_range_map c1.w tr kt vt b es ck (tmap_under ht) hh, Result.andThen]
 simp only [wpList]
 rw [if_pos (by rfl)]
 left
 unfold Oper.wp
 rw [hex, Oper.upon_value]
 generalize hrr : c1.w.heap.size = r at hr2 hIt hG ⊢
 -- the loop
 have hloop : ∀ (cc : Cx) (aa : Act) (n : Nat) (left : List (α × β)) (v : V) (cur : Option (α × β)), I n left v → Rep N cc (Env.of (el r v)) (Mem.of (ml v)) aa → Iter f g xs r left cur cc → GI (fun id => Mem.of ml0 id ≠ .none) (fun x => x = r) c1 cc →
   (Code.loop (.seq (.region ridN [⟨some t1, .next (.tmp ti) false, ty1, pos1, af1, .none⟩, ⟨some t2, .extract (.tmp t1) 0, ty2, pos2, af2, .none⟩].toArray false) (.seq (.cond (.tmp t2) .skip (.exit bid)) bodyc))).wp P (fun x a' w' => x = .exit bid ∧ ∃ (c' : Cx) (n : Nat) (v : V), c'.w = w' ∧ I n [] v ∧ Rep N c' (Env.of (el r v)) (Mem.of (ml v)) a' ∧ GI (fun id => Mem.of ml0 id ≠ .none) (fun x => x = r) c1 c') aa cc.w := by
  intro cc aa n left v cur hIn hrep hit hgi
  refine wp_loop_ghost (fun k a w => ∃ (c' : Cx) (left : List (α × β)) (v : V) (cur : Option (α × β)), c'.w = w ∧ I k left v ∧ Rep N c' (Env.of (el r v)) (Mem.of (ml v)) a ∧ Iter f g xs r left cur c' ∧ GI (fun id => Mem.of ml0 id ≠ .none) (fun x => x = r) c1 c') n ⟨cc, left, v, cur, rfl, hIn, hrep, hit, hgi⟩ ?_
  rintro k a w ⟨c', left, v, cur, rfl, hIk, hrep, hit, hgi⟩
  refine wp_seq (wp_mono (iter_next (rid := ridN) hrep (hti r v) (h1 r v) (h2 r v) hdN hit hgi rfl (by rw [hrr]; exact Nat.le_refl _)) ?_)
  rintro x a' w' ⟨rfl, c'', rfl, hrep', hgi', hcase⟩
  show Code.wp P _ _ a' c''.w
  rcases hcase with ⟨hl, hb⟩ | ⟨z, left', hp, hb, hit'⟩
  ·refine wp_seq (wp_cond_false hb (wp_exit ?_))
   show _ = _ ∧ _
   subst hl
   exact ⟨rfl, c'', k, v, rfl, hIk, hrep', hgi'⟩
  ·refine wp_seq (wp_cond_true hb (wp_skip ?_))
   show Code.wp P bodyc _ a' c''.w
   obtain ⟨e', m', hx, n', v', hn', hI', hw'⟩ := hbody k left v hIk z left' hp r
   refine wp_mono (hx c'' a' hrep' hit') ?_
   rintro x a3 w3 ⟨rfl, c3, rfl, hr3, hg3⟩
   obtain ⟨c4, hw4, hr4, hg4⟩ := hw' N c3 a3 hr3
   refine ⟨n', hn', c4, left', v', some z, hw4, hI', hr4, ?_, hgi'.grow (hg3.trans hg4)⟩
   exact hit'.grow hf hg hrep'.mem (hg3.trans hg4)
 show Code.wp P (.block bid _) _ _ _
 rw [← hw2]
 refine wp_block (wp_mono (hloop c2 _ n0 xs v0 .none hI hr2 hIt hG) ?_)
 rintro x a' w' ⟨rfl, c', n, v, rfl, hIn, hrep, hgi⟩
 simp only [Exit.inBlock, if_true]
 show Code.wp P rest _ a' c'.w
 obtain ⟨c5, hw5, hr5, hg5⟩ := hgi.done hrep
 rw [← hw5]
 refine wp_mono (hrest n v hIn r c5 a' hr5) ?_
 rintro x a6 w6 ⟨e6, m6, c6, hw6, hr6, hg6, hq6⟩
 exact ⟨e6, m6, c6, hw6, hr6, (hg1.trans hg5).trans hg6, hq6⟩
theorem LHD.rangeM {V : Type} {l : List Oper} {ridR ridN bid ti ts t1 t2 kt vt tr : Nat} {tyR ty1 ty2 : TypeId} {posR pos1 pos2 : String} {afR af1 af2 : Array Edge} {bodyc rest : Code} {Q : Exit → Env → Mem → Prop} {ml0 : List (Nat × LE)} (mid : Nat) (xs : List (α × β)) (I : Nat → List (α × β) → V → Prop) (el : Nat → V → List (Nat × LV)) (ml : V → List (Nat × LE)) (v0 : V) (n0 : Nat)
  (hf : ∀ z, (f z).pure = true) (hg : ∀ z, (g z).pure = true) (ht : tmap P tr = some (kt, vt)) (hI : I n0 xs v0)
  (hl : l.dropLast ++ [(⟨some ti, .range tr (.tmp ts), tyR, posR, afR, .none⟩ : Oper)] = l)
  (hd : dstsOk N l = true)
  (h0 : SOps P N (fun id => Mem.of ml0 id ≠ .none) l.toArray l.dropLast (fun e1 m1 => e1 ts = .mp mid ∧ m1 mid = some (.map kt vt (mlv f g xs)) ∧ (∀ r, Env.look (e1.put ti (.it r)) (el r v0) = el r v0) ∧ Mem.look m1 (ml v0) = LEs (ml v0) ∧ (∀ r, keptRefs (el r v0) (ml v0) = true) ∧ (ml0.all fun p => (ml v0).any fun q => q.1 == p.1) = true ∧ Mem.of (ml v0) mid = .none) e m)
  (hti : ∀ r v, Env.of (el r v) ti = .it r) (h1 : ∀ r v, Env.of (el r v) t1 = .und) (h2 : ∀ r v, Env.of (el r v) t2 = .und)
  (hdN : dstsOk N [⟨some t1, .next (.tmp ti) false, ty1, pos1, af1, .none⟩, ⟨some t2, .extract (.tmp t1) 0, ty2, pos2, af2, .none⟩] = true)
  (hbody : ∀ n left v, I n left v → ∀ z left', left.Perm (z :: left') → ∀ r, LHX P N (fun id => Mem.of ml0 id ≠ .none) (Iter f g xs r left' (some z)) bodyc (fun e' m' => ∃ n' v', n' < n ∧ I n' left' v' ∧ Wk (fun id => Mem.of ml0 id ≠ .none) e' m' (Env.of (el r v')) (Mem.of (ml v'))) (Env.of (el r v)) (Mem.of (ml v)))
  (hrest : ∀ n v, I n [] v → ∀ r, LHD P N (fun id => Mem.of ml0 id ≠ .none) rest Q (Env.of (el r v)) (Mem.of (ml v))) :
  LHD P N (fun id => Mem.of ml0 id ≠ .none) (.seq (.seq (.region ridR l.toArray false) (.block bid (.loop (.seq (.region ridN [⟨some t1, .next (.tmp ti) false, ty1, pos1, af1, .none⟩, ⟨some t2, .extract (.tmp t1) 0, ty2, pos2, af2, .none⟩].toArray false) (.seq (.cond (.tmp t2) .skip (.exit bid)) bodyc))))) rest) Q e m := by
 have key := LHD.rangeMap (P := P) (N := N) (e := e) (m := m) (f := f) (g := g) (l0 := l.dropLast) (ridR := ridR) (ridN := ridN) (bid := bid) (ti := ti) (ts := ts) (t1 := t1) (t2 := t2) (mid := mid) (tyR := tyR) (posR := posR) (afR := afR) (ty1 := ty1) (pos1 := pos1) (af1 := af1) (ty2 := ty2) (pos2 := pos2) (af2 := af2) (rest := rest) (Q := Q) (ml0 := ml0) I el ml v0 n0 hf hg ht hI (by rw [hl]; exact hd) (by rw [hl]; exact h0) hti h1 h2 hdN hbody hrest
 rw [hl] at key
 exact key
theorem pickStep {α β : Type} {left left' : List α} {z : α} {A : Option β} {F : α → List α → Option β} {r : β} (h : (if left.isEmpty = true then A else anyPick left F) = some r) (hp : left.Perm (z :: left')) : F z left' = some r := by
 have hne : left ≠ [] := fun h0 => by subst h0; have := hp.length_eq; simp at this
 have : left.isEmpty = false := by cases left with | nil => exact absurd rfl hne | cons _ _ => rfl
 rw [this] at h
 exact anyPick_to h z left' hp
end
end Go.L
set_option linter.unusedVariables false
namespace Go.L
open Go.RowKit
abbrev cx0 (w : World) : Cx := ⟨w, fun _ => .none, fun _ => False⟩
theorem rpN {c : Cx} : RepL c [] [] := by simp [RepL]
theorem rpC {c : Cx} {x : LV} {v : Value} {xs : List LV} {vs : List Value} (h : RepV c x v) (hr : RepL c xs vs) : RepL c (x :: xs) (v :: vs) := by simp only [RepL]; exact ⟨v, vs, rfl, h, hr⟩
theorem rpI {c : Cx} {k : IntKind} {n : Int} : RepV c (.int k n) (.int k n) := by simp [RepV]
theorem noX (w : World) (b : Nat) : ¬ (cx0 w).X b := by
 rintro (h | ⟨_, _, h, _⟩)
 ·exact h
 ·cases h
theorem lawWalk {P : Program} {f : Nat} {args : List LV} (h : LCall P f args (Mem.of []) (.bool true) (Mem.of [])) (w : World) (vs : List Value) (ha : RepL (cx0 w) args vs) :
  Calls P f vs.toArray w fun e w' => e = .returned (.bool true) ∧ Below w.heap.size w w' := by
 refine (PCall.calls h w vs ha).mono ?_
 rintro en w' ⟨⟨v, c', rfl, rfl, hv⟩, hb⟩
 simp only [RepV] at hv
 subst hv
 exact ⟨rfl, hb⟩
end Go.L
set_option linter.unusedVariables false
set_option linter.unusedSimpArgs false
namespace Go.L
def Opens (P : Program) (t : TypeId) (k : Nat) {α : Type} (f : α → LV) : Prop :=
 ∀ {H : Type} {enc : TypeId × Value → H} {W : World} {base : Nat} {sp : Nat → Bool} {hd : Bool} {fuel : Nat} {cs : List Value} {x : DataW H × List MemPlace}, DataW.trod enc P W base sp hd fuel t cs = some x →
  ∃ z : α, cs.length = k ∧ RepL (cx0 W) (f z).cells cs ∧ ∀ v ∈ cs, v.oneCell' = true
theorem opens_int {P : Program} {t : TypeId} {k : IntKind} (ht : P.underlying t = some (.int k)) : Opens P t 1 (LV.int k) := by
 intro H enc W base sp hd fuel cs x h
 obtain ⟨n, rfl, _, _⟩ := DataW.trod_int ht h
 exact ⟨n, rfl, rpC rpI rpN, fun v hv => by simp at hv; subst hv; rfl⟩
theorem open_el {c : Cx} {x : LV} {cs : List Value} (hx : (∃ l, x = .agg l) ∨ x.scalar = true) (h : RepL c x.cells cs) (h1 : ∀ v ∈ cs, v.oneCell' = true) : ∃ u, RepV c x u ∧ u.cells.toList = cs := by
 rcases hx with ⟨l, rfl⟩ | hs
 ·exact ⟨.agg cs.toArray, by simp only [RepV]; exact ⟨cs, rfl, h⟩, by simp [Value.cells]⟩
 ·have hc : x.cells = [x] := by cases x <;> first | rfl | simp [LV.scalar] at hs
  rw [hc] at h
  simp only [RepL] at h
  obtain ⟨v, vs, rfl, hv, rfl⟩ := h
  refine ⟨v, hv, ?_⟩
  have := h1 v (by simp)
  cases v <;> first | rfl | simp [Value.oneCell'] at this
theorem flat_len {k : Nat} : ∀ {vs : List Value}, (∀ u ∈ vs, u.cells.size = k) → (flat vs).length = vs.length * k
 | [], _ => by simp [flat]
 | v :: vs, h => by
  have h1 := h v (by simp)
  have h2 := flat_len (k := k) (vs := vs) fun u hu => h u (by simp [hu])
  simp only [flat, List.flatMap_cons, List.length_append, List.length_cons, Array.length_toList] at h2 ⊢
  rw [h1, h2, Nat.add_mul]; omega
theorem flat_snoc (vs : List Value) (u : Value) : flat (vs ++ [u]) = flat vs ++ u.cells.toList := by simp [flat]
theorem opens_slice {P : Program} {t e : TypeId} {k : Nat} {α : Type} {f : α → LV} (ht : P.underlying t = some (.slice e)) (hc : P.cellsOf e = k) (hk : 0 < k) (hok : OkF k f) (hel : ∀ z, (∃ l, f z = .agg l) ∨ (f z).scalar = true) (he : Opens P e k f) : Opens P t 1 (lvl k f) := by
 intro H enc W base sp hd fuel cs x h
 rcases Deep.open_slice ht h with ⟨rfl, _⟩ | ⟨a, len, cap, m, n, D, Pl, rfl, hb, hl, hm, hmm, rfl, hx⟩
 ·refine ⟨[], rfl, rpC ?_ rpN, fun v hv => by simp at hv; subst hv; rfl⟩
  simp only [RepV, lvl]
  exact ⟨.none, 0, rfl, Nat.le_refl _, fun _ => rfl, rfl, .inl rfl⟩
 ·have hlm : len ≤ m := by rw [hmm]; split <;> omega
  -- the first n elements
  have key : ∀ n, n ≤ len → ∃ (zs : List α) (vs : List Value), zs.length = n ∧ vs.length = n ∧ RepL (cx0 W) (zs.map f) vs ∧ (∀ u ∈ vs, u.cells.size = k ∧ ∀ y ∈ u.cells, y.oneCell' = true) ∧ ∀ j v, (flat vs)[j]? = some v → W.cell? (a.add j) = some v := by
   intro n
   induction n with
   | zero => intro _; exact ⟨[], [], rfl, rfl, rpN, by simp, fun j v hv => by simp [flat] at hv⟩
   | succ n ih =>
    intro hn
    obtain ⟨zs, vs, h1, h2, h3, h4, h5⟩ := ih (by omega)
    obtain ⟨cs', g1, g2⟩ := hx n (by omega)
    obtain ⟨z, z1, z2, z3⟩ := he g2
    obtain ⟨u, u1, u2⟩ := open_el (hel z) z2 z3
    rw [hc] at g1
    obtain ⟨_, g3, g4⟩ := World.cells?_some g1
    have hus : u.cells.size = k := by rw [← Array.length_toList, u2, z1]
    refine ⟨zs ++ [z], vs ++ [u], by simp [h1], by simp [h2], ?_, ?_, ?_⟩
    ·rw [List.map_append]; exact RepL.append h3 (rpC u1 rpN)
    ·intro y hy
     rcases List.mem_append.1 hy with hy | hy
     ·exact h4 y hy
     ·simp at hy; subst hy
      exact ⟨hus, fun q hq => z3 q (by rw [← u2]; exact hq.val)⟩
    ·intro j v hv
     rw [flat_snoc] at hv
     have hfl := flat_len (k := k) (vs := vs) fun u hu => (h4 u hu).1
     rw [h2] at hfl
     by_cases hj : j < (flat vs).length
     ·rw [List.getElem?_append_left hj] at hv; exact h5 j v hv
     ·rw [List.getElem?_append_right (by omega), u2] at hv
      have hjk : j - (flat vs).length < k := by
       have := (List.getElem?_eq_some_iff.1 hv).1; omega
      have := g4 (j - (flat vs).length) hjk
      rw [Deep.add_add, hv] at this
      rw [← this]; congr 2; omega
  obtain ⟨zs, vs, h1, h2, h3, h4, h5⟩ := key len (Nat.le_refl _)
  refine ⟨zs, rfl, rpC ?_ rpN, fun v hv => by simp at hv; subst hv; rfl⟩
  simp only [RepV, lvl]
  refine ⟨some a, cap, by simp [h1], by simpa [h1] using hl, (fun h => by cases h), hok.pureL zs, ?_⟩
  by_cases h0 : len = 0
  ·left; rw [h0] at h1; simp [List.eq_nil_of_length_eq_zero h1]
  ·right
   have hpos : 0 < (flat vs).length := by
    rw [flat_len (k := k) fun u hu => (h4 u hu).1, h2]; exact Nat.mul_pos (by omega) hk
   have hc0 := h5 0 (flat vs)[0] (by simp [hpos])
   obtain ⟨b, off, spot⟩ := a
   have hspot : spot = .none := by simpa [Addr.add] using World.cell?_spot hc0
   subst hspot
   refine ⟨b, off, vs, rfl, ?_, noX W b, h3, h4, ?_⟩
   ·by_cases hlt : b < W.heap.size
    ·exact hlt
    ·have : W.heap[b]? = .none := by simp; omega
     simp [World.cell?, Addr.add, this] at hc0
   ·intro j v hv
    have := h5 j v hv
    rwa [Addr.add_mid] at this
theorem spl {α : Type} {cs : List α} {o a o' : Nat} (h : o + a = o') : cs.drop o = (cs.drop o).take a ++ cs.drop o' := by
 subst h; rw [← List.drop_drop]; exact (List.take_append_drop a (cs.drop o)).symm
theorem splE {α : Type} {cs : List α} {o a : Nat} (h : cs.length ≤ o + a) : cs.drop o = (cs.drop o).take a := (List.take_of_length_le (by simp; omega)).symm
end Go.L
set_option linter.unusedVariables false
set_option linter.unusedSimpArgs false
namespace Go.L
structure Bulky {H : Type} (ub : DataW H → Nat) : Prop where
 len : ∀ es sp, es.length ≤ ub (.slice es sp)
 el : ∀ es sp d, d ∈ es → ub d ≤ ub (.slice es sp)
 part : ∀ ps d, d ∈ ps → ub d ≤ ub (.agg ps)
def OpensU (P : Program) (t : TypeId) (k : Nat) {α : Type} (f : α → LV) (S : α → Nat → Prop) : Prop :=
 ∀ {H : Type} {enc : TypeId × Value → H} {W : World} {base : Nat} {sp : Nat → Bool} {hd : Bool} {fuel : Nat} {cs : List Value} {x : DataW H × List MemPlace}, DataW.trod enc P W base sp hd fuel t cs = some x → ∀ ub : DataW H → Nat, Bulky ub →
  ∃ z : α, cs.length = k ∧ RepL (cx0 W) (f z).cells cs ∧ (∀ v ∈ cs, v.oneCell' = true) ∧ ∀ n, ub x.1 ≤ n → S z n
theorem opensU_of {P : Program} {t : TypeId} {k : Nat} {α : Type} {f : α → LV} (h : Opens P t k f) : OpensU P t k f (fun _ _ => True) := by
 intro H enc W base sp hd fuel cs x hx ub hub
 obtain ⟨z, h1, h2, h3⟩ := h hx
 exact ⟨z, h1, h2, h3, fun _ _ => trivial⟩
theorem opensU_slice {P : Program} {t e : TypeId} {k : Nat} {α : Type} {f : α → LV} {S : α → Nat → Prop} (ht : P.underlying t = some (.slice e)) (hc : P.cellsOf e = k) (hk : 0 < k) (hok : OkF k f) (hel : ∀ z, (∃ l, f z = .agg l) ∨ (f z).scalar = true) (he : OpensU P e k f S) : OpensU P t 1 (lvl k f) (fun zs n => zs.length ≤ n ∧ ∀ z ∈ zs, S z n) := by
 intro H enc W base sp hd fuel cs x h ub hub
 rcases Deep.open_slice ht h with ⟨rfl, _⟩ | ⟨a, len, cap, m, n, D, Pl, rfl, hb, hl, hm, hmm, rfl, hx⟩
 ·refine ⟨[], rfl, rpC ?_ rpN, fun v hv => by simp at hv; subst hv; rfl, fun n _ => ⟨by simp, by simp⟩⟩
  simp only [RepV, lvl]
  exact ⟨.none, 0, rfl, Nat.le_refl _, fun _ => rfl, rfl, .inl rfl⟩
 ·have hlm : len ≤ m := by rw [hmm]; split <;> omega
  -- the first n elements
  have key : ∀ n, n ≤ len → ∃ (zs : List α) (vs : List Value), zs.length = n ∧ vs.length = n ∧ RepL (cx0 W) (zs.map f) vs ∧ (∀ u ∈ vs, u.cells.size = k ∧ ∀ y ∈ u.cells, y.oneCell' = true) ∧ (∀ j v, (flat vs)[j]? = some v → W.cell? (a.add j) = some v) ∧ ∀ q, ub (.slice ((List.range len).map D) ((List.range (m - len)).map fun j => D (len + j))) ≤ q → ∀ z ∈ zs, S z q := by
   intro n
   induction n with
   | zero => intro _; exact ⟨[], [], rfl, rfl, rpN, by simp, fun j v hv => by simp [flat] at hv, by simp⟩
   | succ n ih =>
    intro hn
    obtain ⟨zs, vs, h1, h2, h3, h4, h5, h6⟩ := ih (by omega)
    obtain ⟨cs', g1, g2⟩ := hx n (by omega)
    obtain ⟨z, z1, z2, z3, z4⟩ := he g2 ub hub
    obtain ⟨u, u1, u2⟩ := open_el (hel z) z2 z3
    rw [hc] at g1
    obtain ⟨_, g3, g4⟩ := World.cells?_some g1
    have hus : u.cells.size = k := by rw [← Array.length_toList, u2, z1]
    refine ⟨zs ++ [z], vs ++ [u], by simp [h1], by simp [h2], ?_, ?_, ?_, ?_⟩
    ·rw [List.map_append]; exact RepL.append h3 (rpC u1 rpN)
    ·intro y hy
     rcases List.mem_append.1 hy with hy | hy
     ·exact h4 y hy
     ·simp at hy; subst hy
      exact ⟨hus, fun q hq => z3 q (by rw [← u2]; exact hq.val)⟩
    ·intro j v hv
     rw [flat_snoc] at hv
     have hfl := flat_len (k := k) (vs := vs) fun u hu => (h4 u hu).1
     rw [h2] at hfl
     by_cases hj : j < (flat vs).length
     ·rw [List.getElem?_append_left hj] at hv; exact h5 j v hv
     ·rw [List.getElem?_append_right (by omega), u2] at hv
      have hjk : j - (flat vs).length < k := by
       have := (List.getElem?_eq_some_iff.1 hv).1; omega
      have := g4 (j - (flat vs).length) hjk
      rw [Deep.add_add, hv] at this
      rw [← this]; congr 2; omega
    ·intro q hq z' hz'
     rcases List.mem_append.1 hz' with hz' | hz'
     ·exact h6 q hq z' hz'
     ·simp at hz'; subst hz'
      exact z4 q (Nat.le_trans (hub.el _ _ (D n) (by simp; exact ⟨n, by omega, rfl⟩)) hq)
  obtain ⟨zs, vs, h1, h2, h3, h4, h5, h6⟩ := key len (Nat.le_refl _)
  refine ⟨zs, rfl, rpC ?_ rpN, fun v hv => by simp at hv; subst hv; rfl, fun q hq => ⟨?_, h6 q hq⟩⟩
  rotate_left
  ·have := hub.len ((List.range len).map D) ((List.range (m - len)).map fun j => D (len + j))
   simp at this; simp only at hq; omega
  simp only [RepV, lvl]
  refine ⟨some a, cap, by simp [h1], by simpa [h1] using hl, (fun h => by cases h), hok.pureL zs, ?_⟩
  by_cases h0 : len = 0
  ·left; rw [h0] at h1; simp [List.eq_nil_of_length_eq_zero h1]
  ·right
   have hpos : 0 < (flat vs).length := by
    rw [flat_len (k := k) fun u hu => (h4 u hu).1, h2]; exact Nat.mul_pos (by omega) hk
   have hc0 := h5 0 (flat vs)[0] (by simp [hpos])
   obtain ⟨b, off, spot⟩ := a
   have hspot : spot = .none := by simpa [Addr.add] using World.cell?_spot hc0
   subst hspot
   refine ⟨b, off, vs, rfl, ?_, noX W b, h3, h4, ?_⟩
   ·by_cases hlt : b < W.heap.size
    ·exact hlt
    ·have : W.heap[b]? = .none := by simp; omega
     simp [World.cell?, Addr.add, this] at hc0
   ·intro j v hv
    have := h5 j v hv
    rwa [Addr.add_mid] at this

theorem opensU_val {P : Program} {t : TypeId} {α : Type} {f : α → LV} {S : α → Nat → Prop} (h : OpensU P t 1 f S) (hs : ∀ z, (f z).scalar = true) {H : Type} {enc : TypeId × Value → H} {W : World} {base : Nat} {sp : Nat → Bool} {hd : Bool} {v : Value} (hv : v.oneCell' = true) {d : DataW H} {p : List MemPlace} (ht : DataW.Trod enc P W base sp hd t v d p) {ub : DataW H → Nat} (hub : Bulky ub) {n : Nat} (hn : ub d ≤ n) : ∃ z : α, RepV (cx0 W) (f z) v ∧ S z n := by
 obtain ⟨fuel, hf⟩ := ht
 obtain ⟨z, _, h2, _, h4⟩ := h hf ub hub
 have hc : (f z).cells = [f z] := by have := hs z; cases hz : f z <;> rw [hz] at this <;> first | rfl | simp [LV.scalar] at this
 have hcv : v.cells.toList = [v] := by cases v <;> first | rfl | simp [Value.oneCell'] at hv
 rw [hc, hcv] at h2
 simp only [RepL] at h2
 obtain ⟨u, us, hu, h3, rfl⟩ := h2
 cases hu
 exact ⟨z, h3, h4 n hn⟩
end Go.L
