/- A logic over logical memory, part 14: typed steps. Each operation has a rule whose side conditions close by computation, so that a program can print a walk. -/
import Derived.Test.YtapnjifcfljmmaaLm
set_option linter.unusedVariables false
set_option linter.unusedSimpArgs false
namespace Go.L

/-- whatever is x is y -/
def Sub (x y : LV) : Prop := ∀ c v, RepV c x v → RepV c y v
def SubL : List LV → List LV → Prop
  | [], [] => True
  | x :: xs, y :: ys => Sub x y ∧ SubL xs ys
  | _, _ => False
theorem Sub.rfl {x : LV} : Sub x x := fun _ _ h => h
theorem Sub.trans {x y z : LV} (h : Sub x y) (k : Sub y z) : Sub x z := fun c v hv => k c v (h c v hv)
theorem Sub.und {x : LV} : Sub x .und := fun _ _ _ => by simp [RepV]
theorem Sub.nil {k : Nat} : Sub .nil (.lst k []) := fun c v h => by
  simp only [RepV] at h ⊢
  subst h
  exact ⟨.none, 0, by rfl, Nat.le_refl _, fun _ => by rfl, by rfl, .inl trivial⟩
theorem SubL.rep : ∀ {xs ys : List LV}, SubL xs ys → ∀ {c : Cx} {vs : List Value}, RepL c xs vs → RepL c ys vs
  | [], [], _, c, vs, h => h
  | x :: xs, y :: ys, hs, c, vs, h => by
    simp only [RepL] at h ⊢
    obtain ⟨v, vs', h0, h1, h2⟩ := h
    exact ⟨v, vs', h0, hs.1 c v h1, SubL.rep hs.2 h2⟩
theorem SubL.rfl : ∀ {xs : List LV}, SubL xs xs
  | [] => trivial
  | x :: xs => ⟨Sub.rfl, SubL.rfl⟩
theorem Sub.agg {xs ys : List LV} (h : SubL xs ys) : Sub (.agg xs) (.agg ys) := fun c v hv => by
  simp only [RepV] at hv ⊢
  obtain ⟨vs, h0, h1⟩ := hv
  exact ⟨vs, h0, h.rep h1⟩
theorem Sub.tup {xs ys : List LV} (h : SubL xs ys) : Sub (.tup xs) (.tup ys) := fun c v hv => by
  simp only [RepV] at hv ⊢
  obtain ⟨vs, h0, h1⟩ := hv
  exact ⟨vs, h0, h.rep h1⟩
theorem Sub.fn {f : Nat} {xs ys : List LV} (h : SubL xs ys) : Sub (.fn f xs) (.fn f ys) := fun c v hv => by
  simp only [RepV] at hv ⊢
  obtain ⟨vs, h0, h1⟩ := hv
  exact ⟨vs, h0, h.rep h1⟩
theorem LCall.sub {P : Program} {f : Nat} {args args' : List LV} {m m' : Mem} {lv : LV} (h : LCall P f args' m lv m') (hs : SubL args args') : LCall P f args m lv m' := fun c vs hm ha => h c vs hm (hs.rep ha)
theorem LCall.res {P : Program} {f : Nat} {args : List LV} {m m' : Mem} {lv lv' : LV} (h : LCall P f args m lv m') (hs : Sub lv lv') : LCall P f args m lv' m' := fun c vs hm ha => (h c vs hm ha).mono fun en w' ⟨v, c', h1, h2, h3, h4, h5⟩ => ⟨v, c', h1, h2, h3, hs c' v h4, h5⟩

/-- an element of k scalar cells -/
def OkF {α : Type} (k : Nat) (f : α → LV) : Prop := ∀ x, (f x).pure = true ∧ (f x).cells.length = k ∧ (f x).cells.all LV.scalar = true
theorem OkF.els {α : Type} {k : Nat} {f : α → LV} (h : OkF k f) (xs : List α) : okEls k (xs.map f) := by
  intro x hx
  obtain ⟨y, _, rfl⟩ := List.mem_map.1 hx
  exact h y
theorem OkF.pureL {α : Type} {k : Nat} {f : α → LV} (h : OkF k f) (xs : List α) : LV.pureL (xs.map f) = true := pureL_iff.2 fun x hx => by
  obtain ⟨y, _, rfl⟩ := List.mem_map.1 hx
  exact (h y).1
theorem okI {k : IntKind} : OkF 1 (LV.int k) := fun _ => ⟨by rfl, by rfl, by rfl⟩
theorem okB : OkF 1 LV.bool := fun _ => ⟨by rfl, by rfl, by rfl⟩
theorem okL {α : Type} {k : Nat} {f : α → LV} : OkF 1 (fun xs : List α => LV.lst k (xs.map f)) := fun _ => ⟨by rfl, by rfl, by rfl⟩

/- the partial words of the plain functions -/
def idx {α : Type} (xs : List α) (i : Int) : Option α := if 0 ≤ i then xs[i.toNat]? else .none
def slc {α : Type} (xs : List α) (a b : Int) : Option (List α) := if 0 ≤ a ∧ a ≤ b ∧ b ≤ xs.length then some ((xs.take b.toNat).drop a.toNat) else .none
def app {α : Type} (xs ys : List α) : Option (List α) := if xs.length + ys.length ≤ 1099511627776 then some (xs ++ ys) else .none
def quo (k : IntKind) (a b : Int) : Option Int := if b = 0 then .none else some (k.wrap (a.tdiv b))
def rmd (a b : Int) : Option Int := if b = 0 then .none else some (a.tmod b)
def mkl {α : Type} (z : α) (n : Int) : Option (List α) := if 0 ≤ n ∧ n ≤ 1099511627776 then some (List.replicate n.toNat z) else .none
def put {α : Type} (xs : List α) (i : Int) (f : α → α) : Option (List α) := (idx xs i).bind fun x => some (xs.set i.toNat (f x))
abbrev i64 (n : Int) : Int := IntKind.i64.wrap n

theorem bindS {α β : Type} {o : Option α} {f : α → Option β} {r : β} (h : o.bind f = some r) : ∃ a, o = some a ∧ f a = some r := by
  cases o with
  | none => cases h
  | some a => exact ⟨a, rfl, h⟩
theorem iteT {α : Type} {b : Bool} {x y : Option α} {r : α} (h : (if b = true then x else y) = some r) (hb : b = true) : x = some r := by rw [if_pos hb] at h; exact h
theorem iteF {α : Type} {b : Bool} {x y : Option α} {r : α} (h : (if b = true then x else y) = some r) (hb : b = false) : y = some r := by rw [if_neg (by simp [hb])] at h; exact h
theorem bF {b : Bool} (h : ¬ b = true) : b = false := by cases b <;> simp_all

section
variable {P : Program} {N : Nat} {pr : Nat → Prop} {ro : List Nat} {ops : Array Oper} {e : Env} {m : Mem} {ev : Operand → LV} {d : Option Nat} {i j q : Nat} {want : Bool} {op : Op} {ty : TypeId} {pos : String} {af : Array Edge} {g : Option (Nat × Bool)} {l : List Oper} {mds : List Nat} {KE : Env → Mem → Prop} {K : LV → Mem → Prop}

/- steps of a region in its text's order -/
/-- the operations that are left come to a state that K holds of -/
def SOps (P : Program) (N : Nat) (pr : Nat → Prop) (ops : Array Oper) (l : List Oper) (K : Env → Mem → Prop) (e : Env) (m : Mem) : Prop :=
  (∀ q ∈ ops, ∀ i, q.dst = some i → i < N) → (∀ o ∈ l, o ∈ ops) → ∃ e' m', K e' m' ∧ ∀ (c : Cx) (a : Act), Rep N c e m a → wpList P ops (fun x a' w' => x = .normal ∧ ∃ c' : Cx, c'.w = w' ∧ Rep N c' e' m' a' ∧ Grow pr c c') l a c.w
theorem wpList_mono : ∀ (l : List Oper) (a : Act) (w : World) (Q Q' : Exit → Act → World → Prop), (∀ x a w, Q x a w → Q' x a w) → wpList P ops Q l a w → wpList P ops Q' l a w := by
  intro l
  induction l with
  | nil => intro a w Q Q' hq hh; exact hq _ _ _ hh
  | cons o l ih =>
    intro a w Q Q' hq hh
    simp only [wpList] at hh ⊢
    split
    · rename_i hwt
      rw [if_pos hwt] at hh
      rcases hh with hh | ⟨h1, a0, w0, h2⟩
      · left
        unfold Oper.wp at hh ⊢
        generalize (execOp a.eval o).run P w = r at hh ⊢
        cases r with
        | ok nx w' =>
          cases nx <;> simp only [Oper.upon] at hh ⊢ <;> first
            | exact ih _ _ _ _ hq hh
            | exact Calls.mono hh (fun en w'' he => by cases en <;> first | exact ih _ _ _ _ hq he | exact hq _ _ _ he | exact he.imp fun _ => Exists.imp fun _ => hq _ _ _)
            | exact Rows.mono hh (fun _ _ he => ih _ _ _ _ hq he)
        | halt x w' => cases x <;> simp only [Oper.upon] at hh ⊢ <;> first | exact hq _ _ _ hh | exact hh
      · exact .inr ⟨h1, a0, w0, hq _ _ _ h2⟩
    · rename_i hwt
      rw [if_neg hwt] at hh
      exact ih _ _ _ _ hq hh
theorem SOps.step {o : Oper} (h : LStep P pr ro ops o (SOps P N pr ops l KE) e m) : SOps P N pr ops (o :: l) KE e m := by
  intro hd hl
  obtain ⟨lv, m1, h1, hstep⟩ := LStep_sound hd (hd o (hl o (by simp))) h
  obtain ⟨e', m', hK, hrest⟩ := h1 hd (fun q hq => hl q (by simp [hq]))
  refine ⟨e', m', hK, fun c a hr => ?_⟩
  simp only [wpList]
  refine hstep c a _ _ hr ?_
  intro a' c' hr' hs
  refine wpList_mono _ _ _ _ _ ?_ (hrest c' a' hr')
  rintro x a'' w'' ⟨hx, c2, hw2, hr2, hg2⟩
  exact ⟨hx, c2, hw2, hr2, hs.grow.trans hg2⟩
theorem SOps.wk {e' : Env} {m' : Mem} (hw : Wk pr e m e' m') (h : SOps P N pr ops l KE e' m') : SOps P N pr ops l KE e m := by
  intro hd hl
  obtain ⟨e2, m2, hK, hrun⟩ := h hd hl
  refine ⟨e2, m2, hK, fun c a hr => ?_⟩
  obtain ⟨c1, hw1, hr1, hg1⟩ := hw N c a hr
  rw [← hw1]
  refine wpList_mono _ _ _ _ _ ?_ (hrun c1 a hr1)
  rintro x a' w' ⟨hx, c2, hw2, hr2, hg2⟩
  exact ⟨hx, c2, hw2, hr2, hg1.trans hg2⟩
theorem s0 (h : KE e m) : SOps P N pr ops [] KE e m := fun _ _ => ⟨e, m, h, fun c a hr => ⟨rfl, c, rfl, hr, .refl pr c⟩⟩
theorem sN (h : LOp P pr [] ⟨some i, op, ty, pos, af, .none⟩ (lev e) m fun lv m' => SOps P N pr ops l KE (e.put i lv) m') : SOps P N pr ops (⟨some i, op, ty, pos, af, .none⟩ :: l) KE e m := SOps.step (ro := []) h
theorem sB (h : LOp P pr [i] ⟨some i, op, ty, pos, af, .none⟩ (lev e) m fun lv m' => SOps P N pr ops l KE (e.put i lv) m') : SOps P N pr ops (⟨some i, op, ty, pos, af, .none⟩ :: l) KE e m := SOps.step (ro := [i]) h
theorem s_ (h : LOp P pr [] ⟨.none, op, ty, pos, af, .none⟩ (lev e) m fun lv m' => SOps P N pr ops l KE e m') : SOps P N pr ops (⟨.none, op, ty, pos, af, .none⟩ :: l) KE e m := SOps.step (ro := []) h
theorem sT (hj : (ops[j]?).bind (·.dst) = some q) (hg : e q = .bool want) (h : LOp P pr [] ⟨some i, op, ty, pos, af, some (j, want)⟩ (lev e) m fun lv m' => SOps P N pr ops l KE (e.put i lv) m') : SOps P N pr ops (⟨some i, op, ty, pos, af, some (j, want)⟩ :: l) KE e m := SOps.step (ro := []) (by
  rw [LStep_some, hj]; simp only [hg, if_true]; exact h)
theorem sT_ (hj : (ops[j]?).bind (·.dst) = some q) (hg : e q = .bool want) (h : LOp P pr [] ⟨.none, op, ty, pos, af, some (j, want)⟩ (lev e) m fun lv m' => SOps P N pr ops l KE e m') : SOps P N pr ops (⟨.none, op, ty, pos, af, some (j, want)⟩ :: l) KE e m := SOps.step (ro := []) (by
  rw [LStep_some, hj]; simp only [hg, if_true]; exact h)
theorem sF {t : Bool} (hj : (ops[j]?).bind (·.dst) = some q) (hg : e q = .bool t) (hn : t = !want) (h : SOps P N pr ops l KE (e.put i (.tup [])) m) : SOps P N pr ops (⟨some i, op, ty, pos, af, some (j, want)⟩ :: l) KE e m := SOps.step (ro := []) (by
  subst hn
  rw [LStep_some, hj]; simp only [hg]; cases want <;> exact h)
theorem sU (hj : (ops[j]?).bind (·.dst) = some q) (hg : e q = .tup []) (h : SOps P N pr ops l KE (e.put i (.tup [])) m) : SOps P N pr ops (⟨some i, op, ty, pos, af, some (j, want)⟩ :: l) KE e m := SOps.step (ro := []) (by
  rw [LStep_some, hj]; simp only [hg]; exact h)

/- steps of a region that draws its order -/
theorem m0 (h : KE e m) : LOpsM P pr ro ops (List.zip [] []) KE e m := h
theorem mN0 (h : LOp P pr ro ⟨some i, op, ty, pos, af, .none⟩ (lev e) Mem.none fun lv m' => m' = Mem.none ∧ LOpsM P pr ro ops (List.zip l mds) KE (e.put i lv) m) : LOpsM P pr ro ops (List.zip (⟨some i, op, ty, pos, af, .none⟩ :: l) (0 :: mds)) KE e m := h
theorem mN1 (h : LOp P pr ro ⟨some i, op, ty, pos, af, .none⟩ (lev e) m fun lv m' => m' = m ∧ LOpsM P pr ro ops (List.zip l mds) KE (e.put i lv) m) : LOpsM P pr ro ops (List.zip (⟨some i, op, ty, pos, af, .none⟩ :: l) (1 :: mds)) KE e m := h
theorem mN2 (h : LOp P pr ro ⟨some i, op, ty, pos, af, .none⟩ (lev e) m fun lv m' => LOpsM P pr ro ops (List.zip l mds) KE (e.put i lv) m') : LOpsM P pr ro ops (List.zip (⟨some i, op, ty, pos, af, .none⟩ :: l) (2 :: mds)) KE e m := h
theorem m_2 (h : LOp P pr ro ⟨.none, op, ty, pos, af, .none⟩ (lev e) m fun lv m' => LOpsM P pr ro ops (List.zip l mds) KE e m') : LOpsM P pr ro ops (List.zip (⟨.none, op, ty, pos, af, .none⟩ :: l) (2 :: mds)) KE e m := h
theorem mT {md : Nat} (hj : (ops[j]?).bind (·.dst) = some q) (hg : e q = .bool want) (h : LOpsM P pr ro ops (List.zip (⟨d, op, ty, pos, af, .none⟩ :: l) (md :: mds)) KE e m) : LOpsM P pr ro ops (List.zip (⟨d, op, ty, pos, af, some (j, want)⟩ :: l) (md :: mds)) KE e m := by
  show LStepM P pr ro ops md _ _ e m
  rw [LStepM_g, hj]; simp only [hg, if_true]; exact h
theorem mF {md : Nat} {t : Bool} (hj : (ops[j]?).bind (·.dst) = some q) (hg : e q = .bool t) (hn : t = !want) (h : LOpsM P pr ro ops (List.zip l mds) KE (e.put i (.tup [])) m) : LOpsM P pr ro ops (List.zip (⟨some i, op, ty, pos, af, some (j, want)⟩ :: l) (md :: mds)) KE e m := by
  subst hn
  show LStepM P pr ro ops md _ _ e m
  rw [LStepM_g, hj]; simp only [hg]; cases want <;> exact h
theorem mU {md : Nat} (hj : (ops[j]?).bind (·.dst) = some q) (hg : e q = .tup []) (h : LOpsM P pr ro ops (List.zip l mds) KE (e.put i (.tup [])) m) : LOpsM P pr ro ops (List.zip (⟨some i, op, ty, pos, af, some (j, want)⟩ :: l) (md :: mds)) KE e m := by
  show LStepM P pr ro ops md _ _ e m
  rw [LStepM_g, hj]; simp only [hg]; exact h

/- operations -/
variable {x y a : Operand} {t t' : TypeId} {k k' : IntKind} {v : LV} {u w : Int} {b c : Bool} {cs cs' : List LV} {n id o off el ft kk : Nat}
theorem oM (hx : ev x = v) (h : K v m) : LOp P pr ro ⟨d, .move x, ty, pos, af, g⟩ ev m K := by rw [LOp_move, hx]; exact h
theorem oA (hx : ev x = v) (h : K v m) : LOp P pr ro ⟨d, .assign x, ty, pos, af, g⟩ ev m K := by rw [LOp_assign, hx]; exact h
theorem oPkT {z : Operand} (hc : ev x = .bool true) (ha : ev y = v) (h : K v m) : LOp P pr ro ⟨d, .pick x y z, ty, pos, af, g⟩ ev m K := by rw [LOp_pick, hc]; simp only [if_true]; rw [ha]; exact h
theorem oPkF {z : Operand} (hc : ev x = .bool false) (ha : ev z = v) (h : K v m) : LOp P pr ro ⟨d, .pick x y z, ty, pos, af, g⟩ ev m K := by rw [LOp_pick, hc]; simp only [Bool.false_eq_true, if_false]; rw [ha]; exact h
theorem oPkB {z : Operand} {s : Bool} (hc : ev x = .bool b) (hy : ev y = .bool c) (hz : ev z = .bool s) (h : K (.bool (if b = true then c else s)) m) : LOp P pr ro ⟨d, .pick x y z, ty, pos, af, g⟩ ev m K := by
  rw [LOp_pick, hc]; simp only [hy, hz]; cases b <;> simpa using h
theorem oAl {z : LV} (hi : 100 + i = id) (hz : tzero P t = some z) (hc : z.cells = cs) (hf : m id = .none) (h : K (.ptr id 0) (m.put id (.box cs))) : LOp P pr ro ⟨some i, .alloc t, ty, pos, af, g⟩ ev m K := by
  subst hi; subst hc; rw [LOp_alloc, hz]; exact ⟨hf, h⟩
theorem oBxR (hr : ro.contains i = true) (hx : ev x = v) (hc : v.cells = cs) (hs : cs.all LV.scalar = true) (h : K (.sptr cs) m) : LOp P pr ro ⟨some i, .box t x, ty, pos, af, g⟩ ev m K := by
  subst hc; rw [LOp_box, hx, if_pos hr]; exact ⟨hs, h⟩
theorem oBx (hr : ro.contains i = false) (hi : 100 + i = id) (hx : ev x = v) (hc : v.cells = cs) (hs : cs.all LV.scalar = true) (hf : m id = .none) (h : K (.ptr id 0) (m.put id (.box cs))) : LOp P pr ro ⟨some i, .box t x, ty, pos, af, g⟩ ev m K := by
  subst hi; subst hc; rw [LOp_box, hx, if_neg (by rw [hr]; simp)]; exact ⟨hs, hf, h⟩
theorem lf0 : lfill P t cs [] = some cs := rfl
theorem lf {res : List LV} {r : List (Nat × LV)} (hf : tfield P t i = some (off, ft)) (hs : tsize P ft = v.cells.length) (hk : tok P ft = true) (hl : Nat.ble (off + v.cells.length) cs.length = true) (hsc : v.cells.all LV.scalar = true) (hr : rep cs off v.cells = cs') (h : lfill P t cs' r = some res) : lfill P t cs ((i, v) :: r) = some res := by
  subst hr
  simp only [lfill, hf]
  rw [if_pos ⟨hs.symm, Nat.le_of_ble_eq_true hl, hk, hsc⟩]; exact h
theorem oBd {z : List LV} {ps : List (Nat × Operand)} {vs : List (Nat × LV)} (hb : tbuild P t = true) (hz : tzero P t = some (.agg z)) (hv : (ps.map fun p => (p.1, ev p.2)) = vs) (hf : lfill P t z vs = some cs) (h : K (.agg cs) m) : LOp P pr ro ⟨d, .build t ps.toArray, ty, pos, af, g⟩ ev m K := by
  rw [LOp_build, hz]; refine ⟨hb, ?_⟩; simp only [hv, hf]; exact h
theorem oBS {α : Type} {f : α → LV} {ys : List α} {ps : List (Nat × Operand)} (he : telem P t = some el) (hr : trow P el = true) (hk : tsize P el = kk) (hb : Nat.ble (n * kk) 16777216 = true) (hi : ps.map (·.1) = List.range n) (hv : (ps.map fun p => ev p.2) = ys.map f) (hok : OkF kk f) (h : K (.lst kk (ys.map f)) m) : LOp P pr ro ⟨d, .buildSlice t n ps.toArray, ty, pos, af, g⟩ ev m K := by
  subst hk
  rw [LOp_buildSlice, he]; exact ⟨hr, Nat.le_of_ble_eq_true hb, hi, by rw [hv]; exact hok.els ys, by rw [hv]; exact h⟩
theorem oLd (hx : ev a = .sptr (v :: cs)) (ht : tok P t = true) (ha : tagg P t = false) (h : K v m) : LOp P pr ro ⟨d, .load t a, ty, pos, af, g⟩ ev m K := by
  rw [LOp_load, hx]; simp only [loadC_def, ha, Bool.false_eq_true, if_false]; exact ⟨ht, h⟩
theorem oLdA (hx : ev a = .sptr cs) (ht : tok P t = true) (ha : tagg P t = true) (hs : tsize P t = n) (hl : Nat.ble n cs.length = true) (hc : cs.take n = cs') (h : K (.agg cs') m) : LOp P pr ro ⟨d, .load t a, ty, pos, af, g⟩ ev m K := by
  subst hc; subst hs
  rw [LOp_load, hx]; simp only [loadC_def, ha, if_true]; exact ⟨ht, Nat.le_of_ble_eq_true hl, h⟩
theorem oLdP {r : List LV} (hx : ev a = .ptr id o) (hm : m id = some (.box cs)) (hl : Nat.ble o cs.length = true) (hc : cs.drop o = v :: r) (ht : tok P t = true) (ha : tagg P t = false) (h : K v m) : LOp P pr ro ⟨d, .load t a, ty, pos, af, g⟩ ev m K := by
  rw [LOp_load, hx]; simp only [hm, loadC_def, hc, ha, Bool.false_eq_true, if_false]; exact ⟨Nat.le_of_ble_eq_true hl, ht, h⟩
theorem oLdPA (hx : ev a = .ptr id o) (hm : m id = some (.box cs)) (hl : Nat.ble o cs.length = true) (ht : tok P t = true) (ha : tagg P t = true) (hs : tsize P t = n) (hl2 : Nat.ble n (cs.drop o).length = true) (hc : (cs.drop o).take n = cs') (h : K (.agg cs') m) : LOp P pr ro ⟨d, .load t a, ty, pos, af, g⟩ ev m K := by
  subst hc; subst hs
  rw [LOp_load, hx]; simp only [hm, loadC_def, ha, if_true]; exact ⟨Nat.le_of_ble_eq_true hl, ht, Nat.le_of_ble_eq_true hl2, h⟩
theorem oLdE {α : Type} {f : α → LV} {xs : List α} {z : α} {r : List LV} (hx : ev a = .eptr id xs.length j o) (hm : m id = some (.arr el kk (xs.map f))) (hz : xs[j]? = some z) (hsc : (f z).cells.all LV.scalar = true) (hl : Nat.ble o (f z).cells.length = true) (hc : (f z).cells.drop o = v :: r) (ht : tok P t = true) (ha : tagg P t = false) (h : K v m) : LOp P pr ro ⟨d, .load t a, ty, pos, af, g⟩ ev m K := by
  rw [LOp_load, hx]; simp only [hm, List.length_map, List.getElem?_map, hz, Option.map_some, loadC_def]
  exact ⟨trivial, f z, rfl, hsc, Nat.le_of_ble_eq_true hl, ht, by rw [ha, hc]; exact h⟩
theorem oLdEA {α : Type} {f : α → LV} {xs : List α} {z : α} (hx : ev a = .eptr id xs.length j o) (hm : m id = some (.arr el kk (xs.map f))) (hz : xs[j]? = some z) (hsc : (f z).cells.all LV.scalar = true) (hl : Nat.ble o (f z).cells.length = true) (ht : tok P t = true) (ha : tagg P t = true) (hs : tsize P t = n) (hl2 : Nat.ble n ((f z).cells.drop o).length = true) (hc : ((f z).cells.drop o).take n = cs') (h : K (.agg cs') m) : LOp P pr ro ⟨d, .load t a, ty, pos, af, g⟩ ev m K := by
  subst hc; subst hs
  rw [LOp_load, hx]; simp only [hm, List.length_map, List.getElem?_map, hz, Option.map_some, loadC_def]
  exact ⟨trivial, f z, rfl, hsc, Nat.le_of_ble_eq_true hl, ht, by rw [if_pos ha]; exact ⟨Nat.le_of_ble_eq_true hl2, h⟩⟩
theorem oSt (hx : ev a = .ptr id o) (hv : ev x = v) (hsc : v.cells.all LV.scalar = true) (ht : tok P t = true) (hs : tsize P t = v.cells.length) (hm : m id = some (.box cs)) (hl : Nat.ble (o + v.cells.length) cs.length = true) (hc : rep cs o v.cells = cs') (h : K .und (m.put id (.box cs'))) : LOp P pr ro ⟨d, .store t a x, ty, pos, af, g⟩ ev m K := by
  subst hc
  rw [LOp_store, hv, hx]; simp only [hm]; exact ⟨hsc, ht, hs, Nat.le_of_ble_eq_true hl, h⟩
theorem map_set' {α β : Type} (f : α → β) (xs : List α) (j : Nat) (z : α) : (xs.map f).set j (f z) = (xs.set j z).map f := by
  simp [List.map_set]
theorem oStE {α : Type} {f : α → LV} {xs : List α} {z z' : α} (hx : ev a = .eptr id xs.length j o) (hv : ev x = v) (hsc : v.cells.all LV.scalar = true) (hp : LV.pureL v.cells = true) (ht : tok P t = true) (hs : tsize P t = v.cells.length) (hm : m id = some (.arr el kk (xs.map f))) (hz : xs[j]? = some z) (hw : setEl (f z) o v = some (f z')) (h : K .und (m.put id (.arr el kk ((xs.set j z').map f)))) : LOp P pr ro ⟨d, .store t a x, ty, pos, af, g⟩ ev m K := by
  rw [LOp_store, hv, hx]; simp only [hm]
  exact ⟨hsc, ht, hs, by simp, hp, f z, f z', by simp [hz], hw, by rw [map_set']; exact h⟩
theorem oNC (hx : ev x = .ptr id o) (h : K (.ptr id o) m) : LOp P pr ro ⟨d, .nilCheck x, ty, pos, af, g⟩ ev m K := by rw [LOp_nilCheck, hx]; exact h
theorem oNCs (hx : ev x = .sptr cs) (h : K (.sptr cs) m) : LOp P pr ro ⟨d, .nilCheck x, ty, pos, af, g⟩ ev m K := by rw [LOp_nilCheck, hx]; exact h
theorem oNCf {f : Nat} (hx : ev x = .fn f cs) (h : K (.fn f cs) m) : LOp P pr ro ⟨d, .nilCheck x, ty, pos, af, g⟩ ev m K := by rw [LOp_nilCheck, hx]; exact h
theorem oNCe {α : Type} {f : α → LV} {xs : List α} (hx : ev x = .eptr id xs.length j o) (hm : m id = some (.arr el kk (xs.map f))) (h : K (.eptr id xs.length j o) m) : LOp P pr ro ⟨d, .nilCheck x, ty, pos, af, g⟩ ev m K := by rw [LOp_nilCheck, hx]; simp only [hm]; exact ⟨by simp, h⟩
theorem oAdd (hx : ev x = .int k u) (hy : ev y = .int k w) (h : K (.int k (k.wrap (u + w))) m) : LOp P pr ro ⟨d, .binOp .add t x y t', ty, pos, af, g⟩ ev m K := by rw [LOp_binOp, hx, hy]; exact ⟨rfl, h⟩
theorem oSub (hx : ev x = .int k u) (hy : ev y = .int k w) (h : K (.int k (k.wrap (u - w))) m) : LOp P pr ro ⟨d, .binOp .sub t x y t', ty, pos, af, g⟩ ev m K := by rw [LOp_binOp, hx, hy]; exact ⟨rfl, h⟩
theorem oMul (hx : ev x = .int k u) (hy : ev y = .int k w) (h : K (.int k (k.wrap (u * w))) m) : LOp P pr ro ⟨d, .binOp .mul t x y t', ty, pos, af, g⟩ ev m K := by rw [LOp_binOp, hx, hy]; exact ⟨rfl, h⟩
theorem oQuo {r : Int} (hx : ev x = .int k u) (hy : ev y = .int k w) (hr : quo k u w = some r) (h : K (.int k r) m) : LOp P pr ro ⟨d, .binOp .quo t x y t', ty, pos, af, g⟩ ev m K := by
  rw [LOp_binOp, hx, hy]; unfold quo at hr; split at hr
  · cases hr
  · rename_i h0; cases hr; exact ⟨rfl, h0, h⟩
theorem oRem {r : Int} (hx : ev x = .int k u) (hy : ev y = .int k w) (hr : rmd u w = some r) (h : K (.int k r) m) : LOp P pr ro ⟨d, .binOp .rem t x y t', ty, pos, af, g⟩ ev m K := by
  rw [LOp_binOp, hx, hy]; unfold rmd at hr; split at hr
  · cases hr
  · rename_i h0; cases hr; exact ⟨rfl, h0, h⟩
theorem oEq (hx : ev x = .int k u) (hy : ev y = .int k w) (h : K (.bool (u == w)) m) : LOp P pr ro ⟨d, .binOp .eql t x y t', ty, pos, af, g⟩ ev m K := by rw [LOp_binOp, hx, hy]; exact ⟨rfl, h⟩
theorem oNe (hx : ev x = .int k u) (hy : ev y = .int k w) (h : K (.bool (u != w)) m) : LOp P pr ro ⟨d, .binOp .neq t x y t', ty, pos, af, g⟩ ev m K := by rw [LOp_binOp, hx, hy]; exact ⟨rfl, h⟩
theorem oLt (hx : ev x = .int k u) (hy : ev y = .int k w) (h : K (.bool (decide (u < w))) m) : LOp P pr ro ⟨d, .binOp .lss t x y t', ty, pos, af, g⟩ ev m K := by rw [LOp_binOp, hx, hy]; exact ⟨rfl, h⟩
theorem oLe (hx : ev x = .int k u) (hy : ev y = .int k w) (h : K (.bool (decide (u ≤ w))) m) : LOp P pr ro ⟨d, .binOp .leq t x y t', ty, pos, af, g⟩ ev m K := by rw [LOp_binOp, hx, hy]; exact ⟨rfl, h⟩
theorem oGt (hx : ev x = .int k u) (hy : ev y = .int k w) (h : K (.bool (decide (u > w))) m) : LOp P pr ro ⟨d, .binOp .gtr t x y t', ty, pos, af, g⟩ ev m K := by rw [LOp_binOp, hx, hy]; exact ⟨rfl, h⟩
theorem oGe (hx : ev x = .int k u) (hy : ev y = .int k w) (h : K (.bool (decide (u ≥ w))) m) : LOp P pr ro ⟨d, .binOp .geq t x y t', ty, pos, af, g⟩ ev m K := by rw [LOp_binOp, hx, hy]; exact ⟨rfl, h⟩
theorem oEqB (hx : ev x = .bool b) (hy : ev y = .bool c) (ht : tbool P t = true) (h : K (.bool (b == c)) m) : LOp P pr ro ⟨d, .binOp .eql t x y t', ty, pos, af, g⟩ ev m K := by rw [LOp_binOp, hx, hy]; exact ⟨ht, h⟩
theorem oNeB (hx : ev x = .bool b) (hy : ev y = .bool c) (ht : tbool P t = true) (h : K (.bool (!(b == c))) m) : LOp P pr ro ⟨d, .binOp .neq t x y t', ty, pos, af, g⟩ ev m K := by rw [LOp_binOp, hx, hy]; exact ⟨ht, h⟩
theorem oEqA (hx : ev x = .agg cs) (hy : ev y = .agg cs') (ht : AggEq P t cs cs' b) (h : K (.bool b) m) : LOp P pr ro ⟨d, .binOp .eql t x y t', ty, pos, af, g⟩ ev m K := by rw [LOp_binOp, hx, hy]; exact ⟨b, ht, h⟩
theorem oNeA (hx : ev x = .agg cs) (hy : ev y = .agg cs') (ht : AggEq P t cs cs' b) (h : K (.bool (!b)) m) : LOp P pr ro ⟨d, .binOp .neq t x y t', ty, pos, af, g⟩ ev m K := by rw [LOp_binOp, hx, hy]; exact ⟨b, ht, h⟩
theorem oNot (hx : ev x = .bool b) (h : K (.bool (!b)) m) : LOp P pr ro ⟨d, .unOp .not t x, ty, pos, af, g⟩ ev m K := by rw [LOp_not, hx]; exact h
theorem oNeg (hx : ev x = .int k u) (h : K (.int k (k.wrap (0 - u))) m) : LOp P pr ro ⟨d, .unOp .neg t x, ty, pos, af, g⟩ ev m K := by rw [LOp_neg, hx]; exact h
theorem oCv (hk : tok P t = true) (ht : tint P t' = some k') (hx : ev x = .int k u) (h : K (.int k' (k'.wrap u)) m) : LOp P pr ro ⟨d, .convert t t' x, ty, pos, af, g⟩ ev m K := by rw [LOp_convert, ht, hx]; exact ⟨hk, h⟩
theorem slcOk {α : Type} {xs r : List α} (h : slc xs u w = some r) : 0 ≤ u ∧ u ≤ w ∧ w ≤ xs.length ∧ r = (xs.take w.toNat).drop u.toNat := by
  unfold slc at h; split at h
  · rename_i h0; cases h; exact ⟨h0.1, h0.2.1, h0.2.2, rfl⟩
  · cases h
theorem oSl {α : Type} {f : α → LV} {xs r : List α} {lo hi : Option Operand} (he : telem P t = some el) (hk : tok P el = true) (hs : tsize P el = kk) (hx : ev x = .lst kk (xs.map f)) (hlo : (match lo with | .none => u = 0 | some z => ev z = .int .i64 u)) (hhi : (match hi with | .none => w = (xs.length : Int) | some z => ev z = .int .i64 w)) (hr : slc xs u w = some r) (h : K (.lst kk (r.map f)) m) : LOp P pr ro ⟨d, .slice t x lo hi .none, ty, pos, af, g⟩ ev m K := by
  obtain ⟨h0, h1, h2, rfl⟩ := slcOk hr
  rw [LOp_slice, he, hx]
  refine ⟨rfl, hk, by trivial, by simp [hs], u.toNat, w.toNat, ?_, ?_, by omega, by simp; omega, ?_⟩
  · cases lo with
    | none => simp only at hlo; subst hlo; rfl
    | some z => simp only at hlo ⊢; rw [hlo, Int.toNat_of_nonneg h0]
  · cases hi with
    | none => simp only at hhi; subst hhi; simp
    | some z => simp only at hhi ⊢; rw [hhi, Int.toNat_of_nonneg (by omega)]
  · rw [← List.map_take, ← List.map_drop]; exact h
theorem oFa (hf : tfield P t n = some (off, ft)) (hk : tok P ft = true) (hs : tsize P ft = kk + 1) (hx : ev x = .ptr id o) (hi : o + off = i) (h : K (.ptr id i) m) : LOp P pr ro ⟨d, .fieldAddr t x n, ty, pos, af, g⟩ ev m K := by
  subst hi; rw [LOp_fieldAddr, hf, hx]; exact ⟨hk, by rw [hs]; simp, h⟩
theorem oFaS (hf : tfield P t n = some (off, ft)) (hk : tok P ft = true) (hs : tsize P ft = kk + 1) (hx : ev x = .sptr cs) (hl : Nat.ble off cs.length = true) (hi : cs.drop off = cs') (h : K (.sptr cs') m) : LOp P pr ro ⟨d, .fieldAddr t x n, ty, pos, af, g⟩ ev m K := by
  subst hi; rw [LOp_fieldAddr, hf, hx]; exact ⟨hk, by rw [hs]; simp, Nat.le_of_ble_eq_true hl, h⟩
theorem oFaE {α : Type} {f : α → LV} {xs : List α} {el' kk' : Nat} (hf : tfield P t n = some (off, ft)) (hk : tok P ft = true) (hs : tsize P ft = kk + 1) (hx : ev x = .eptr id xs.length j o) (hm : m id = some (.arr el' kk' (xs.map f))) (hi : o + off = i) (h : K (.eptr id xs.length j i) m) : LOp P pr ro ⟨d, .fieldAddr t x n, ty, pos, af, g⟩ ev m K := by
  subst hi; rw [LOp_fieldAddr, hf, hx]; simp only [hm]; exact ⟨hk, by rw [hs]; simp, by simp, h⟩
theorem oFd {r : List LV} (hf : tfield P t n = some (off, ft)) (hx : ev x = .agg cs) (hl : Nat.ble off cs.length = true) (hk : tok P ft = true) (ha : tagg P ft = false) (hi : cs.drop off = v :: r) (h : K v m) : LOp P pr ro ⟨d, .field t x n, ty, pos, af, g⟩ ev m K := by
  rw [LOp_field, hf, hx]; simp only [loadC_def, hi, ha, Bool.false_eq_true, if_false]; exact ⟨Nat.le_of_ble_eq_true hl, hk, h⟩
theorem oFdA (hf : tfield P t n = some (off, ft)) (hx : ev x = .agg cs) (hl : Nat.ble off cs.length = true) (hk : tok P ft = true) (ha : tagg P ft = true) (hs : tsize P ft = i) (hl2 : Nat.ble i (cs.drop off).length = true) (hi : (cs.drop off).take i = cs') (h : K (.agg cs') m) : LOp P pr ro ⟨d, .field t x n, ty, pos, af, g⟩ ev m K := by
  subst hi; subst hs
  rw [LOp_field, hf, hx]; simp only [loadC_def, ha, if_true]; exact ⟨Nat.le_of_ble_eq_true hl, hk, Nat.le_of_ble_eq_true hl2, h⟩
theorem idxOk {α : Type} {xs : List α} {z : α} (h : idx xs u = some z) : 0 ≤ u ∧ xs[u.toNat]? = some z := by
  unfold idx at h; split at h
  · exact ⟨by assumption, h⟩
  · cases h
theorem oIx {α : Type} {f : α → LV} {xs : List α} {z : α} (he : telem P t = some el) (hk : tok P el = true) (hs : tsize P el = kk) (hx : ev x = .lst kk (xs.map f)) (hy : ev y = .int k u) (hok : OkF kk f) (hz : idx xs u = some z) (hc : (f z).cells = cs) (h : K (.sptr cs) m) : LOp P pr ro ⟨d, .indexAddr t x y, ty, pos, af, g⟩ ev m K := by
  obtain ⟨h0, h1⟩ := idxOk hz
  subst hc; subst hs
  rw [LOp_indexAddr, he, hx, hy]
  exact ⟨hk, rfl, h0, f z, by simp [h1], (hok z).2.2, h⟩
theorem oIxA {α : Type} {f : α → LV} {xs : List α} {z : α} (he : telem P t = some el) (hk : tok P el = true) (hs : tsize P el = kk) (hx : ev x = .arr id xs.length) (hm : m id = some (.arr el kk (xs.map f))) (hy : ev y = .int k u) (hz : idx xs u = some z) (h : K (.eptr id xs.length u.toNat 0) m) : LOp P pr ro ⟨d, .indexAddr t x y, ty, pos, af, g⟩ ev m K := by
  obtain ⟨h0, h1⟩ := idxOk hz
  subst hs
  have := (List.getElem?_eq_some_iff.1 h1).1
  rw [LOp_indexAddr, he, hx, hy]; simp only [hm]
  exact ⟨hk, by simp, trivial, h0, by omega, h⟩
theorem oEx {vs : List LV} (hx : ev x = .tup vs) (hv : vs[n]? = some v) (h : K v m) : LOp P pr ro ⟨d, .extract x n, ty, pos, af, g⟩ ev m K := by rw [LOp_extract, hx]; exact ⟨v, hv, h⟩
theorem oMF {f : Nat} {cap : List Operand} {vs : List LV} (hv : cap.map ev = vs) (h : K (.fn f vs) m) : LOp P pr ro ⟨d, .makeFunc (.func f) #[] cap.toArray, ty, pos, af, g⟩ ev m K := by rw [LOp_makeFunc, hv]; exact h
theorem oMk {α : Type} {f : α → LV} {z : α} {r : List α} (hi : 100 + i = id) (he : telem P t = some el) (hz : tzero P el = some (f z)) (hr : trow P el = true) (hk : tsize P el = kk) (hx : ev x = .int .i64 u) (hy : ev y = .int .i64 u) (hp : (f z).pure = true) (hl : mkl z u = some r) (hf : m id = .none) (h : K (.arr id r.length) (m.put id (.arr el kk (r.map f)))) : LOp P pr ro ⟨some i, .makeSlice t x y, ty, pos, af, g⟩ ev m K := by
  subst hi; subst hk
  unfold mkl at hl; split at hl
  · rename_i h0; cases hl
    rw [LOp_makeSlice, he]
    simp only [Option.getD_some, hz, hx, hy]
    exact ⟨trivial, h0.1, h0.2, hr, hp, hf, by simpa using h⟩
  · cases hl
theorem oLn {xs : List LV} (he : telem P t = some el) (hx : ev x = .lst kk xs) (hn : xs.length = n) (h : K (.int .i64 n) m) : LOp P pr ro ⟨d, .call ⟨.builtin .len, #[x], #[t]⟩, ty, pos, af, g⟩ ev m K := by subst hn; rw [LOp_len, hx]; exact ⟨by rw [he]; rfl, h⟩
theorem oLnL {α : Type} {f : α → LV} {xs : List α} (he : telem P t = some el) (hx : ev x = .lst kk (xs.map f)) (h : K (.int .i64 xs.length) m) : LOp P pr ro ⟨d, .call ⟨.builtin .len, #[x], #[t]⟩, ty, pos, af, g⟩ ev m K := by rw [LOp_len, hx]; exact ⟨by rw [he]; rfl, by simpa using h⟩
theorem oLnN (he : telem P t = some el) (hx : ev x = .nil) (h : K (.int .i64 0) m) : LOp P pr ro ⟨d, .call ⟨.builtin .len, #[x], #[t]⟩, ty, pos, af, g⟩ ev m K := by rw [LOp_len, hx]; exact ⟨by rw [he]; rfl, h⟩
theorem oLnA {α : Type} {f : α → LV} {xs : List α} {el' : Nat} (he : telem P t = some el) (hx : ev x = .arr id xs.length) (hm : m id = some (.arr el' kk (xs.map f))) (h : K (.int .i64 xs.length) m) : LOp P pr ro ⟨d, .call ⟨.builtin .len, #[x], #[t]⟩, ty, pos, af, g⟩ ev m K := by
  rw [LOp_len, hx]; simp only [hm]; exact ⟨by rw [he]; rfl, by simp, h⟩
theorem appOk {α : Type} {xs ys r : List α} (h : app xs ys = some r) : xs.length + ys.length ≤ 1099511627776 ∧ r = xs ++ ys := by
  unfold app at h; split at h
  · cases h; exact ⟨by assumption, rfl⟩
  · cases h
theorem oAp {α : Type} {f : α → LV} {xs ys r : List α} (he : telem P t = some el) (hr : trow P el = true) (hs : tsize P el = kk) (hx : ev x = .arr id xs.length) (hm : m id = some (.arr el kk (xs.map f))) (hp : ¬ pr id) (hy : ev y = .lst kk (ys.map f)) (hl : app xs ys = some r) (h : K (.arr id r.length) (m.put id (.arr el kk (r.map f)))) : LOp P pr ro ⟨some i, .call ⟨.builtin .append, #[x, y], #[t, t]⟩, ty, pos, af, g⟩ ev m K := by
  obtain ⟨h0, rfl⟩ := appOk hl
  subst hs
  rw [LOp_append, he, hy, hx]
  refine ⟨rfl, hr, rfl, ?_⟩
  simp only [appTo, hm]
  exact ⟨hp, by trivial, by trivial, by simp, by simpa using h0, by simpa using h⟩
theorem oApN {α : Type} {f : α → LV} {ys r : List α} (hi : 100 + i = id) (he : telem P t = some el) (hr : trow P el = true) (hs : tsize P el = kk) (hx : ev x = .nil) (hy : ev y = .lst kk (ys.map f)) (hl : app [] ys = some r) (hf : m id = .none) (h : K (.arr id r.length) (m.put id (.arr el kk (r.map f)))) : LOp P pr ro ⟨some i, .call ⟨.builtin .append, #[x, y], #[t, t]⟩, ty, pos, af, g⟩ ev m K := by
  obtain ⟨h0, rfl⟩ := appOk hl
  subst hs; subst hi
  rw [LOp_append, he, hy, hx]
  refine ⟨rfl, hr, rfl, ?_⟩
  simp only [appTo]
  exact ⟨hf, by simpa using h0, by simpa using h⟩
/-- a call that turns no memory -/
theorem oCP {f : Nat} {cap args args' : List LV} {xs : List Operand} {ts : Array TypeId} (hx : ev x = .fn f cap) (hf : ∃ fn, P.funcs[f]? = some fn ∧ (fn.name == "runtime.NumGoroutine") = false ∧ fn.body.isNone = false) (ha : xs.map ev ++ cap = args) (hs : SubL args args') (hc : LCall P f args' (Mem.of []) v (Mem.of [])) (hp : LV.pureL args = true) (h : K v m) : LOp P pr ro ⟨d, .call ⟨.value x, xs.toArray, ts⟩, ty, pos, af, g⟩ ev m K := by
  subst ha
  rw [LOp_call, hx]
  exact ⟨hf, PCall.callS (hc.sub hs) hp m h⟩
/-- a call that is handed memory -/
theorem oCM {f : Nat} {cap args args' : List LV} {xs : List Operand} {ts : Array TypeId} {ml ml' : List (Nat × LE)} (hx : ev x = .fn f cap) (hf : ∃ fn, P.funcs[f]? = some fn ∧ (fn.name == "runtime.NumGoroutine") = false ∧ fn.body.isNone = false) (ha : xs.map ev ++ cap = args) (hs : SubL args args') (hc : LCall P f args' (Mem.of ml) v (Mem.of ml')) (hm : MemIs m ml) (hnew : ∀ p ∈ ml', (ml.any fun q => q.1 == p.1) = true ∨ m p.1 = .none) (hr : keptRefs (args.map fun x => (0, x)) ml = true) (h : K v (m.over (Mem.of ml'))) : LOp P pr ro ⟨d, .call ⟨.value x, xs.toArray, ts⟩, ty, pos, af, g⟩ ev m K := by
  subst ha
  rw [LOp_call, hx]
  exact ⟨hf, LCall.callL (hc.sub hs) hm hnew hr h⟩

/- what lies between regions -/
def EnvSub (e : Env) : List (Nat × LV) → Prop
  | [] => True
  | (i, v) :: r => Sub (e i) v ∧ EnvSub e r
theorem EnvSub.at : ∀ {l : List (Nat × LV)}, EnvSub e l → ∀ i, Sub (e i) (Env.of l i)
  | [], _, i => Sub.und
  | (j, v) :: r, h, i => by
    simp only [Env.of]
    split
    · rename_i hi; subst hi; exact h.1
    · exact EnvSub.at h.2 i
theorem eN : EnvSub e [] := trivial
theorem eC {r : List (Nat × LV)} (h : e i = v) (hr : EnvSub e r) : EnvSub e ((i, v) :: r) := ⟨h ▸ Sub.rfl, hr⟩
theorem eS {r : List (Nat × LV)} (h : Sub (e i) v) (hr : EnvSub e r) : EnvSub e ((i, v) :: r) := ⟨h, hr⟩
theorem eL {r : List (Nat × LV)} (h : e i = .nil) (hr : EnvSub e r) : EnvSub e ((i, .lst n []) :: r) := ⟨h ▸ Sub.nil, hr⟩
theorem Wk.sub {el : List (Nat × LV)} (h : EnvSub e el) : Wk pr e m (Env.of el) m := fun N c a hr => ⟨c, rfl, ⟨fun i => h.at i c _ (hr.env i), hr.mem, hr.size, hr.defers⟩, .refl pr c⟩
theorem of_keys (el : List (Nat × LV)) (i : Nat) : Env.of (el.map fun p => (p.1, e p.1)) i = if (el.any fun p => p.1 == i) = true then e i else .und := by
  induction el with
  | nil => rfl
  | cons p r ih =>
    simp only [List.map_cons, Env.of, List.any_cons]
    by_cases h : i = p.1
    · simp [h]
    · rw [if_neg h, ih]
      have : (p.1 == i) = false := by simpa using fun h' => h h'.symm
      simp only [this, Bool.false_or]
theorem of_nokey (el : List (Nat × LV)) (i : Nat) (h : ¬ (el.any fun p => p.1 == i) = true) : Env.of el i = .und := by
  induction el with
  | nil => rfl
  | cons p r ih =>
    simp only [List.any_cons, Bool.or_eq_true, not_or] at h
    simp only [Env.of]
    rw [if_neg (fun h' => h.1 (by simp [h'])), ih h.2]
/-- forgetting: what is kept is written out -/
theorem Wk.to {ml : List (Nat × LE)} {el : List (Nat × LV)} (he : EnvSub e el) (hm : MemIs m ml) (hr : keptRefs (el.map fun p => (p.1, e p.1)) ml = true) (hpr : ∀ id, pr id → m id = .none ∨ Mem.of ml id ≠ .none) : Wk pr e m (Env.of el) (Mem.of ml) := by
  refine (Wk.cut (el.map fun p => (p.1, e p.1)) ml (fun p hp => ?_) hm.all hr hpr).trans fun N c a hrep => ⟨c, rfl, ⟨fun i => ?_, hrep.mem, hrep.size, hrep.defers⟩, .refl pr c⟩
  · obtain ⟨q, _, rfl⟩ := List.mem_map.1 hp
    rfl
  · have h1 := hrep.env i
    rw [of_keys] at h1
    by_cases hk : (el.any fun p => p.1 == i) = true
    · rw [if_pos hk] at h1; exact he.at i c _ h1
    · rw [of_nokey el i hk]; simp [RepV]
theorem prK {ml0 ml : List (Nat × LE)} (h : (ml0.all fun p => ml.any fun q => q.1 == p.1) = true) : ∀ id, Mem.of ml0 id ≠ .none → m id = .none ∨ Mem.of ml id ≠ .none := by
  intro id hid
  cases hx : Mem.of ml0 id with
  | none => exact absurd hx hid
  | some le => exact .inr (memOf_ne (List.all_eq_true.1 h _ (memOf_some hx)))
theorem prN {ml0 : List (Nat × LE)} (h : Mem.of ml0 id = .none) : ¬ (fun id => Mem.of ml0 id ≠ .none) id := fun h' => h' h
/-- a nil slice becomes an owned row -/
def OwnL (id : Nat) : List (Nat × LV) → List (Nat × LV) → Prop
  | [], [] => True
  | p :: r, q :: s => (q.1 = p.1 ∧ (q.2 = p.2 ∨ (p.2 = .nil ∧ q.2 = .arr id 0))) ∧ OwnL id r s
  | _, _ => False
theorem wN : OwnL id [] [] := trivial
theorem wK {p : Nat × LV} {r s : List (Nat × LV)} (h : OwnL id r s) : OwnL id (p :: r) (p :: s) := ⟨⟨rfl, .inl rfl⟩, h⟩
theorem wO {r s : List (Nat × LV)} (h : OwnL id r s) : OwnL id ((i, .nil) :: r) ((i, .arr id 0) :: s) := ⟨⟨rfl, .inr ⟨rfl, rfl⟩⟩, h⟩
theorem OwnL.len : ∀ {el el' : List (Nat × LV)}, OwnL id el el' → el'.length = el.length
  | [], [], _ => rfl
  | _ :: _, _ :: _, h => by simp [h.2.len]
theorem OwnL.get : ∀ {el el' : List (Nat × LV)}, OwnL id el el' → ∀ i : Nat, ∀ p q, el[i]? = some p → el'[i]? = some q → q.1 = p.1 ∧ (q.2 = p.2 ∨ (p.2 = .nil ∧ q.2 = .arr id 0))
  | [], [], _, i, p, q, hp, hq => by simp at hp
  | a :: r, b :: s, h, 0, p, q, hp, hq => by simp at hp hq; subst hp; subst hq; exact h.1
  | a :: r, b :: s, h, i + 1, p, q, hp, hq => by simp at hp hq; exact h.2.get i p q hp hq
theorem Wk.ownL {el el' : List (Nat × LV)} {ml : List (Nat × LE)} (id e0 k0 : Nat) (hid : Mem.of ml id = .none) (hk : Nat.ble 1 k0 = true) (h : OwnL id el el') : Wk pr (Env.of el) (Mem.of ml) (Env.of el') (Mem.of ((id, .arr e0 k0 []) :: ml)) :=
  Wk.own id e0 k0 hid (Nat.le_of_ble_eq_true hk) h.len h.get
theorem frzS {α : Type} {f : α → LV} {xs : List α} {k0 : Nat} : Sub (LV.frzA id k0 (xs.map f) (.arr id xs.length)) (.lst k0 (xs.map f)) := by
  simp only [LV.frzA, if_true, List.length_map]; exact Sub.rfl

/- code -/
theorem LH.loneT {rid : Nat} {Q : Exit → Env → Mem → Prop} (el : List (Nat × LV)) (ml : List (Nat × LE)) (hd : dstsOk N l = true) (h : SOps P N pr l.toArray l (fun e m => Wk pr e m (Env.of el) (Mem.of ml)) e m) (hr : Q .normal (Env.of el) (Mem.of ml)) : LH P N pr (.region rid l.toArray false) Q e m := by
  obtain ⟨e', m', hK, hrun⟩ := h (dsts_of hd) (by simp)
  refine ⟨.normal, _, _, LExec.post (e' := e') (m' := m') (fun c a hr => ?_) hK, hr⟩
  refine wp_region ?_
  rw [List.size_toArray, List.range_eq_range', wpOps_eq_wpList l 0 (by simp)]
  exact hrun c a hr
theorem LH.seqT {rid : Nat} {yc : Code} {Q : Exit → Env → Mem → Prop} (el : List (Nat × LV)) (ml : List (Nat × LE)) (hd : dstsOk N l = true) (h : SOps P N pr l.toArray l (fun e m => Wk pr e m (Env.of el) (Mem.of ml)) e m) (hr : LH P N pr yc Q (Env.of el) (Mem.of ml)) : LH P N pr (.seq (.region rid l.toArray false) yc) Q e m :=
  LH.seq (LH.loneT el ml hd h hr)
theorem LH.loneTM {rid : Nat} {Q : Exit → Env → Mem → Prop} (hmix : P.follows .mixedOrders = true) (ro : List Nat) (mds : List Nat) (el : List (Nat × LV)) (ml : List (Nat × LE)) (hlen : mds.length = l.length) (hd : dstsOk N l = true) (hok : drawOk l.toArray mds = true)
    (h : LOpsM P pr ro l.toArray (l.zip mds) (fun e m => Wk pr e m (Env.of el) (Mem.of ml)) e m) (hr : Q .normal (Env.of el) (Mem.of ml)) : LH P N pr (.region rid l.toArray true) Q e m := by
  obtain ⟨e', m', hK, hc⟩ := LOpsM_chain _ h
  rw [← zip_modes l mds hlen] at hc
  obtain ⟨ex, e2, m2, h1, h2⟩ := LH.regionC (Q := fun ex e m => ex = .normal ∧ e = e' ∧ m = m') hmix ro mds hd hok hc ⟨rfl, rfl, rfl⟩
  obtain ⟨rfl, rfl, rfl⟩ := h2
  exact ⟨.normal, _, _, h1.post hK, hr⟩

section
variable {Q : Exit → Env → Mem → Prop} {M : Env → Mem → Prop} {I : Nat → Env → Mem → Prop}
theorem thenN (h : M e m) : thenQ M Q .normal e m := h
theorem thenX (h : Q (.exit i) e m) : thenQ M Q (.exit i) e m := h
theorem thenR (h : Q .ret e m) : thenQ M Q .ret e m := h
theorem blockN (h : Q .normal e m) : blockQ j Q .normal e m := h
theorem blockR (h : Q .ret e m) : blockQ j Q .ret e m := h
theorem blockH (h : Q .normal e m) : blockQ j Q (.exit j) e m := by simp only [blockQ, if_true]; exact h
theorem blockX (hn : Nat.beq i j = false) (h : Q (.exit i) e m) : blockQ j Q (.exit i) e m := by simp only [blockQ]; rw [if_neg (fun h' => by subst h'; simp at hn)]; exact h
theorem roundX (h : Q (.exit i) e m) : roundQ pr I n Q (.exit i) e m := h
theorem roundR (h : Q .ret e m) : roundQ pr I n Q .ret e m := h
theorem roundN {e' : Env} {m' : Mem} (hw : Wk pr e m e' m') (h : I n e' m') : roundQ pr I (n + 1) Q .normal e m := ⟨e', m', hw, n, Nat.lt_succ_self n, h⟩
end
def Ends (LV0 : LV) (ml1 : List (Nat × LE)) (lv : LV) (m' : Mem) : Prop := Sub lv LV0 ∧ m' = Mem.of ml1
theorem lr0 {KL : List LV → Prop} (h : KL []) : lres P e m [] KL := h
theorem lrT {KL : List LV → Prop} {r : List ResultVar} (hv : e i = v) (h : lres P e m r fun l => KL (v :: l)) : lres P e m (.tmp i :: r) KL := by simp only [lres]; rw [hv]; exact h
theorem lrC {KL : List LV → Prop} {r : List ResultVar} {rest : List LV} (hv : e i = .ptr id o) (hm : m id = some (.box cs)) (hl : Nat.ble o cs.length = true) (hc : cs.drop o = v :: rest) (ht : tok P t = true) (ha : tagg P t = false) (h : lres P e m r fun l => KL (v :: l)) : lres P e m (.cell i t :: r) KL := by
  simp only [lres, hv, hm, loadC_def, hc, ha, Bool.false_eq_true, if_false]; exact ⟨Nat.le_of_ble_eq_true hl, ht, h⟩
theorem lrCA {KL : List LV → Prop} {r : List ResultVar} (hv : e i = .ptr id o) (hm : m id = some (.box cs)) (hl : Nat.ble o cs.length = true) (ht : tok P t = true) (ha : tagg P t = true) (hs : tsize P t = n) (hl2 : Nat.ble n (cs.drop o).length = true) (hc : (cs.drop o).take n = cs') (h : lres P e m r fun l => KL (.agg cs' :: l)) : lres P e m (.cell i t :: r) KL := by
  subst hc; subst hs
  simp only [lres, hv, hm, loadC_def, ha, if_true]; exact ⟨Nat.le_of_ble_eq_true hl, ht, Nat.le_of_ble_eq_true hl2, h⟩
theorem lrS {KL : List LV → Prop} {r : List ResultVar} (hv : e i = .sptr (v :: cs)) (ht : tok P t = true) (ha : tagg P t = false) (h : lres P e m r fun l => KL (v :: l)) : lres P e m (.cell i t :: r) KL := by
  simp only [lres, hv, loadC_def, ha, Bool.false_eq_true, if_false]; exact ⟨ht, h⟩
theorem lrSA {KL : List LV → Prop} {r : List ResultVar} (hv : e i = .sptr cs) (ht : tok P t = true) (ha : tagg P t = true) (hs : tsize P t = n) (hl2 : Nat.ble n cs.length = true) (hc : cs.take n = cs') (h : lres P e m r fun l => KL (.agg cs' :: l)) : lres P e m (.cell i t :: r) KL := by
  subst hc; subst hs
  simp only [lres, hv, loadC_def, ha, if_true]; exact ⟨ht, Nat.le_of_ble_eq_true hl2, h⟩
theorem retE {fn : Func} {rs : List ResultVar} {LV0 : LV} {ml1 : List (Nat × LE)} (hr : fn.results.toList = rs) (h : lres P e m rs fun l => (∀ p ∈ ml1, m p.1 = some p.2) ∧ keptRefs [(0, oneOf l)] ml1 = true ∧ (∀ id, pr id → m id = .none ∨ Mem.of ml1 id ≠ .none) ∧ Sub (oneOf l) LV0) : retQ P fn pr (Ends LV0 ml1) .ret e m := by
  have key : ∀ (rs : List ResultVar) (K K' : List LV → Prop), (∀ l, K l → K' l) → lres P e m rs K → lres P e m rs K' := by
    intro rs
    induction rs with
    | nil => intro K K' hk h; exact hk _ h
    | cons r rs ih =>
      intro K K' hk h
      have hl : ∀ (t : TypeId) (cs : List LV) (A B : LV → Prop), (∀ x, A x → B x) → loadC P t cs A → loadC P t cs B := by
        intro t cs A B hab hA
        obtain ⟨ht, hA⟩ := hA
        refine ⟨ht, ?_⟩
        split at hA
        · rename_i hg; rw [if_pos hg]; exact ⟨hA.1, hab _ hA.2⟩
        · rename_i hg
          rw [if_neg hg]
          match cs, hA with
          | x :: cs, hA => exact hab _ hA
      cases r with
      | tmp t => exact ih _ _ (fun l hl => hk _ hl) h
      | cell a t =>
        simp only [lres] at h ⊢
        cases hx : e a <;> simp only [hx] at h ⊢
        case sptr cs => exact hl _ _ _ _ (fun lv hlv => ih _ _ (fun l hl => hk _ hl) hlv) h
        case ptr id o =>
          cases hm : m id with
          | none => simp [hm] at h
          | some le =>
            cases le with
            | map _ _ _ => simp [hm] at h
            | nest _ _ _ _ => simp [hm] at h
            | dead => simp [hm] at h
            | arr _ _ _ => simp [hm] at h
            | box cs =>
              simp only [hm] at h ⊢
              exact ⟨h.1, hl _ _ _ _ (fun lv hlv => ih _ _ (fun l hl => hk _ hl) hlv) h.2⟩
  show lres P e m fn.results.toList _
  rw [hr]
  exact key _ _ _ (fun l ⟨h1, h2, h3, h4⟩ => ⟨ml1, h1, h2, h3, h4, rfl⟩) h
theorem retNE {fn : Func} {rs : List ResultVar} {LV0 : LV} {ml1 : List (Nat × LE)} (hr : fn.results.toList = rs) (h : lres P e m rs fun l => (∀ p ∈ ml1, m p.1 = some p.2) ∧ keptRefs [(0, oneOf l)] ml1 = true ∧ (∀ id, pr id → m id = .none ∨ Mem.of ml1 id ≠ .none) ∧ Sub (oneOf l) LV0) : retQ P fn pr (Ends LV0 ml1) .normal e m := retE hr h
theorem bodyT {f : Nat} {fn : Func} {code : Code} {args : List LV} {ml0 ml1 : List (Nat × LE)} {LV0 : LV} (hf : P.funcs[f]? = some fn) (hb : fn.body = some code) (hn : args.length ≤ fn.ntmps)
    (h : LH P fn.ntmps (fun id => Mem.of ml0 id ≠ .none) code (retQ P fn (fun id => Mem.of ml0 id ≠ .none) (Ends LV0 ml1)) (Env.args args) (Mem.of ml0)) : LCall P f args (Mem.of ml0) LV0 (Mem.of ml1) := by
  obtain ⟨lv, m', h1, h2, rfl⟩ := LCall.of_body (R := Ends LV0 ml1) hf hb hn h
  exact h1.res h2
/-- a join: a state that is written out, for some parameters -/
theorem LH.joinT {α : Type} {xc yc : Code} {Q : Exit → Env → Mem → Prop} (A : α → Prop) (el : α → List (Nat × LV)) (ml : α → List (Nat × LE)) (h1 : LH P N pr xc (thenQ (fun e m => ∃ a, A a ∧ Wk pr e m (Env.of (el a)) (Mem.of (ml a))) Q) e m) (h2 : ∀ a, A a → LH P N pr yc Q (Env.of (el a)) (Mem.of (ml a))) : LH P N pr (.seq xc yc) Q e m := LH.join A el ml h1 h2
theorem memN {ml : List (Nat × LE)} (h : MemIs m ml) : ∀ p ∈ ml, m p.1 = some p.2 := h.all
theorem newN {ml : List (Nat × LE)} : ∀ p ∈ ([] : List (Nat × LE)), (ml.any fun q => q.1 == p.1) = true ∨ m p.1 = .none := by simp
theorem newI {ml ml' : List (Nat × LE)} {le : LE} (h : (ml.any fun q => q.1 == i) = true) (h2 : ∀ p ∈ ml', (ml.any fun q => q.1 == p.1) = true ∨ m p.1 = .none) : ∀ p ∈ (i, le) :: ml', (ml.any fun q => q.1 == p.1) = true ∨ m p.1 = .none := by
  intro p hp; rcases List.mem_cons.1 hp with rfl | hp
  · exact .inl h
  · exact h2 p hp
theorem newF {ml ml' : List (Nat × LE)} {le : LE} (h : m i = .none) (h2 : ∀ p ∈ ml', (ml.any fun q => q.1 == p.1) = true ∨ m p.1 = .none) : ∀ p ∈ (i, le) :: ml', (ml.any fun q => q.1 == p.1) = true ∨ m p.1 = .none := by
  intro p hp; rcases List.mem_cons.1 hp with rfl | hp
  · exact .inr h
  · exact h2 p hp
end
mutual
theorem frzA_noref {id k : Nat} {ys : List LV} : ∀ (x : LV), x.noref id = true → x.frzA id k ys = x
  | .und, _ | .int _ _, _ | .bool _, _ | .nil, _ | .slen _, _ | .nilf, _ | .nilp, _ | .lst _ _, _ => by simp [LV.frzA]
  | .sptr cs, h => by simp only [LV.noref] at h; simp [LV.frzA, h]
  | .arr i n, h => by simp [LV.noref] at h; simp [LV.frzA, h]
  | .ptr i n, h => by simp [LV.noref] at h; simp [LV.frzA, h]
  | .eptr i n j o, h => by simp [LV.noref] at h; simp [LV.frzA, h]
  | .mp i, h => by simp [LV.noref] at h; simp [LV.frzA, h]
  | .agg cs, h => by simp only [LV.noref] at h; simp only [LV.frzA]; rw [frzAL_noref cs h]
  | .tup cs, h => by simp only [LV.noref] at h; simp only [LV.frzA]; rw [frzAL_noref cs h]
  | .fn _ cs, h => by simp only [LV.noref] at h; simp only [LV.frzA]; rw [frzAL_noref cs h]
  | .bfn _ cs, h => by simp only [LV.noref] at h; simp only [LV.frzA]; rw [frzAL_noref cs h]
theorem frzAL_noref {id k : Nat} {ys : List LV} : ∀ (xs : List LV), LV.norefL id xs = true → LV.frzAL id k ys xs = xs
  | [], _ => by simp [LV.frzAL]
  | x :: xs, h => by
    simp only [LV.norefL, Bool.and_eq_true] at h
    simp only [LV.frzAL]; rw [frzA_noref x h.1, frzAL_noref xs h.2]
end
def FrzL (id n : Nat) (lv : LV) : List (Nat × LV) → List (Nat × LV) → Prop
  | [], [] => True
  | p :: r, q :: s => (q.1 = p.1 ∧ ((q.2 = p.2 ∧ p.2.noref id = true) ∨ (p.2 = .arr id n ∧ q.2 = lv))) ∧ FrzL id n lv r s
  | _, _ => False
theorem fN {id n : Nat} {lv : LV} : FrzL id n lv [] [] := trivial
theorem fK {id n : Nat} {lv : LV} {p : Nat × LV} {r s : List (Nat × LV)} (h0 : p.2.noref id = true) (h : FrzL id n lv r s) : FrzL id n lv (p :: r) (p :: s) := ⟨⟨rfl, .inl ⟨rfl, h0⟩⟩, h⟩
theorem fZ {id n i : Nat} {lv : LV} {r s : List (Nat × LV)} (h : FrzL id n lv r s) : FrzL id n lv ((i, .arr id n) :: r) ((i, lv) :: s) := ⟨⟨rfl, .inr ⟨rfl, rfl⟩⟩, h⟩
theorem FrzL.sub {id k n : Nat} {ys : List LV} (hn : n = ys.length) : ∀ {el el' : List (Nat × LV)}, FrzL id n (.lst k ys) el el' → ∀ i, Sub (Env.of (el.map fun p => (p.1, p.2.frzA id k ys)) i) (Env.of el' i)
  | [], [], _, i => Sub.rfl
  | p :: r, q :: s, h, i => by
    obtain ⟨⟨h1, h2⟩, h3⟩ := h
    obtain ⟨pi, pv⟩ := p
    obtain ⟨qi, qv⟩ := q
    simp only at h1 h2
    subst h1
    simp only [List.map_cons, Env.of]
    by_cases hi : i = qi
    · simp only [hi, if_true]
      rcases h2 with ⟨rfl, h2⟩ | ⟨rfl, rfl⟩
      · rw [frzA_noref _ h2]; exact Sub.rfl
      · simp only [LV.frzA, if_true, hn]; exact Sub.rfl
    · simp only [hi, if_false]
      exact FrzL.sub hn h3 i
theorem Wk.frzL {pr : Nat → Prop} {α : Type} {f : α → LV} {el el' : List (Nat × LV)} {ml : List (Nat × LE)} (id e0 k0 : Nat) (xs : List α) (hid : Mem.of ml id = some (.arr e0 k0 (xs.map f))) (hfree : freeB id ml = true) (hpr : ¬ pr id) (h : FrzL id xs.length (.lst k0 (xs.map f)) el el') :
    Wk pr (Env.of el) (Mem.of ml) (Env.of el') (Mem.of (ml.filter fun q => q.1 != id)) :=
  (Wk.frzA id e0 k0 (xs.map f) hid hfree hpr).trans fun N c a hr => ⟨c, rfl, ⟨fun i => FrzL.sub (by simp) h i c _ (hr.env i), hr.mem, hr.size, hr.defers⟩, .refl pr c⟩
theorem mN {m : Mem} : MemIs m [] := trivial
theorem mC {m : Mem} {i : Nat} {v : LE} {r : List (Nat × LE)} (h : m i = some v) (hr : MemIs m r) : MemIs m ((i, v) :: r) := ⟨h, hr⟩
theorem sbN : SubL [] [] := trivial
theorem sbR {x : LV} {xs ys : List LV} (h : SubL xs ys) : SubL (x :: xs) (x :: ys) := ⟨Sub.rfl, h⟩
theorem sbL {k : Nat} {xs ys : List LV} (h : SubL xs ys) : SubL (.nil :: xs) (.lst k [] :: ys) := ⟨Sub.nil, h⟩
theorem sbS {x y : LV} {xs ys : List LV} (h0 : Sub x y) (h : SubL xs ys) : SubL (x :: xs) (y :: ys) := ⟨h0, h⟩
abbrev lvl {α : Type} (k : Nat) (f : α → LV) : List α → LV := fun xs => .lst k (xs.map f)
theorem andT {b x : Bool} (h : b = true) : x = (b && x) := by subst h; simp
theorem andF {b x : Bool} (h : b = false) : false = (b && x) := by subst h; simp
theorem orT {b x : Bool} (h : b = true) : true = (b || x) := by subst h; simp
theorem orF {b x : Bool} (h : b = false) : x = (b || x) := by subst h; simp
theorem itT {α : Type} {b : Bool} {x y : α} (h : b = true) : x = (if b = true then x else y) := by subst h; simp
theorem itF {α : Type} {b : Bool} {x y : α} (h : b = false) : y = (if b = true then x else y) := by subst h; simp
theorem SubL.head {x y : LV} {xs ys : List LV} (h : SubL (x :: xs) (y :: ys)) : Sub x y := h.1
end Go.L
