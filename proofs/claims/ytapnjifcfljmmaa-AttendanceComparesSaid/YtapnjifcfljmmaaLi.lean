/- A logic over logical memory, part 9: code: a region in the order of its text, sequences, branches, blocks, loops; what may be forgotten. -/
import Derived.Test.YtapnjifcfljmmaaLh
import Derived.Deep.LoopGhost
set_option linter.unusedVariables false
set_option linter.unusedSimpArgs false
namespace Go.L

structure Rep (N : Nat) (c : Cx) (e : Env) (m : Mem) (a : Act) : Prop where
  env : ∀ i, RepV c (e i) (a.tmps.getD i undef)
  mem : RepM c m
  size : a.tmps.size = N
  defers : a.defers = []

theorem Rep.ev {N : Nat} {c : Cx} {e : Env} {m : Mem} {a : Act} (h : Rep N c e m a) (x : Operand) : RepV c (lev e x) (a.eval x) := by
  cases x with
  | tmp t => exact h.env t
  | const v => exact repV_ofV c v
  | global g => simp [lev, RepV]
  | func f => simp only [lev, Act.eval, RepV]; exact ⟨[], rfl, by simp [RepL]⟩

theorem Rep.put {N : Nat} {pr : Nat → Prop} {c c' : Cx} {e : Env} {m m' : Mem} {a : Act} (h : Rep N c e m a) (hs : Step pr c c') (hm : RepM c' m') {d : Option Nat} (hd : ∀ i, d = some i → i < N) {lv : LV} {v : Value} (hv : RepV c' lv v) : Rep N c' (e.put? d lv) m' (a.put d v) := by
  cases d with
  | none => exact ⟨fun i => hs.repV (h.env i), hm, h.size, h.defers⟩
  | some d =>
    refine ⟨fun i => ?_, hm, by simp [Act.put, h.size], h.defers⟩
    simp only [Env.put?, Env.put, Act.put]
    by_cases hi : i = d
    · subst hi
      have : i < a.tmps.size := by rw [h.size]; exact hd i rfl
      simpa [this] using hv
    · simp only [hi, if_false]
      have := hs.repV (h.env i)
      simpa [Array.getElem?_setIfInBounds_ne (Ne.symm hi)] using this

def LExec (P : Program) (N : Nat) (pr : Nat → Prop) (code : Code) (e : Env) (m : Mem) (ex : Exit) (e' : Env) (m' : Mem) : Prop :=
  ∀ (c : Cx) (a : Act), Rep N c e m a → code.wp P (fun x a' w' => x = ex ∧ ∃ c' : Cx, c'.w = w' ∧ Rep N c' e' m' a' ∧ Grow pr c c') a c.w

/-- The code comes to an end that 'Q' holds of. -/
def LH (P : Program) (N : Nat) (pr : Nat → Prop) (code : Code) (Q : Exit → Env → Mem → Prop) (e : Env) (m : Mem) : Prop :=
  ∃ ex e' m', LExec P N pr code e m ex e' m' ∧ Q ex e' m'

/-- What is known may be forgotten. -/
def Wk (pr : Nat → Prop) (e : Env) (m : Mem) (e' : Env) (m' : Mem) : Prop :=
  ∀ (N : Nat) (c : Cx) (a : Act), Rep N c e m a → ∃ c' : Cx, c'.w = c.w ∧ Rep N c' e' m' a ∧ Grow pr c c'

theorem Wk.refl (pr : Nat → Prop) (e : Env) (m : Mem) : Wk pr e m e m := fun _ c _ h => ⟨c, rfl, h, .refl pr c⟩
theorem Wk.trans {pr : Nat → Prop} {e e' e'' : Env} {m m' m'' : Mem} (h : Wk pr e m e' m') (k : Wk pr e' m' e'' m'') : Wk pr e m e'' m'' := fun N c a hr => by
  obtain ⟨c1, hw1, hr1, hg1⟩ := h N c a hr
  obtain ⟨c2, hw2, hr2, hg2⟩ := k N c1 a hr1
  exact ⟨c2, hw2.trans hw1, hr2, hg1.trans hg2⟩

section rules
variable {P : Program} {N : Nat} {pr : Nat → Prop} {Q : Exit → Env → Mem → Prop} {e e' : Env} {m m' : Mem}

theorem LH.mono {c : Code} {Q' : Exit → Env → Mem → Prop} (h : LH P N pr c Q e m) (hq : ∀ ex e m, Q ex e m → Q' ex e m) : LH P N pr c Q' e m := by
  obtain ⟨ex, e', m', h1, h2⟩ := h
  exact ⟨ex, e', m', h1, hq _ _ _ h2⟩

theorem LExec.wk {c : Code} {ex : Exit} {e2 : Env} {m2 : Mem} (hw : Wk pr e m e' m') (h : LExec P N pr c e' m' ex e2 m2) : LExec P N pr c e m ex e2 m2 := by
  intro cx a hr
  obtain ⟨c1, hw1, hr1, hg1⟩ := hw N cx a hr
  rw [← hw1]
  refine wp_mono (h c1 a hr1) ?_
  rintro x a' w' ⟨hx, c2, hw2, hr2, hg2⟩
  exact ⟨hx, c2, hw2, hr2, hg1.trans hg2⟩

theorem LH.wk {c : Code} (hw : Wk pr e m e' m') (h : LH P N pr c Q e' m') : LH P N pr c Q e m := by
  obtain ⟨ex, e2, m2, h1, h2⟩ := h
  exact ⟨ex, e2, m2, h1.wk hw, h2⟩

theorem LH.skip (h : Q .normal e m) : LH P N pr .skip Q e m := ⟨_, _, _, fun c a hr => wp_skip ⟨rfl, c, rfl, hr, .refl pr c⟩, h⟩
theorem LH.ret (h : Q .ret e m) : LH P N pr .ret Q e m := ⟨_, _, _, fun c a hr => wp_ret ⟨rfl, c, rfl, hr, .refl pr c⟩, h⟩
theorem LH.exit {id : Nat} (h : Q (.exit id) e m) : LH P N pr (.exit id) Q e m := ⟨_, _, _, fun c a hr => wp_exit ⟨rfl, c, rfl, hr, .refl pr c⟩, h⟩

def thenQ (K : Env → Mem → Prop) (Q : Exit → Env → Mem → Prop) : Exit → Env → Mem → Prop
  | .normal, e, m => K e m
  | ex, e, m => Q ex e m

theorem LH.seq {x y : Code} (h : LH P N pr x (thenQ (LH P N pr y Q) Q) e m) : LH P N pr (.seq x y) Q e m := by
  obtain ⟨ex, e1, m1, h1, h2⟩ := h
  cases ex with
  | normal =>
    obtain ⟨ex2, e2, m2, h3, h4⟩ := h2
    refine ⟨ex2, e2, m2, fun c a hr => wp_seq (wp_mono (h1 c a hr) ?_), h4⟩
    rintro x a' w' ⟨rfl, c', rfl, hr', hg'⟩
    refine wp_mono (h3 c' a' hr') ?_
    rintro x a'' w'' ⟨hx, c2, hw2, hr2, hg2⟩
    exact ⟨hx, c2, hw2, hr2, hg'.trans hg2⟩
  | exit id =>
    refine ⟨_, e1, m1, fun c a hr => wp_seq (wp_mono (h1 c a hr) ?_), h2⟩
    rintro x a' w' ⟨rfl, hq⟩
    exact ⟨rfl, hq⟩
  | goto l =>
    refine ⟨_, e1, m1, fun c a hr => wp_seq (wp_mono (h1 c a hr) ?_), h2⟩
    rintro x a' w' ⟨rfl, hq⟩
    exact ⟨rfl, hq⟩
  | ret =>
    refine ⟨_, e1, m1, fun c a hr => wp_seq (wp_mono (h1 c a hr) ?_), h2⟩
    rintro x a' w' ⟨rfl, hq⟩
    exact ⟨rfl, hq⟩
  | panic ch =>
    refine ⟨_, e1, m1, fun c a hr => wp_seq (wp_mono (h1 c a hr) ?_), h2⟩
    rintro x a' w' ⟨rfl, hq⟩
    exact ⟨rfl, hq⟩
  | outgrown =>
    refine ⟨_, e1, m1, fun c a hr => wp_seq (wp_mono (h1 c a hr) ?_), h2⟩
    rintro x a' w' ⟨rfl, hq⟩
    exact ⟨rfl, hq⟩

theorem LH.cond {x : Operand} {y z : Code} {t : Bool} (hx : lev e x = .bool t) (h1 : t = true → LH P N pr y Q e m) (h2 : t = false → LH P N pr z Q e m) : LH P N pr (.cond x y z) Q e m := by
  cases t with
  | true =>
    obtain ⟨ex, e', m', h3, h4⟩ := h1 rfl
    refine ⟨ex, e', m', fun c a hr => ?_, h4⟩
    have := hr.ev x
    rw [hx] at this
    simp only [RepV] at this
    exact wp_cond_true this (h3 c a hr)
  | false =>
    obtain ⟨ex, e', m', h3, h4⟩ := h2 rfl
    refine ⟨ex, e', m', fun c a hr => ?_, h4⟩
    have := hr.ev x
    rw [hx] at this
    simp only [RepV] at this
    exact wp_cond_false this (h3 c a hr)

def blockQ (id : Nat) (Q : Exit → Env → Mem → Prop) : Exit → Env → Mem → Prop
  | .exit j, e, m => if j = id then Q .normal e m else Q (.exit j) e m
  | ex, e, m => Q ex e m

theorem LH.block {id : Nat} {c : Code} (h : LH P N pr c (blockQ id Q) e m) : LH P N pr (.block id c) Q e m := by
  obtain ⟨ex, e1, m1, h1, h2⟩ := h
  have gen : ∀ ex', (∀ a w, ∀ R : Act → World → Prop, R a w → Exit.inBlock id (fun x a w => x = ex' ∧ R a w) ex a w) → Q ex' e1 m1 → LH P N pr (.block id c) Q e m := by
    intro ex' hb hq
    refine ⟨ex', e1, m1, fun cx a hr => wp_block (wp_mono (h1 cx a hr) ?_), hq⟩
    rintro x a' w' ⟨rfl, hh⟩
    exact hb a' w' (fun a' w' => ∃ c' : Cx, c'.w = w' ∧ Rep N c' e1 m1 a' ∧ Grow pr cx c') hh
  cases ex with
  | exit j =>
    by_cases hj : j = id
    · subst hj
      simp only [blockQ, if_true] at h2
      exact gen .normal (fun a w R hR => by simp [Exit.inBlock, hR]) h2
    · simp only [blockQ, hj, if_false] at h2
      exact gen (.exit j) (fun a w R hR => by simp [Exit.inBlock, hj, hR]) h2
  | normal => exact gen _ (fun a w R hR => ⟨rfl, hR⟩) h2
  | goto l => exact gen _ (fun a w R hR => ⟨rfl, hR⟩) h2
  | ret => exact gen _ (fun a w R hR => ⟨rfl, hR⟩) h2
  | panic ch => exact gen _ (fun a w R hR => ⟨rfl, hR⟩) h2
  | outgrown => exact gen _ (fun a w R hR => ⟨rfl, hR⟩) h2

/-- n rounds and a last one. -/
def Rounds (P : Program) (N : Nat) (pr : Nat → Prop) (c : Code) (ex : Exit) (e' : Env) (m' : Mem) : Nat → Env → Mem → Prop
  | 0, e, m => ex ≠ .normal ∧ LExec P N pr c e m ex e' m'
  | n + 1, e, m => ∃ e1 m1, LExec P N pr c e m .normal e1 m1 ∧ Rounds P N pr c ex e' m' n e1 m1

theorem Rounds.exec {c : Code} {ex : Exit} {n : Nat} (h : Rounds P N pr c ex e' m' n e m) : LExec P N pr (.loop c) e m ex e' m' := by
  intro cx a hr
  refine wp_loop_ghost (fun k a w => ∃ e1 m1, ∃ c1 : Cx, Rounds P N pr c ex e' m' k e1 m1 ∧ c1.w = w ∧ Rep N c1 e1 m1 a ∧ Grow pr cx c1) n ⟨e, m, cx, h, rfl, hr, .refl pr cx⟩ ?_
  rintro k a w ⟨e1, m1, c1, hR, rfl, hr1, hg1⟩
  cases k with
  | zero =>
    obtain ⟨hne, hx⟩ := hR
    refine wp_mono (hx c1 a hr1) ?_
    rintro x a' w' ⟨rfl, c2, rfl, hr2, hg2⟩
    cases x <;> first | exact absurd rfl hne | exact ⟨rfl, c2, rfl, hr2, hg1.trans hg2⟩
  | succ k =>
    obtain ⟨e2, m2, hx, hR⟩ := hR
    refine wp_mono (hx c1 a hr1) ?_
    rintro x a' w' ⟨rfl, c2, rfl, hr2, hg2⟩
    exact ⟨k, by omega, e2, m2, c2, hR, rfl, hr2, hg1.trans hg2⟩

theorem LExec.post {c : Code} {ex : Exit} {e2 : Env} {m2 : Mem} (h : LExec P N pr c e m ex e' m') (hw : Wk pr e' m' e2 m2) : LExec P N pr c e m ex e2 m2 := by
  intro cx a hr
  refine wp_mono (h cx a hr) ?_
  rintro x a' w' ⟨hx, c1, rfl, hr1, hg1⟩
  obtain ⟨c2, hw2, hr2, hg2⟩ := hw N c1 a' hr1
  exact ⟨hx, c2, hw2, hr2, hg1.trans hg2⟩

/-- the end of a round: the invariant again, with a smaller number, of what is kept -/
def roundQ (pr : Nat → Prop) (I : Nat → Env → Mem → Prop) (n : Nat) (Q : Exit → Env → Mem → Prop) : Exit → Env → Mem → Prop
  | .normal, e, m => ∃ e' m', Wk pr e m e' m' ∧ ∃ k, k < n ∧ I k e' m'
  | ex, e, m => Q ex e m

theorem LH.loop {c : Code} (I : Nat → Env → Mem → Prop) (n : Nat) (h0 : I n e m) (h : ∀ n e m, I n e m → LH P N pr c (roundQ pr I n Q) e m) : LH P N pr (.loop c) Q e m := by
  have key : ∀ n e m, I n e m → ∃ ex e' m' k, Rounds P N pr c ex e' m' k e m ∧ Q ex e' m' := by
    intro n
    induction n using Nat.strongRecOn with
    | _ n ih =>
      intro e m hI
      obtain ⟨ex, e1, m1, h1, h2⟩ := h n e m hI
      cases ex with
      | normal =>
        obtain ⟨e2, m2, hw, k, hk, hI2⟩ := h2
        obtain ⟨ex, e', m', j, hR, hQ⟩ := ih k hk e2 m2 hI2
        exact ⟨ex, e', m', j + 1, ⟨e2, m2, h1.post hw, hR⟩, hQ⟩
      | exit id => exact ⟨_, e1, m1, 0, ⟨by simp, h1⟩, h2⟩
      | goto l => exact ⟨_, e1, m1, 0, ⟨by simp, h1⟩, h2⟩
      | ret => exact ⟨_, e1, m1, 0, ⟨by simp, h1⟩, h2⟩
      | panic ch => exact ⟨_, e1, m1, 0, ⟨by simp, h1⟩, h2⟩
      | outgrown => exact ⟨_, e1, m1, 0, ⟨by simp, h1⟩, h2⟩
  obtain ⟨ex, e', m', k, hR, hQ⟩ := key n e m h0
  exact ⟨ex, e', m', hR.exec, hQ⟩

theorem wanted_of {ops : Array Oper} {o : Oper} {c : Cx} {a : Act} (hr : Rep N c e m a) (hd : ∀ q ∈ ops, ∀ i, q.dst = some i → i < N) {j : Nat} {want : Bool} (hg : o.guard = some (j, want)) {g : Nat} (hj : (ops[j]?).bind (·.dst) = some g) {t : Bool} (ht : e g = .bool t) :
    Region.wanted o (yielded ops a.tmps) = (t == want) := by
  have hv := hr.env g
  rw [ht] at hv
  simp only [RepV] at hv
  have hgN : g < N := by
    cases hq : ops[j]? with
    | none => simp [hq] at hj
    | some q => simp [hq] at hj; exact hd q (Array.mem_of_getElem? hq) g hj
  have hsz : g < a.tmps.size := by rw [hr.size]; exact hgN
  have hget : a.tmps[g]? = some (.bool t) := by
    rw [Array.getElem?_eq_getElem hsz]
    simpa [hsz] using hv
  simp [Region.wanted, hg, yielded, hj, hget]

theorem unwanted_of {ops : Array Oper} {o : Oper} {c : Cx} {a : Act} (hr : Rep N c e m a) (hd : ∀ q ∈ ops, ∀ i, q.dst = some i → i < N) {j : Nat} {want : Bool} (hg : o.guard = some (j, want)) {g : Nat} (hj : (ops[j]?).bind (·.dst) = some g) (ht : e g = .tup []) :
    Region.wanted o (yielded ops a.tmps) = false := by
  have hv := hr.env g
  rw [ht] at hv
  simp only [RepV, RepL] at hv
  obtain ⟨vs, hv, rfl⟩ := hv
  have hgN : g < N := by
    cases hq : ops[j]? with
    | none => simp [hq] at hj
    | some q => simp [hq] at hj; exact hd q (Array.mem_of_getElem? hq) g hj
  have hsz : g < a.tmps.size := by rw [hr.size]; exact hgN
  have hget : a.tmps[g]? = some (.tuple #[]) := by
    rw [Array.getElem?_eq_getElem hsz]
    simpa [hsz] using hv
  simp [Region.wanted, hg, yielded, hj, hget]

theorem repV_undef (c : Cx) : RepV c (.tup []) undef := by
  simp only [RepV, RepL]
  exact ⟨[], rfl, rfl⟩

/-- A step: its outcome, and that the operation, run or passed over, comes to it. -/
theorem LStep_sound {ro : List Nat} {ops : Array Oper} {o : Oper} {K : Env → Mem → Prop} (hd : ∀ q ∈ ops, ∀ i, q.dst = some i → i < N) (hod : ∀ i, o.dst = some i → i < N) (h : LStep P pr ro ops o K e m) :
    ∃ lv m', K (e.put? o.dst lv) m' ∧ ∀ (c : Cx) (a : Act) (R : Act → World → Prop) (Q : Exit → Act → World → Prop), Rep N c e m a →
      (∀ a' (c' : Cx), Rep N c' (e.put? o.dst lv) m' a' → Step pr c c' → R a' c'.w) →
      if Region.wanted o (yielded ops a.tmps) then o.wp P a c.w R Q ∨ (o.asks P a c.w ∧ LetsOut Q) else R (a.put o.dst undef) c.w := by
  have run : ∀ (h : LOp P pr ro o (lev e) m fun lv m' => K (e.put? o.dst lv) m'), ∃ lv m', K (e.put? o.dst lv) m' ∧ ∀ (c : Cx) (a : Act) (R : Act → World → Prop) (Q : Exit → Act → World → Prop), Rep N c e m a →
      (∀ a' (c' : Cx), Rep N c' (e.put? o.dst lv) m' a' → Step pr c c' → R a' c'.w) → o.wp P a c.w R Q := by
    intro h
    obtain ⟨lv, m', hK, hok⟩ := LOp_sound h
    refine ⟨lv, m', hK, fun c a R Q hr hR => ?_⟩
    refine Oper.wp_mono ?_ (hok c a Q hr.ev hr.mem)
    rintro a' w' ⟨v, c', rfl, rfl, hv, hm', hs⟩
    exact hR _ c' (hr.put hs hm' hod hv) hs
  unfold LStep at h
  split at h
  · rename_i hg
    obtain ⟨lv, m', hK, hrun⟩ := run h
    refine ⟨lv, m', hK, fun c a R Q hr hR => ?_⟩
    rw [if_pos (by simp [Region.wanted, hg])]
    exact .inl (hrun c a R Q hr hR)
  · rename_i j want hg
    split at h
    · rename_i g hj
      cases ht : e g <;> simp only [ht] at h
      case bool t =>
        split at h
        · rename_i heq
          obtain ⟨lv, m', hK, hrun⟩ := run h
          refine ⟨lv, m', hK, fun c a R Q hr hR => ?_⟩
          rw [wanted_of hr hd hg hj ht, if_pos (by simpa using heq)]
          exact .inl (hrun c a R Q hr hR)
        · rename_i hne
          refine ⟨.tup [], m, h, fun c a R Q hr hR => ?_⟩
          rw [wanted_of hr hd hg hj ht, if_neg (by simpa using hne)]
          exact hR _ c (hr.put (Step.refl pr c) hr.mem hod (repV_undef c)) (Step.refl pr c)
      case tup vs =>
        cases vs with
        | cons x xs => exact h.elim
        | nil =>
          refine ⟨.tup [], m, h, fun c a R Q hr hR => ?_⟩
          rw [unwanted_of hr hd hg hj ht, if_neg (by simp)]
          exact hR _ c (hr.put (Step.refl pr c) hr.mem hod (repV_undef c)) (Step.refl pr c)
    · cases h

theorem LOps_sound {ro : List Nat} {ops : Array Oper} (hd : ∀ q ∈ ops, ∀ i, q.dst = some i → i < N) : ∀ (l : List Oper) (e : Env) (m : Mem) (K : Env → Mem → Prop), (∀ o ∈ l, o ∈ ops) → LOps P pr ro ops l K e m →
    ∃ e' m', K e' m' ∧ ∀ (c : Cx) (a : Act), Rep N c e m a → wpList P ops (fun x a' w' => x = .normal ∧ ∃ c' : Cx, c'.w = w' ∧ Rep N c' e' m' a' ∧ Grow pr c c') l a c.w
  | [], e, m, K, _, h => ⟨e, m, h, fun c a hr => ⟨rfl, c, rfl, hr, .refl pr c⟩⟩
  | o :: l, e, m, K, hl, h => by
    simp only [LOps] at h
    obtain ⟨lv, m1, h1, hstep⟩ := LStep_sound hd (hd o (hl o (by simp))) h
    obtain ⟨e', m', hK, hrest⟩ := LOps_sound hd l _ _ K (fun q hq => hl q (by simp [hq])) h1
    refine ⟨e', m', hK, fun c a hr => ?_⟩
    simp only [wpList]
    refine hstep c a _ _ hr ?_
    intro a' c' hr' hs
    have key : ∀ (l : List Oper) (a : Act) (w : World) (Q Q' : Exit → Act → World → Prop), (∀ x a w, Q x a w → Q' x a w) → wpList P ops Q l a w → wpList P ops Q' l a w := by
      intro l
      induction l with
      | nil => intro a w Q Q' hq hh; exact hq _ _ _ hh
      | cons o l ih =>
        intro a w Q Q' hq hh
        simp only [wpList] at hh ⊢
        split
        · rename_i hwt
          rw [if_pos hwt] at hh
          rcases hh with hh | ⟨h1, a0, w0, h2⟩
          · left
            unfold Oper.wp at hh ⊢
            generalize (execOp a.eval o).run P w = r at hh ⊢
            cases r with
            | ok nx w' =>
              cases nx <;> simp only [Oper.upon] at hh ⊢ <;> first
                | exact ih _ _ _ _ hq hh
                | exact Calls.mono hh (fun en w'' he => by cases en <;> first | exact ih _ _ _ _ hq he | exact hq _ _ _ he | exact he.imp fun _ => Exists.imp fun _ => hq _ _ _)
                | exact Rows.mono hh (fun _ _ he => ih _ _ _ _ hq he)
            | halt x w' => cases x <;> simp only [Oper.upon] at hh ⊢ <;> first | exact hq _ _ _ hh | exact hh
          · exact .inr ⟨h1, a0, w0, hq _ _ _ h2⟩
        · rename_i hwt
          rw [if_neg hwt] at hh
          exact ih _ _ _ _ hq hh
    refine key _ _ _ _ _ ?_ (hrest c' a' hr')
    rintro x a'' w'' ⟨hx, c2, hw2, hr2, hg2⟩
    exact ⟨hx, c2, hw2, hr2, hs.grow.trans hg2⟩

def dstsOk (N : Nat) (l : List Oper) : Bool := l.all fun o => match o.dst with | some d => decide (d < N) | .none => true

theorem dsts_of {l : List Oper} (h : dstsOk N l = true) : ∀ q ∈ l.toArray, ∀ i, q.dst = some i → i < N := by
  intro q hq i hi
  have := List.all_eq_true.1 h q (by simpa using hq)
  simpa [hi] using this

theorem LH.region {id : Nat} {l : List Oper} (ro : List Nat) (hd : dstsOk N l = true) (h : LOps P pr ro l.toArray l (Q .normal) e m) : LH P N pr (.region id l.toArray false) Q e m := by
  obtain ⟨e', m', hK, hrun⟩ := LOps_sound (dsts_of hd) l e m _ (by simp) h
  refine ⟨.normal, e', m', fun c a hr => ?_, hK⟩
  refine wp_region ?_
  rw [List.size_toArray, List.range_eq_range', wpOps_eq_wpList l 0 (by simp)]
  exact hrun c a hr
end rules
end Go.L
