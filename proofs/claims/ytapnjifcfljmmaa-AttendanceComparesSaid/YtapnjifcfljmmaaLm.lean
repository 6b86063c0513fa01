/- A logic over logical memory, part 13: a region that draws its order: one order of it is enough. -/
import Derived.Test.YtapnjifcfljmmaaLk
set_option linter.unusedVariables false
set_option linter.unusedSimpArgs false
namespace Go.L
section
variable {P : Program} {N : Nat} {pr : Nat → Prop} {ro : List Nat} {ops : Array Oper}

/-- what an operation comes to, by its operands alone -/
def OpOkR (P : Program) (pr : Nat → Prop) (o : Oper) (ev : Operand → LV) (m : Mem) (lv : LV) (m' : Mem) : Prop :=
  ∀ (c : Cx) (a : Act) (Q : Exit → Act → World → Prop), (∀ x ∈ o.op.operands, RepV c (ev x) (a.eval x)) → RepM c m →
    o.wp P a c.w (fun a' w' => ∃ v c', a' = a.put o.dst v ∧ c'.w = w' ∧ RepV c' lv v ∧ RepM c' m' ∧ Step pr c c') Q
/-- is the operation wanted? -/
def gd (ops : Array Oper) (o : Oper) (e : Env) : Option Bool :=
  match o.guard with
  | .none => some true
  | some (j, want) => match (ops[j]?).bind (·.dst) with
    | some g => match e g with
      | .bool t => some (t == want)
      | .tup [] => some false
      | _ => .none
    | .none => .none

/-- A step in a region that draws its order. 'md' 0: it needs no memory and turns none; 1: it turns none; 3: by meaning, whatever; else: whatever. -/
def LStepM (P : Program) (pr : Nat → Prop) (ro : List Nat) (ops : Array Oper) (md : Nat) (o : Oper) (K : Env → Mem → Prop) (e : Env) (m : Mem) : Prop :=
  match gd ops o e with
  | some true => match md with
    | 0 => LOp P pr ro o (lev e) Mem.none fun lv m' => m' = Mem.none ∧ K (e.put? o.dst lv) m
    | 1 => LOp P pr ro o (lev e) m fun lv m' => m' = m ∧ K (e.put? o.dst lv) m
    | 3 => ∃ lv m', OpOkR P pr o (lev e) m lv m' ∧ K (e.put? o.dst lv) m'
    | _ => LOp P pr ro o (lev e) m fun lv m' => K (e.put? o.dst lv) m'
  | some false => K (e.put? o.dst (.tup [])) m
  | .none => False

def LOpsM (P : Program) (pr : Nat → Prop) (ro : List Nat) (ops : Array Oper) : List (Oper × Nat) → (Env → Mem → Prop) → Env → Mem → Prop
  | [], K => K
  | (o, md) :: r, K => LStepM P pr ro ops md o (LOpsM P pr ro ops r K)

def Out (P : Program) (pr : Nat → Prop) (ro : List Nat) (ops : Array Oper) (o : Oper) (e : Env) (md : Nat) (m : Mem) (lv : LV) (m' : Mem) : Prop :=
  match gd ops o e with
  | some true => (md = 3 ∧ OpOkR P pr o (lev e) m lv m') ∨ md ≠ 3 ∧ (md = 0 → m' = m ∧ ∀ m0, ∀ K' : LV → Mem → Prop, K' lv m0 → LOp P pr ro o (lev e) m0 K') ∧ (md = 1 → m' = m) ∧ ∀ K' : LV → Mem → Prop, K' lv m' → LOp P pr ro o (lev e) m K'
  | some false => lv = .tup [] ∧ m' = m
  | .none => False

theorem LStepM_out {md : Nat} {o : Oper} {K : Env → Mem → Prop} {e : Env} {m : Mem} (h : LStepM P pr ro ops md o K e m) : ∃ lv m', K (e.put? o.dst lv) m' ∧ Out P pr ro ops o e md m lv m' := by
  unfold LStepM at h
  unfold Out
  cases hg : gd ops o e with
  | none => simp [hg] at h
  | some b =>
    cases b with
    | false => simp only [hg] at h ⊢; exact ⟨_, _, h, rfl, rfl⟩
    | true =>
      simp only [hg] at h ⊢
      split at h
      · obtain ⟨lv, m', ⟨hm', hK⟩, h1, h2⟩ := LOp_out h
        exact ⟨lv, m, hK, .inr ⟨by simp, fun _ => ⟨rfl, h2 rfl hm'⟩, by simp, fun K' hK' => h2 rfl hm' m K' hK'⟩⟩
      · obtain ⟨lv, m', ⟨rfl, hK⟩, h1, h2⟩ := LOp_out h
        exact ⟨lv, _, hK, .inr ⟨by simp, by simp, fun _ => rfl, h1⟩⟩
      · obtain ⟨lv, m', h1, hK⟩ := h
        exact ⟨lv, m', hK, .inl ⟨rfl, h1⟩⟩
      · rename_i n0 n1 n3
        obtain ⟨lv, m', hK, h1, h2⟩ := LOp_out h
        exact ⟨lv, m', hK, .inr ⟨by simpa using n3, fun h0 => absurd h0 (by simpa using n0), fun h0 => absurd h0 (by simpa using n1), h1⟩⟩

theorem lev_same {o : Oper} {e e' : Env} (h : ∀ t ∈ o.looksAt ops, e t = e' t) : ∀ x ∈ o.op.operands, lev e x = lev e' x := by
  intro x hx
  cases x with
  | tmp t =>
    refine h t ?_
    unfold Oper.looksAt
    exact List.mem_append.2 (.inl (List.mem_filterMap.2 ⟨.tmp t, by simpa using hx, rfl⟩))
  | const v => rfl
  | global g => rfl
  | func f => rfl

theorem gd_same {o : Oper} {e e' : Env} (h : ∀ t ∈ o.looksAt ops, e t = e' t) : gd ops o e = gd ops o e' := by
  unfold gd
  cases hg : o.guard with
  | none => rfl
  | some q =>
    obtain ⟨j, want⟩ := q
    cases hj : (ops[j]?).bind (·.dst) with
    | none => simp only [hj]
    | some g =>
      simp only [hj]
      rw [h g]
      unfold Oper.looksAt
      refine List.mem_append.2 (.inr ?_)
      simp [hg, hj]

theorem Out.congr {o : Oper} {e e' : Env} {md : Nat} {m m' : Mem} {lv : LV} (h : ∀ t ∈ o.looksAt ops, e t = e' t) (ho : Out P pr ro ops o e md m lv m') : Out P pr ro ops o e' md m lv m' := by
  unfold Out at ho ⊢
  rw [← gd_same h]
  have hl := lev_same h
  split at ho
  · rcases ho with ⟨h3, ho⟩ | ⟨h3, h1, h2, h4⟩
    · exact .inl ⟨h3, fun c a Q hev hm => ho c a Q (fun x hx => by rw [hl x hx]; exact hev x hx) hm⟩
    · exact .inr ⟨h3, fun h0 => ⟨(h1 h0).1, fun m0 K' hK => LOp_congr hl ((h1 h0).2 m0 K' hK)⟩, h2, fun K' hK => LOp_congr hl (h4 K' hK)⟩
  · exact ho
  · exact ho

/-- new memory, under no guard -/
def isAlloc (o : Oper) : Bool := (match o.op with | .alloc _ => true | _ => false) && o.guard.isNone
/-- an operation that new memory beside it does not disturb -/
def frames (o : Oper) : Bool := (match o.op with | .alloc _ => true | .call c => (match c.callee with | .value _ => true | _ => false) | _ => false) && o.guard.isNone
/-- may the two change places? -/
def swaps (ops : Array Oper) (x y : Oper × Nat) : Bool := x.1.apart ops y.1 && (x.2 == 0 || y.2 == 0 || (decide (x.2 ≤ 1) && decide (y.2 ≤ 1)) || (isAlloc y.1 && frames x.1 && x.2 == 2 && y.2 == 2))
theorem put_put {m : Mem} {A B : Nat} {x y : LE} (h : A ≠ B) : (m.put A x).put B y = (m.put B y).put A x := by
  funext i
  simp only [Mem.put]
  by_cases h1 : i = A
  · subst h1; simp [h]
  · simp [h1]
theorem alloc_out {o : Oper} {ev : Operand → LV} {m m' : Mem} {lv : LV} {t : TypeId} (ho : o.op = .alloc t) (h : ∀ K' : LV → Mem → Prop, K' lv m' → LOp P pr ro o ev m K') :
    ∃ z d, tzero P t = some z ∧ o.dst = some d ∧ m (100 + d) = .none ∧ lv = .ptr (100 + d) 0 ∧ m' = m.put (100 + d) (.box z.cells) := by
  have := h (fun l mm => lv = l ∧ m' = mm) ⟨rfl, rfl⟩
  simp only [LOp, ho] at this
  split at this
  · rename_i z d hz hd
    exact ⟨z, d, hz, hd, this.1, this.2.1, this.2.2⟩
  · exact this.elim
theorem frame_out {o : Oper} {ev : Operand → LV} {m m' : Mem} {lv : LV} (hf : frames o = true) (h : ∀ K' : LV → Mem → Prop, K' lv m' → LOp P pr ro o ev m K') {A : Nat} (hA : m' A = .none) (x : LE) :
    m A = .none ∧ ∀ K' : LV → Mem → Prop, K' lv (m'.put A x) → LOp P pr ro o ev (m.put A x) K' := by
  simp only [frames, Bool.and_eq_true] at hf
  cases ho : o.op <;> simp only [ho] at hf <;> try (simp at hf; done)
  case alloc t =>
    obtain ⟨z, d, hz, hd, hm, rfl, rfl⟩ := alloc_out ho h
    have hne : 100 + d ≠ A := fun he => by subst he; simp [Mem.put] at hA
    have hmA : m A = .none := by simp only [Mem.put] at hA; rw [if_neg (Ne.symm hne)] at hA; exact hA
    refine ⟨hmA, fun K' hK => ?_⟩
    simp only [LOp, ho, hz, hd]
    refine ⟨by simp only [Mem.put]; rw [if_neg hne]; exact hm, ?_⟩
    rw [put_put (Ne.symm hne)]; exact hK
  case call c =>
    obtain ⟨cl, args, tys⟩ := c
    cases cl <;> simp only at hf <;> try (simp at hf; done)
    case value y =>
      have := h (fun l mm => lv = l ∧ m' = mm) ⟨rfl, rfl⟩
      simp only [LOp, ho] at this
      cases hy : ev y <;> simp only [hy] at this
      case fn f cap =>
        obtain ⟨hfn, lv0, mc, mc', hc, h1, h2, h3, h4, rfl, rfl⟩ := this
        have hmc' : mc' A = .none := by
          cases hq : mc' A with
          | none => rfl
          | some q => simp [Mem.over, hq] at hA
        have hmA : m A = .none := by simpa [Mem.over, hmc'] using hA
        have hmc : mc A = .none := by
          cases hq : mc A with
          | none => rfl
          | some q => have := h1 A (by simp [hq]); rw [hmA, hq] at this; cases this
        refine ⟨hmA, fun K' hK => ?_⟩
        simp only [LOp, ho, hy]
        refine ⟨hfn, lv, mc, mc', hc, fun id hid => ?_, fun id hid hid' => ?_, h3, h4, ?_⟩
        · have : id ≠ A := fun he => by subst he; exact hid hmc
          simp only [Mem.put]; rw [if_neg this]; exact h1 id hid
        · have : id ≠ A := fun he => by subst he; exact hid' hmc'
          simp only [Mem.put]; rw [if_neg this]; exact h2 id hid hid'
        · have : (m.put A x).over mc' = (m.over mc').put A x := by
            funext i
            simp only [Mem.over, Mem.put]
            by_cases hi : i = A
            · subst hi; simp [hmc']
            · simp only [hi, if_false]
          rw [this]; exact hK

def Chain (P : Program) (pr : Nat → Prop) (ro : List Nat) (ops : Array Oper) : List (Oper × Nat) → Env → Mem → Env → Mem → Prop
  | [], e, m, e', m' => e' = e ∧ m' = m
  | (o, md) :: r, e, m, e', m' => ∃ lv m1, Out P pr ro ops o e md m lv m1 ∧ Chain P pr ro ops r (e.put? o.dst lv) m1 e' m'

theorem LOpsM_chain : ∀ (l : List (Oper × Nat)) {K : Env → Mem → Prop} {e : Env} {m : Mem}, LOpsM P pr ro ops l K e m → ∃ e' m', K e' m' ∧ Chain P pr ro ops l e m e' m'
  | [], K, e, m, h => ⟨e, m, h, rfl, rfl⟩
  | (o, md) :: r, K, e, m, h => by
    simp only [LOpsM] at h
    obtain ⟨lv, m1, h1, ho⟩ := LStepM_out h
    obtain ⟨e', m', hK, hc⟩ := LOpsM_chain r h1
    exact ⟨e', m', hK, lv, m1, ho, hc⟩

theorem put?_comm {e : Env} {x y : Option Nat} {u v : LV} (h : ∀ d, x = some d → y ≠ some d) : (e.put? x u).put? y v = (e.put? y v).put? x u := by
  cases x with
  | none => rfl
  | some a =>
    cases y with
    | none => rfl
    | some b =>
      have hab : a ≠ b := fun hh => h a rfl (by rw [hh])
      funext i
      simp only [Env.put?, Env.put]
      by_cases h1 : i = a
      · subst h1; simp [hab]
      · simp [h1]

theorem put?_looks {e : Env} {o : Oper} {d : Option Nat} {v : LV} (h : ∀ i, d = some i → i ∉ o.looksAt ops) : ∀ t ∈ o.looksAt ops, (e.put? d v) t = e t := by
  intro t ht
  cases d with
  | none => rfl
  | some i =>
    have : t ≠ i := fun hh => h i rfl (hh ▸ ht)
    simp [Env.put?, Env.put, this]

theorem md_out {o : Oper} {e : Env} {md : Nat} {m m' : Mem} {lv : LV} (h : Out P pr ro ops o e md m lv m') (hmd : md ≤ 1) : m' = m := by
  unfold Out at h
  split at h
  · obtain ⟨h1, h2, _⟩ := (h.resolve_left (fun h3 => by omega)).2
    rcases (by omega : md = 0 ∨ md = 1) with h0 | h0
    · exact (h1 h0).1
    · exact h2 h0
  · exact h.2
  · exact h.elim

/-- at mode 0 or 1 over the same memory; at mode 0 over whatever memory -/
theorem Out.any {o : Oper} {e : Env} {m m' m0 : Mem} {lv : LV} (h : Out P pr ro ops o e 0 m lv m') : Out P pr ro ops o e 0 m0 lv m0 := by
  unfold Out at h ⊢
  split at h
  · rename_i hg
    obtain ⟨h1, h2, h3⟩ := (h.resolve_left (fun h3 => by omega)).2
    exact .inr ⟨by simp, fun _ => ⟨rfl, (h1 rfl).2⟩, by simp, fun K' hK => (h1 rfl).2 m0 K' hK⟩
  · exact ⟨h.1, rfl⟩
  · exact h.elim

theorem swap_one {x y : Oper × Nat} (hs : swaps ops x y = true) {r : List (Oper × Nat)} {e e' : Env} {m m' : Mem} (h : Chain P pr ro ops (x :: y :: r) e m e' m') : Chain P pr ro ops (y :: x :: r) e m e' m' := by
  obtain ⟨o, a⟩ := x
  obtain ⟨q, b⟩ := y
  simp only [swaps, Bool.and_eq_true, Bool.or_eq_true, beq_iff_eq, decide_eq_true_eq] at hs
  obtain ⟨hap, hmd⟩ := hs
  obtain ⟨ha1, ha2, ha3⟩ := Oper.apart_spec hap
  obtain ⟨lv, m1, ho, lv', m2, hq, hc⟩ := h
  have hq' : Out P pr ro ops q e b m1 lv' m2 := hq.congr (put?_looks ha1)
  have ho' : Out P pr ro ops o (e.put? q.dst lv') a m lv m1 := ho.congr fun t ht => (put?_looks ha3 t ht).symm
  rw [put?_comm ha2] at hc
  rcases hmd with ((h0 | h0) | ⟨h1, h2⟩) | ⟨⟨⟨hal, hfr⟩, ha2'⟩, hb2'⟩
  · subst h0
    have := md_out ho (by omega)
    subst this
    exact ⟨lv', m2, hq', lv, m2, ho'.any, hc⟩
  · subst h0
    have := md_out hq (by omega)
    subst this
    exact ⟨lv', m, hq'.any, lv, m2, ho', hc⟩
  · have e1 := md_out ho h1
    have e2 := md_out hq h2
    subst e1; subst e2
    exact ⟨lv', m2, hq', lv, m2, ho', hc⟩
  · subst ha2'; subst hb2'
    have hal' := hal
    have hfr' := hfr
    simp only [isAlloc, frames, Bool.and_eq_true, Option.isNone_iff_eq_none] at hal hfr
    have hgo : ∀ e, gd ops o e = some true := fun e => by simp [gd, hfr.2]
    have hgq : ∀ e, gd ops q e = some true := fun e => by simp [gd, hal.2]
    unfold Out at hq' ho'
    simp only [hgo, hgq] at hq' ho'
    replace hq' := (hq'.resolve_left (fun h3 => by omega)).2
    replace ho' := (ho'.resolve_left (fun h3 => by omega)).2
    cases hop : q.op <;> simp only [hop] at hal <;> try (simp at hal; done)
    case alloc t =>
      obtain ⟨z, d, hz, hd, hm1, rfl, rfl⟩ := alloc_out hop hq'.2.2
      obtain ⟨hmA, hfrm⟩ := frame_out hfr' ho'.2.2 hm1 (.box z.cells)
      refine ⟨.ptr (100 + d) 0, m.put (100 + d) (.box z.cells), ?_, lv, m1.put (100 + d) (.box z.cells), ?_, hc⟩
      · unfold Out
        simp only [hgq]
        refine .inr ⟨by simp, by simp, by simp, fun K' hK => ?_⟩
        simp only [LOp, hop, hz, hd]
        exact ⟨hmA, hK⟩
      · unfold Out
        simp only [hgo]
        exact .inr ⟨by simp, by simp, by simp, hfrm⟩

theorem move_front {y : Oper × Nat} : ∀ (l r : List (Oper × Nat)) {e e' : Env} {m m' : Mem}, (∀ x ∈ l, swaps ops x y = true) → Chain P pr ro ops (l ++ y :: r) e m e' m' → Chain P pr ro ops (y :: (l ++ r)) e m e' m'
  | [], r, e, e', m, m', _, h => h
  | x :: l, r, e, e', m, m', hs, h => by
    obtain ⟨o, a⟩ := x
    obtain ⟨lv, m1, ho, hc⟩ := h
    have := move_front l r (fun z hz => hs z (by simp [hz])) hc
    exact swap_one (hs _ (by simp)) ⟨lv, m1, ho, this⟩

theorem Out_step {o : Oper} {md : Nat} {e : Env} {m m' : Mem} {lv : LV} (hd : ∀ q ∈ ops, ∀ i, q.dst = some i → i < N) (hod : ∀ i, o.dst = some i → i < N) (h : Out P pr ro ops o e md m lv m') (c : Cx) (a : Act) (R : Act → World → Prop) (Q : Exit → Act → World → Prop) (hr : Rep N c e m a)
    (hR : ∀ a' (c' : Cx), Rep N c' (e.put? o.dst lv) m' a' → Step pr c c' → R a' c'.w) :
    if Region.wanted o (yielded ops a.tmps) then o.wp P a c.w R Q ∨ (o.asks P a c.w ∧ LetsOut Q) else R (a.put o.dst undef) c.w := by
  have hwant : ∀ b, gd ops o e = some b → Region.wanted o (yielded ops a.tmps) = b := by
    intro b hb
    unfold gd at hb
    split at hb
    · rename_i hg; cases hb; simp [Region.wanted, hg]
    · rename_i j want hg
      split at hb
      · rename_i g hj
        cases ht : e g <;> simp only [ht] at hb
        case bool t => cases hb; exact wanted_of hr hd hg hj ht
        case tup vs =>
          cases vs with
          | cons x xs => cases hb
          | nil => cases hb; exact unwanted_of hr hd hg hj ht
        all_goals cases hb
      · cases hb
  unfold Out at h
  split at h
  · rename_i hg
    rw [hwant true hg, if_pos rfl]
    rcases h with ⟨_, hok⟩ | ⟨_, h⟩
    · left
      refine Oper.wp_mono ?_ (hok c a Q (fun x _ => hr.ev x) hr.mem)
      rintro a' w' ⟨v, c', rfl, rfl, hv, hm', hs⟩
      exact hR _ c' (hr.put hs hm' hod hv) hs
    obtain ⟨lv0, m0, ⟨rfl, rfl⟩, hok⟩ := LOp_sound (h.2.2 (fun l mm => l = lv ∧ mm = m') ⟨rfl, rfl⟩)
    left
    refine Oper.wp_mono ?_ (hok c a Q hr.ev hr.mem)
    rintro a' w' ⟨v, c', rfl, rfl, hv, hm', hs⟩
    exact hR _ c' (hr.put hs hm' hod hv) hs
  · rename_i hg
    obtain ⟨rfl, rfl⟩ := h
    rw [hwant false hg, if_neg (by simp)]
    exact hR _ c (hr.put (Step.refl pr c) hr.mem hod (repV_undef c)) (Step.refl pr c)
  · exact h.elim

/-- is k, by edges that bind, ahead of i? -/
def ahead (ops : Array Oper) : Nat → Nat → Nat → Bool
  | 0, _, _ => false
  | f + 1, k, i => ((ops[i]?).map fun o => o.after.toList.any fun e => Region.binds .any e && (e.on == k || ahead ops f k e.on)).getD false

/-- The check: each two operations of the region, in its text's order, are ordered by edges or may change places; edges lead back. -/
def drawOk (ops : Array Oper) (mds : List Nat) : Bool :=
  (List.range ops.size).all fun i => match ops[i]? with
    | some o => (o.after.toList.all fun e => !Region.binds .any e || decide (e.on < i)) && (List.range i).all fun k => match ops[k]? with
      | some q => swaps ops (q, mds.getD k 2) (o, mds.getD i 2) || ahead ops 6 k i
      | .none => true
    | .none => true

theorem ahead_listed {listed : Array Bool} (hcl : ∀ i o, ops[i]? = some o → listed.getD i true = true → ∀ e ∈ o.after, Region.binds .any e = true → listed.getD e.on false = true) (hsz : listed.size = ops.size) : ∀ (f k i : Nat) (o : Oper), ops[i]? = some o → (∀ e ∈ o.after, Region.binds .any e = true → listed.getD e.on false = true) → ahead ops f k i = true → listed.getD k false = true
  | 0, k, i, o, _, _, h => by simp [ahead] at h
  | f + 1, k, i, o, ho, hpre, h => by
    simp only [ahead, ho, Option.map_some, Option.getD_some, List.any_eq_true, Bool.and_eq_true, Bool.or_eq_true, beq_iff_eq] at h
    obtain ⟨e, he, hb, hk⟩ := h
    have he : e ∈ o.after := by simpa using he
    have hl := hpre e he hb
    rcases hk with hk | hk
    · subst hk; exact hl
    · have hlt : e.on < listed.size := by
        rcases Nat.lt_or_ge e.on listed.size with h' | h'
        · exact h'
        · simp [Array.getElem?_eq_none h'] at hl
      have hon : ∃ q, ops[e.on]? = some q := ⟨ops[e.on]'(by omega), by simp [hsz ▸ hlt]⟩
      obtain ⟨q, hq⟩ := hon
      exact ahead_listed hcl hsz f k e.on q hq (hcl e.on q hq (by simpa [hlt] using hl)) hk

/-- what is left of the region, in its text's order -/
def left (ops : Array Oper) (listed : Array Bool) : List Nat := (List.range ops.size).filter fun i => !listed.getD i true

theorem LH.regionC {id : Nat} {l : List Oper} {Q : Exit → Env → Mem → Prop} {e e' : Env} {m m' : Mem} (hmix : P.follows .mixedOrders = true) (ro : List Nat) (mds : List Nat) (hd : dstsOk N l = true) (hok : drawOk l.toArray mds = true)
    (hc : Chain P pr ro l.toArray ((List.range l.length).map fun i => (l.getD i default, mds.getD i 2)) e m e' m') (hK : Q .normal e' m') : LH P N pr (.region id l.toArray true) Q e m := by
  refine ⟨.normal, e', m', fun c a hr => ?_, hK⟩
  refine wp_region_any hmix ?_
  have hds := dsts_of hd
  have key : ∀ (fuel : Nat) (listed : Array Bool) (e0 : Env) (m0 : Mem) (c0 : Cx) (a0 : Act), listed.size = l.toArray.size → (left l.toArray listed).length ≤ fuel →
      (∀ i o, l.toArray[i]? = some o → listed.getD i true = true → ∀ e ∈ o.after, Region.binds .any e = true → listed.getD e.on false = true) →
      Chain P pr ro l.toArray ((left l.toArray listed).map fun i => (l.getD i default, mds.getD i 2)) e0 m0 e' m' → Rep N c0 e0 m0 a0 → Grow pr c c0 →
      wpAny P .any l.toArray (fun x a' w' => x = .normal ∧ ∃ c' : Cx, c'.w = w' ∧ Rep N c' e' m' a' ∧ Grow pr c c') fuel listed a0 c0.w := by
    have hdr := List.all_eq_true.1 hok
    have hsub : ∀ listed : Array Bool, ∀ i ∈ Region.ready .any l.toArray listed, i ∈ left l.toArray listed ∧ ∀ o, l.toArray[i]? = some o → ∀ e ∈ o.after, Region.binds .any e = true → listed.getD e.on false = true := by
      intro listed i hi
      unfold Region.ready at hi
      simp only [List.mem_filter, Bool.and_eq_true] at hi
      refine ⟨by unfold left; exact List.mem_filter.2 ⟨hi.1, hi.2.1⟩, fun o ho e he hb => ?_⟩
      have h2 := hi.2.2
      rw [ho] at h2
      simp only [Option.map_some, Option.getD_some] at h2
      have := (Array.all_eq_true_iff_forall_mem.1 h2) e he
      simpa [hb] using this
    have hfin : ∀ (listed : Array Bool) (e0 : Env) (m0 : Mem) (c0 : Cx) (a0 : Act), left l.toArray listed = [] → Chain P pr ro l.toArray ((left l.toArray listed).map fun i => (l.getD i default, mds.getD i 2)) e0 m0 e' m' → Rep N c0 e0 m0 a0 → Grow pr c c0 → (∃ c' : Cx, c'.w = c0.w ∧ Rep N c' e' m' a0 ∧ Grow pr c c') := by
      intro listed e0 m0 c0 a0 hl hch hr0 hg0
      rw [hl] at hch
      obtain ⟨rfl, rfl⟩ := hch
      exact ⟨c0, rfl, hr0, hg0⟩
    intro fuel
    induction fuel with
    | zero =>
      intro listed e0 m0 c0 a0 hsz hlen hcl hch hr0 hg0
      have hl : left l.toArray listed = [] := List.eq_nil_of_length_eq_zero (by omega)
      refine ⟨?_, rfl, hfin listed e0 m0 c0 a0 hl hch hr0 hg0⟩
      rw [List.eq_nil_iff_forall_not_mem]
      intro i hi
      have := (hsub listed i hi).1
      rw [hl] at this; cases this
    | succ fuel ih =>
      intro listed e0 m0 c0 a0 hsz hlen hcl hch hr0 hg0
      have hpw : (left l.toArray listed).Pairwise (· < ·) := by unfold left; exact List.Pairwise.filter _ List.pairwise_lt_range
      refine ⟨fun hnone => ?_, fun i hi => ?_⟩
      · refine ⟨rfl, hfin listed e0 m0 c0 a0 ?_ hch hr0 hg0⟩
        cases hl : left l.toArray listed with
        | nil => rfl
        | cons i r =>
          exfalso
          have hil : i ∈ left l.toArray listed := by rw [hl]; simp
          have hmem := hil
          unfold left at hmem
          simp only [List.mem_filter, List.mem_range] at hmem
          have hlt := hmem.1
          have hoi : l.toArray[i]? = some (l.toArray[i]'hlt) := by simp [hlt]
          have hir : i ∈ Region.ready .any l.toArray listed := by
            unfold Region.ready
            simp only [List.mem_filter, List.mem_range, Bool.and_eq_true]
            refine ⟨hlt, hmem.2, ?_⟩
            rw [hoi]
            simp only [Option.map_some, Option.getD_some]
            rw [Array.all_eq_true_iff_forall_mem]
            intro e he
            by_cases hb : Region.binds .any e = true
            · have h1 := hdr i (by simpa using hlt)
              rw [hoi] at h1
              simp only [Bool.and_eq_true, List.all_eq_true] at h1
              have h2 := h1.1 e (by simpa using he)
              simp only [hb, Bool.not_true, Bool.false_or, decide_eq_true_eq] at h2
              have h3 : e.on ∉ left l.toArray listed := by
                rw [hl]
                intro hm
                rw [hl] at hpw
                rcases List.mem_cons.1 hm with h4 | h4
                · omega
                · have := (List.pairwise_cons.1 hpw).1 _ h4; omega
              unfold left at h3
              simp only [List.mem_filter, List.mem_range, not_and] at h3
              have h4 := h3 (by omega)
              have h5 : e.on < listed.size := by omega
              simp only [hb, Bool.not_true, Bool.false_or]
              simpa [h5] using h4
            · simp [hb]
          rw [hnone] at hir; cases hir
      · obtain ⟨hil, hpre⟩ := hsub listed i hi
        have hmem := hil
        unfold left at hmem
        simp only [List.mem_filter, List.mem_range] at hmem
        have hlt := hmem.1
        have hil' : i < l.length := by simpa using hlt
        have hoi : l.toArray[i]? = some (l.getD i default) := by simp [hil']
        obtain ⟨pre, post, hsplit⟩ := List.append_of_mem hil
        rw [hsplit] at hpw
        have hprelt : ∀ k ∈ pre, k < i := fun k hk => (List.pairwise_append.1 hpw).2.2 k hk i (by simp)
        have hpostlt : ∀ k ∈ post, i < k := fun k hk => (List.pairwise_cons.1 (List.pairwise_append.1 hpw).2.1).1 k hk
        have hleft' : left l.toArray (listed.setIfInBounds i true) = pre ++ post := by
          have e1 : left l.toArray (listed.setIfInBounds i true) = (left l.toArray listed).filter fun k => k != i := by
            unfold left
            rw [List.filter_filter]
            apply List.filter_congr
            intro k hk
            by_cases hki : k = i
            · subst hki
              have : k < listed.size := by omega
              simp [this]
            · simp [Array.getElem?_setIfInBounds_ne (Ne.symm hki), hki]
          rw [e1, hsplit, List.filter_append, List.filter_cons]
          simp only [bne_self_eq_false, Bool.false_eq_true, if_false]
          rw [List.filter_eq_self.2 (fun k hk => by have := hprelt k hk; simp; omega), List.filter_eq_self.2 (fun k hk => by have := hpostlt k hk; simp; omega)]
        rw [hsplit, List.map_append, List.map_cons] at hch
        have hfront := move_front _ _ (by
          intro x hx
          simp only [List.mem_map] at hx
          obtain ⟨k, hk, rfl⟩ := hx
          have h1 := hdr i (by simpa using hlt)
          rw [hoi] at h1
          simp only [Bool.and_eq_true, List.all_eq_true] at h1
          have hki := hprelt k hk
          have h2 := h1.2 k (by simpa using hki)
          have hok' : l.toArray[k]? = some (l.getD k default) := by simp [show k < l.length by omega]
          rw [hok'] at h2
          simp only [Bool.or_eq_true] at h2
          rcases h2 with h2 | h2
          · exact h2
          · exfalso
            have h3 := ahead_listed hcl hsz 6 k i _ hoi (hpre _ hoi) h2
            have h4 : k ∈ left l.toArray listed := by rw [hsplit]; simp [hk]
            unfold left at h4
            simp only [List.mem_filter, List.mem_range] at h4
            have h5 : k < listed.size := by omega
            have h6 := h4.2
            simp [h5] at h3 h6
            rw [h3] at h6; cases h6) hch
        obtain ⟨lv, m1, hout, hrest⟩ := hfront
        unfold wpOp
        rw [hoi]
        simp only
        refine Out_step hds (hds _ (Array.mem_of_getElem? hoi)) hout c0 a0 _ _ hr0 ?_
        intro a' c' hr' hs'
        refine ih (listed.setIfInBounds i true) _ m1 c' a' (by simpa using hsz) ?_ ?_ ?_ hr' (hg0.trans hs'.grow)
        · rw [hleft']
          rw [hsplit] at hlen
          simp at hlen ⊢; omega
        · intro j o hoj hj e he hb
          have hset : ∀ q, listed.getD q false = true → (listed.setIfInBounds i true).getD q false = true := by
            intro q hq
            by_cases hqi : q = i
            · subst hqi
              have : q < listed.size := by omega
              simp [this]
            · simpa [Array.getElem?_setIfInBounds_ne (Ne.symm hqi)] using hq
          apply hset
          by_cases hji : j = i
          · subst hji; exact hpre o hoj e he hb
          · refine hcl j o hoj ?_ e he hb
            simpa [Array.getElem?_setIfInBounds_ne (Ne.symm hji)] using hj
        · rw [hleft', List.map_append]; exact hrest
  have hleft : left l.toArray (Array.replicate l.toArray.size false) = List.range l.length := by
    unfold left
    rw [List.filter_eq_self.2]
    · simp
    · intro i hi
      simp at hi
      simp [hi]
  have hr' : Rep N ⟨{ c.w with drawn := c.w.drawn + 1 }, c.B, c.O⟩ e m a := by
    obtain ⟨hm1, hs1⟩ := hr.mem.ext (pr := pr) { c.w with drawn := c.w.drawn + 1 } rfl rfl rfl (Nat.le_succ _) (Nat.le_refl _) (fun _ _ => rfl)
    exact ⟨fun i => hs1.repV (hr.env i), hm1, hr.size, hr.defers⟩
  have hg' : Grow pr c ⟨{ c.w with drawn := c.w.drawn + 1 }, c.B, c.O⟩ := (hr.mem.ext (pr := pr) { c.w with drawn := c.w.drawn + 1 } rfl rfl rfl (Nat.le_succ _) (Nat.le_refl _) (fun _ _ => rfl)).2.grow
  refine key l.toArray.size (Array.replicate l.toArray.size false) e m ⟨{ c.w with drawn := c.w.drawn + 1 }, c.B, c.O⟩ a (by simp) (by rw [hleft]; simp) ?_ (by rw [hleft]; exact hc) hr' hg'
  intro i o ho hl
  have : i < l.toArray.size := by
    rcases Nat.lt_or_ge i l.toArray.size with h' | h'
    · exact h'
    · simp at h'; simp [List.getElem?_eq_none h'] at ho
  simp at this
  simp [this] at hl

theorem LH.regionM {id : Nat} {l : List Oper} {Q : Exit → Env → Mem → Prop} {e : Env} {m : Mem} (hmix : P.follows .mixedOrders = true) (ro : List Nat) (mds : List Nat) (hd : dstsOk N l = true) (hok : drawOk l.toArray mds = true)
    (h : LOpsM P pr ro l.toArray ((List.range l.length).map fun i => (l.getD i default, mds.getD i 2)) (Q .normal) e m) : LH P N pr (.region id l.toArray true) Q e m := by
  obtain ⟨e', m', hK, hc⟩ := LOpsM_chain _ h
  exact LH.regionC hmix ro mds hd hok hc hK

theorem zip_modes (l : List Oper) (mds : List Nat) (h : mds.length = l.length) : ((List.range l.length).map fun i => (l.getD i default, mds.getD i 2)) = l.zip mds := by
  apply List.ext_getElem?
  intro i
  simp only [List.getElem?_map, List.zip, List.getElem?_zipWith]
  by_cases hi : i < l.length
  · have hi' : i < mds.length := by omega
    simp [hi, hi']
  · simp [hi]

/-- A region that draws its order, then the rest. -/
theorem LH.seqM {id : Nat} {l : List Oper} {y : Code} {Q : Exit → Env → Mem → Prop} {e : Env} {m : Mem} (hmix : P.follows .mixedOrders = true) (ro : List Nat) (mds : List Nat) (hlen : mds.length = l.length) (hd : dstsOk N l = true) (hok : drawOk l.toArray mds = true)
    (h : ∀ K : Env → Mem → Prop, (∀ e m, LH P N pr y Q e m → K e m) → LOpsM P pr ro l.toArray (l.zip mds) K e m) : LH P N pr (.seq (.region id l.toArray true) y) Q e m :=
  LH.seq (LH.regionM hmix ro mds hd hok (by rw [zip_modes l mds hlen]; exact h _ fun _ _ h => h))

theorem LH.loneM {id : Nat} {l : List Oper} {Q : Exit → Env → Mem → Prop} {e : Env} {m : Mem} (hmix : P.follows .mixedOrders = true) (ro : List Nat) (mds : List Nat) (hlen : mds.length = l.length) (hd : dstsOk N l = true) (hok : drawOk l.toArray mds = true)
    (h : ∀ K : Env → Mem → Prop, (∀ e m, Q .normal e m → K e m) → LOpsM P pr ro l.toArray (l.zip mds) K e m) : LH P N pr (.region id l.toArray true) Q e m :=
  LH.regionM hmix ro mds hd hok (by rw [zip_modes l mds hlen]; exact h _ fun _ _ h => h)
theorem LH.seqJM {id : Nat} {l : List Oper} {y : Code} {Q : Exit → Env → Mem → Prop} {e : Env} {m : Mem} (hmix : P.follows .mixedOrders = true) (ro : List Nat) (mds : List Nat) (el : List (Nat × LV)) (ml : List (Nat × LE)) (hlen : mds.length = l.length) (hd : dstsOk N l = true) (hok : drawOk l.toArray mds = true)
    (h : LOpsM P pr ro l.toArray (l.zip mds) (fun e m => Wk pr e m (Env.of el) (Mem.of ml)) e m) (hr : LH P N pr y Q (Env.of el) (Mem.of ml)) : LH P N pr (.seq (.region id l.toArray true) y) Q e m := by
    obtain ⟨e', m', hK, hc⟩ := LOpsM_chain _ h
    rw [← zip_modes l mds hlen] at hc
    exact LH.seq (LH.regionC hmix ro mds hd hok hc (LH.wk hK hr))

section
variable {e : Env} {m : Mem} {d : Option Nat} {ty : TypeId} {pos : String} {af : Array Edge} {K : Env → Mem → Prop}
@[go_sem] theorem LOpsM_nil : LOpsM P pr ro ops [] K e m = K e m := rfl
@[go_sem] theorem LOpsM_cons (o : Oper) (md : Nat) (l : List (Oper × Nat)) : LOpsM P pr ro ops ((o, md) :: l) K e m = LStepM P pr ro ops md o (LOpsM P pr ro ops l K) e m := rfl
@[go_sem] theorem LStepM_0 (op : Op) : LStepM P pr ro ops 0 ⟨d, op, ty, pos, af, .none⟩ K e m = LOp P pr ro ⟨d, op, ty, pos, af, .none⟩ (lev e) Mem.none fun lv m' => m' = Mem.none ∧ K (e.put? d lv) m := rfl
@[go_sem] theorem LStepM_1 (op : Op) : LStepM P pr ro ops 1 ⟨d, op, ty, pos, af, .none⟩ K e m = LOp P pr ro ⟨d, op, ty, pos, af, .none⟩ (lev e) m fun lv m' => m' = m ∧ K (e.put? d lv) m := rfl
@[go_sem] theorem LStepM_2 (op : Op) : LStepM P pr ro ops 2 ⟨d, op, ty, pos, af, .none⟩ K e m = LOp P pr ro ⟨d, op, ty, pos, af, .none⟩ (lev e) m fun lv m' => K (e.put? d lv) m' := rfl
theorem gd_some {op : Op} {j : Nat} {want : Bool} {q : Nat} (hq : (ops[j]?).bind (·.dst) = some q) {t : Bool} (ht : e q = .bool t) : gd ops ⟨d, op, ty, pos, af, some (j, want)⟩ e = some (t == want) := by
  simp [gd, hq, ht]
theorem LStepM_g (op : Op) (md j : Nat) (want : Bool) : LStepM P pr ro ops md ⟨d, op, ty, pos, af, some (j, want)⟩ K e m = match (ops[j]?).bind (·.dst) with
    | some q => match e q with
      | .bool t => if t = want then LStepM P pr ro ops md ⟨d, op, ty, pos, af, .none⟩ K e m else K (e.put? d (.tup [])) m
      | .tup [] => K (e.put? d (.tup [])) m
      | _ => False
    | .none => False := by
  unfold LStepM
  simp only [gd]
  cases hq : (ops[j]?).bind (·.dst) with
  | none => rfl
  | some q =>
    simp only
    cases he : e q
    case tup vs => cases vs <;> rfl
    case bool t =>
      simp only
      by_cases ht : t = want
      · subst ht
        simp only [beq_self_eq_true, if_true]
        split <;> first | exact LOp_guard .. | rfl
      · have : (t == want) = false := by simpa using ht
        simp only [this, ht, if_false]
    all_goals rfl
where
  LOp_guard {P : Program} {pr : Nat → Prop} {ro : List Nat} {d : Option Nat} {op : Op} {ty : TypeId} {pos : String} {af : Array Edge} {g g' : Option (Nat × Bool)} {ev : Operand → LV} {m : Mem} {K : LV → Mem → Prop} : LOp P pr ro ⟨d, op, ty, pos, af, g⟩ ev m K = LOp P pr ro ⟨d, op, ty, pos, af, g'⟩ ev m K := rfl
end
attribute [go_sem] List.zip_cons_cons List.zip_nil_left List.getElem?_toArray Option.bind_some
end
end Go.L
