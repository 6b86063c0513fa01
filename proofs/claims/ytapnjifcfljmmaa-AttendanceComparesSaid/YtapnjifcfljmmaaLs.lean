/- A logic over logical memory, part 11: the words by which a walk is reckoned. -/
import Derived.Test.YtapnjifcfljmmaaLj
set_option linter.unusedVariables false
set_option linter.unusedSimpArgs false
namespace Go.L
section
variable {P : Program} {N : Nat} {pr : Nat → Prop} {ro : List Nat} {ops : Array Oper} {e : Env} {m : Mem} {ev : Operand → LV} {d : Option Nat} {ty : TypeId} {pos : String} {af : Array Edge} {g : Option (Nat × Bool)}

@[go_sem] theorem LOps_nil (K : Env → Mem → Prop) : LOps P pr ro ops [] K e m = K e m := rfl
@[go_sem] theorem LOps_cons (o : Oper) (l : List Oper) (K : Env → Mem → Prop) : LOps P pr ro ops (o :: l) K e m = LStep P pr ro ops o (LOps P pr ro ops l K) e m := rfl
@[go_sem] theorem LStep_none (op : Op) (K : Env → Mem → Prop) : LStep P pr ro ops ⟨d, op, ty, pos, af, .none⟩ K e m = LOp P pr ro ⟨d, op, ty, pos, af, .none⟩ (lev e) m fun lv m' => K (e.put? d lv) m' := rfl
theorem LStep_some (op : Op) (j : Nat) (want : Bool) (K : Env → Mem → Prop) : LStep P pr ro ops ⟨d, op, ty, pos, af, some (j, want)⟩ K e m = match (ops[j]?).bind (·.dst) with
    | some q => match e q with
      | .bool t => if t = want then LOp P pr ro ⟨d, op, ty, pos, af, some (j, want)⟩ (lev e) m fun lv m' => K (e.put? d lv) m' else K (e.put? d (.tup [])) m
      | .tup [] => K (e.put? d (.tup [])) m
      | _ => False
    | .none => False := rfl

@[go_sem] theorem lev_tmp (t : Nat) : lev e (.tmp t) = e t := rfl
@[go_sem] theorem lev_int (k : IntKind) (n : Int) : lev e (.const (.int k n)) = .int k n := rfl
@[go_sem] theorem lev_bool (b : Bool) : lev e (.const (.bool b)) = .bool b := rfl
@[go_sem] theorem lev_nil : lev e (.const (.slice .none 0 0)) = .nil := rfl
@[go_sem] theorem lev_nilp : lev e (.const (.pointer .none)) = .nilp := rfl
@[go_sem] theorem lev_func (f : Nat) : lev e (.func f) = .fn f [] := rfl
@[go_sem] theorem put?_some (i : Nat) (v : LV) : e.put? (some i) v = e.put i v := rfl
@[go_sem] theorem put?_none (v : LV) : e.put? .none v = e := rfl
@[go_sem] theorem put_at (i j : Nat) (v : LV) : e.put i v j = if j = i then v else e j := rfl
@[go_sem] theorem of_nil (j : Nat) : Env.of [] j = .und := rfl
@[go_sem] theorem of_cons (i j : Nat) (v : LV) (r : List (Nat × LV)) : Env.of ((i, v) :: r) j = if j = i then v else Env.of r j := rfl
@[go_sem] theorem mput_at (i j : Nat) (v : LE) : m.put i v j = if j = i then some v else m j := rfl
@[go_sem] theorem mof_nil (j : Nat) : Mem.of [] j = .none := rfl
@[go_sem] theorem mof_cons (i j : Nat) (v : LE) (r : List (Nat × LE)) : Mem.of ((i, v) :: r) j = if j = i then some v else Mem.of r j := rfl
@[go_sem] theorem mnone_at (j : Nat) : Mem.none j = .none := rfl
@[go_sem] theorem args_at (l : List LV) (j : Nat) : Env.args l j = l.getD j .und := rfl

section ops
variable {K : LV → Mem → Prop}
@[go_sem] theorem LOp_move (x : Operand) : LOp P pr ro ⟨d, .move x, ty, pos, af, g⟩ ev m K = K (ev x) m := rfl
@[go_sem] theorem LOp_assign (x : Operand) : LOp P pr ro ⟨d, .assign x, ty, pos, af, g⟩ ev m K = K (ev x) m := rfl
@[go_sem] theorem LOp_pick (c a b : Operand) : LOp P pr ro ⟨d, .pick c a b, ty, pos, af, g⟩ ev m K = match ev c with | .bool t => K (if t then ev a else ev b) m | _ => False := rfl
@[go_sem] theorem LOp_alloc (t : TypeId) (i : Nat) : LOp P pr ro ⟨some i, .alloc t, ty, pos, af, g⟩ ev m K = match tzero P t with
    | some z => m (100 + i) = .none ∧ K (.ptr (100 + i) 0) (m.put (100 + i) (.box z.cells))
    | .none => False := by
  simp only [LOp]; cases tzero P t <;> rfl
@[go_sem] theorem LOp_box (t : TypeId) (x : Operand) (i : Nat) : LOp P pr ro ⟨some i, .box t x, ty, pos, af, g⟩ ev m K = ((ev x).cells.all LV.scalar = true ∧
      if ro.contains i = true then K (.sptr (ev x).cells) m
      else m (100 + i) = .none ∧ K (.ptr (100 + i) 0) (m.put (100 + i) (.box (ev x).cells))) := rfl
@[go_sem] theorem LOp_build (t : TypeId) (l : List (Nat × Operand)) : LOp P pr ro ⟨d, .build t l.toArray, ty, pos, af, g⟩ ev m K = (tbuild P t = true ∧ match tzero P t with
    | some (.agg z) => match lfill P t z (l.map fun p => (p.1, ev p.2)) with
      | some cs => K (.agg cs) m
      | .none => False
    | _ => False) := rfl
@[go_sem] theorem LOp_buildSlice (t : TypeId) (len : Nat) (l : List (Nat × Operand)) : LOp P pr ro ⟨d, .buildSlice t len l.toArray, ty, pos, af, g⟩ ev m K = match telem P t with
    | some e => trow P e = true ∧ len * tsize P e ≤ 16777216 ∧ l.map (·.1) = List.range len ∧ okEls (tsize P e) (l.map fun p => ev p.2) ∧ K (.lst (tsize P e) (l.map fun p => ev p.2)) m
    | .none => False := rfl
@[go_sem] theorem LOp_load (t : TypeId) (a : Operand) : LOp P pr ro ⟨d, .load t a, ty, pos, af, g⟩ ev m K = match ev a with
    | .sptr cs => loadC P t cs fun lv => K lv m
    | .ptr id o => match m id with
      | some (.box cs) => o ≤ cs.length ∧ loadC P t (cs.drop o) fun lv => K lv m
      | _ => False
    | .eptr id n i o => match m id with
      | some (.arr _ _ xs) => n = xs.length ∧ ∃ x, xs[i]? = some x ∧ x.cells.all LV.scalar = true ∧ o ≤ x.cells.length ∧ loadC P t (x.cells.drop o) fun lv => K lv m
      | _ => False
    | _ => False := rfl
@[go_sem] theorem LOp_store (t : TypeId) (a x : Operand) : LOp P pr ro ⟨d, .store t a x, ty, pos, af, g⟩ ev m K = ((ev x).cells.all LV.scalar = true ∧ tok P t = true ∧ tsize P t = (ev x).cells.length ∧ match ev a with
    | .ptr id o => match m id with
      | some (.box cs) => o + (ev x).cells.length ≤ cs.length ∧ K .und (m.put id (.box (rep cs o (ev x).cells)))
      | _ => False
    | .eptr id n i o => match m id with
      | some (.arr e k xs) => n = xs.length ∧ LV.pureL (ev x).cells = true ∧ ∃ y z, xs[i]? = some y ∧ setEl y o (ev x) = some z ∧ K .und (m.put id (.arr e k (xs.set i z)))
      | _ => False
    | _ => False) := rfl
@[go_sem] theorem LOp_nilCheck (x : Operand) : LOp P pr ro ⟨d, .nilCheck x, ty, pos, af, g⟩ ev m K = match ev x with
    | .ptr _ _ => K (ev x) m
    | .sptr _ => K (ev x) m
    | .eptr id n _ _ => (match m id with | some (.arr _ _ xs) => n = xs.length | _ => False) ∧ K (ev x) m
    | .fn _ _ => K (ev x) m
    | _ => False := rfl
@[go_sem] theorem LOp_binOp (op : BinOp) (t t' : TypeId) (x y : Operand) : LOp P pr ro ⟨d, .binOp op t x y t', ty, pos, af, g⟩ ev m K = match ev x, ev y with
    | .int k a, .int k' b => k = k' ∧ intBin op k a b fun lv => K lv m
    | .bool a, .bool b => tbool P t = true ∧ (match op with | .eql => K (.bool (a == b)) m | .neq => K (.bool (!(a == b))) m | _ => False)
    | .agg xs, .agg ys => ∃ b, AggEq P t xs ys b ∧ (match op with | .eql => K (.bool b) m | .neq => K (.bool (!b)) m | _ => False)
    | _, _ => False := rfl
@[go_sem] theorem LOp_not (t : TypeId) (x : Operand) : LOp P pr ro ⟨d, .unOp .not t x, ty, pos, af, g⟩ ev m K = match ev x with
    | .bool b => K (.bool (!b)) m
    | _ => False := by
  simp only [LOp]; cases ev x <;> rfl
@[go_sem] theorem LOp_neg (t : TypeId) (x : Operand) : LOp P pr ro ⟨d, .unOp .neg t x, ty, pos, af, g⟩ ev m K = match ev x with
    | .int k n => K (.int k (k.wrap (0 - n))) m
    | _ => False := by
  simp only [LOp]; cases ev x <;> rfl
@[go_sem] theorem LOp_convert (s t : TypeId) (x : Operand) : LOp P pr ro ⟨d, .convert s t x, ty, pos, af, g⟩ ev m K = (tok P s = true ∧ match tint P t, ev x with
    | some k, .int _ n => K (.int k (k.wrap n)) m
    | _, _ => False) := rfl
@[go_sem] theorem LOp_slice (t : TypeId) (x : Operand) (lo hi mx : Option Operand) : LOp P pr ro ⟨d, .slice t x lo hi mx, ty, pos, af, g⟩ ev m K = ((telem P t).isSome = true ∧ tok P ((telem P t).getD 0) = true ∧ mx = .none ∧ match ev x with
    | .lst k xs => some k = (telem P t).map (tsize P) ∧ ∃ l h : Nat, (match lo with | .none => l = 0 | some y => ev y = .int .i64 l) ∧ (match hi with | .none => h = xs.length | some y => ev y = .int .i64 h) ∧
        l ≤ h ∧ h ≤ xs.length ∧ K (.lst k ((xs.take h).drop l)) m
    | .nil => (match lo with | .none => True | some y => ev y = .int .i64 0) ∧ (match hi with | .none => True | some y => ev y = .int .i64 0) ∧ K .nil m
    | _ => False) := rfl
@[go_sem] theorem LOp_fieldAddr (t : TypeId) (x : Operand) (f : Nat) : LOp P pr ro ⟨d, .fieldAddr t x f, ty, pos, af, g⟩ ev m K = match tfield P t f with
    | some (off, ft) => tok P ft = true ∧ tsize P ft ≠ 0 ∧ match ev x with
      | .sptr cs => off ≤ cs.length ∧ K (.sptr (cs.drop off)) m
      | .ptr id o => K (.ptr id (o + off)) m
      | .eptr id n i o => (match m id with | some (.arr _ _ xs) => n = xs.length | _ => False) ∧ K (.eptr id n i (o + off)) m
      | _ => False
    | .none => False := rfl
@[go_sem] theorem LOp_field (t : TypeId) (x : Operand) (f : Nat) : LOp P pr ro ⟨d, .field t x f, ty, pos, af, g⟩ ev m K = match tfield P t f, ev x with
    | some (off, ft), .agg cs => off ≤ cs.length ∧ loadC P ft (cs.drop off) fun lv => K lv m
    | _, _ => False := rfl
@[go_sem] theorem LOp_indexAddr (t : TypeId) (x i : Operand) : LOp P pr ro ⟨d, .indexAddr t x i, ty, pos, af, g⟩ ev m K = match telem P t, ev x, ev i with
    | some e, .lst k xs, .int _ n => tok P e = true ∧ k = tsize P e ∧ 0 ≤ n ∧ ∃ y, xs[n.toNat]? = some y ∧ y.cells.all LV.scalar = true ∧ K (.sptr y.cells) m
    | some e, .arr id l, .int _ n => match m id with
      | some (.arr _ k xs) => tok P e = true ∧ l = xs.length ∧ k = tsize P e ∧ 0 ≤ n ∧ n < l ∧ K (.eptr id l n.toNat 0) m
      | _ => False
    | _, _, _ => False := rfl
@[go_sem] theorem LOp_extract (t : Operand) (i : Nat) : LOp P pr ro ⟨d, .extract t i, ty, pos, af, g⟩ ev m K = match ev t with
    | .tup vs => ∃ v, vs[i]? = some v ∧ K v m
    | _ => False := rfl
@[go_sem] theorem LOp_makeFunc (f : Nat) (cap : List Operand) : LOp P pr ro ⟨d, .makeFunc (.func f) #[] cap.toArray, ty, pos, af, g⟩ ev m K = K (.fn f (cap.map ev)) m := by
  simp [LOp]
@[go_sem] theorem LOp_makeSlice (t : TypeId) (l c : Operand) (i : Nat) : LOp P pr ro ⟨some i, .makeSlice t l c, ty, pos, af, g⟩ ev m K = match telem P t, tzero P ((telem P t).getD 0), ev l, ev c, some i with
    | some e, some z, .int .i64 n, .int .i64 n', some d => n = n' ∧ 0 ≤ n ∧ n ≤ 1099511627776 ∧ trow P e = true ∧ z.pure = true ∧ m (100 + d) = .none ∧
        K (.arr (100 + d) n.toNat) (m.put (100 + d) (.arr e (tsize P e) (List.replicate n.toNat z)))
    | _, _, _, _, _ => False := rfl
@[go_sem] theorem LOp_len (x : Operand) (t : TypeId) : LOp P pr ro ⟨d, .call ⟨.builtin .len, #[x], #[t]⟩, ty, pos, af, g⟩ ev m K = ((telem P t).isSome = true ∧ match ev x with
        | .lst _ xs => K (.int .i64 xs.length) m
        | .nil => K (.int .i64 0) m
        | .arr id n => (match m id with | some (.arr _ _ xs) => n = xs.length | _ => False) ∧ K (.int .i64 n) m
        | _ => False) := rfl
def appTo (P : Program) (pr : Nat → Prop) (m : Mem) (i e : Nat) (x : LV) (K : LV → Mem → Prop) (ys : List LV) : Prop :=
  match x with
  | .arr id n => ¬ pr id ∧ match m id with
    | some (.arr e' k xs) => e' = e ∧ k = tsize P e ∧ n = xs.length ∧ xs.length + ys.length ≤ 1099511627776 ∧ K (.arr id (n + ys.length)) (m.put id (.arr e k (xs ++ ys)))
    | _ => False
  | .nil => m (100 + i) = .none ∧ ys.length ≤ 1099511627776 ∧ K (.arr (100 + i) ys.length) (m.put (100 + i) (.arr e (tsize P e) ys))
  | _ => False
attribute [go_sem] appTo
@[go_sem] theorem LOp_append (x y : Operand) (t t' : TypeId) (i : Nat) : LOp P pr ro ⟨some i, .call ⟨.builtin .append, #[x, y], #[t, t']⟩, ty, pos, af, g⟩ ev m K = (t = t' ∧ match telem P t with
        | some e => trow P e = true ∧ match ev y with
          | .lst k ys => k = tsize P e ∧ appTo P pr m i e (ev x) K ys
          | .nil => appTo P pr m i e (ev x) K []
          | _ => False
        | .none => False) := by
  have h0 : LOp P pr ro ⟨some i, .call ⟨.builtin .append, #[x, y], #[t, t']⟩, ty, pos, af, g⟩ ev m K = (t = t' ∧ match telem P t with
        | some e => trow P e = true ∧ ∃ ys, (ev y = .lst (tsize P e) ys ∨ (ev y = .nil ∧ ys = [])) ∧ appTo P pr m i e (ev x) K ys
        | .none => False) := rfl
  rw [h0]
  cases telem P t with
  | none => rfl
  | some e =>
    simp only
    congr 2
    cases hy : ev y <;> simp
    case lst k ys =>
      constructor
      · rintro ⟨zs, ⟨rfl, rfl⟩, h⟩; exact ⟨rfl, h⟩
      · rintro ⟨rfl, h⟩; exact ⟨ys, ⟨rfl, rfl⟩, h⟩
@[go_sem] theorem LOp_call (x : Operand) (l : List Operand) (ts : Array TypeId) : LOp P pr ro ⟨d, .call ⟨.value x, l.toArray, ts⟩, ty, pos, af, g⟩ ev m K = match ev x with
      | .fn f cap => (∃ fn, P.funcs[f]? = some fn ∧ (fn.name == "runtime.NumGoroutine") = false ∧ fn.body.isNone = false) ∧ CallS P f (l.map ev ++ cap) m K
      | _ => False := rfl
end ops

attribute [go_sem] LV.refs LV.refsL LV.cells intBin rep lfill LV.scalar LV.pure LV.pureL ofV ofV1 setEl lres oneOf List.all_cons List.all_nil List.map_cons List.map_nil List.drop_zero List.drop_succ_cons List.drop_nil List.take_succ_cons List.take_zero List.take_nil List.length_cons List.length_nil List.nil_append List.cons_append List.getElem?_cons_zero List.getElem?_cons_succ Bool.and_true Bool.true_and Bool.and_self List.getD_cons_zero List.getD_cons_succ List.getD_nil
@[go_sem] theorem okEls_nil (k : Nat) : okEls k [] = True := by simp [okEls]
@[go_sem] theorem okEls_cons (k : Nat) (x : LV) (xs : List LV) : okEls k (x :: xs) = ((x.pure = true ∧ x.cells.length = k ∧ x.cells.all LV.scalar = true) ∧ okEls k xs) := by simp [okEls]
@[go_sem] theorem loadC_def (t : TypeId) (cs : List LV) (K : LV → Prop) : loadC P t cs K = (tok P t = true ∧ if tagg P t = true then tsize P t ≤ cs.length ∧ K (.agg (cs.take (tsize P t))) else match cs with | x :: _ => K x | [] => False) := rfl
@[go_sem] theorem ite_bool (t x y : Bool) : (if t = true then LV.bool x else LV.bool y) = LV.bool (if t = true then x else y) := by cases t <;> rfl

/-- A region, then the rest: the rest stays behind a name while the region is reckoned. -/
theorem LH.seqR {id : Nat} {l : List Oper} {y : Code} {Q : Exit → Env → Mem → Prop} (ro : List Nat) (hd : dstsOk N l = true) (h : ∀ K : Env → Mem → Prop, (∀ e m, LH P N pr y Q e m → K e m) → LOps P pr ro l.toArray l K e m) : LH P N pr (.seq (.region id l.toArray false) y) Q e m :=
  LH.seq (LH.region ro hd (h _ fun _ _ h => h))
/-- A region, then the rest, with what stands between them written out. -/
theorem LH.seqJ {id : Nat} {l : List Oper} {y : Code} {Q : Exit → Env → Mem → Prop} (ro : List Nat) (el : List (Nat × LV)) (ml : List (Nat × LE)) (hd : dstsOk N l = true) (h : LOps P pr ro l.toArray l (fun e m => Wk pr e m (Env.of el) (Mem.of ml)) e m) (hr : LH P N pr y Q (Env.of el) (Mem.of ml)) : LH P N pr (.seq (.region id l.toArray false) y) Q e m := by
  obtain ⟨e', m', hK, hrun⟩ := LOps_sound (dsts_of hd) l e m _ (by simp) h
  refine LH.seq ⟨.normal, e', m', fun c a hr => ?_, LH.wk hK hr⟩
  refine wp_region ?_
  rw [List.size_toArray, List.range_eq_range', wpOps_eq_wpList l 0 (by simp)]
  exact hrun c a hr
theorem LH.lone {id : Nat} {l : List Oper} {Q : Exit → Env → Mem → Prop} (ro : List Nat) (hd : dstsOk N l = true) (h : ∀ K : Env → Mem → Prop, (∀ e m, Q .normal e m → K e m) → LOps P pr ro l.toArray l K e m) : LH P N pr (.region id l.toArray false) Q e m :=
  LH.region ro hd (h _ fun _ _ h => h)
theorem retQ_pure {fn : Func} {R : LV → Prop} (h : lres P e m fn.results.toList fun l => (oneOf l).refs = [] ∧ R (oneOf l)) : retQ P fn (fun _ => False) (fun lv m' => m' = Mem.none ∧ R lv) .ret e m := by
  have key : ∀ (rs : List ResultVar) (K K' : List LV → Prop), (∀ l, K l → K' l) → lres P e m rs K → lres P e m rs K' := by
    intro rs
    induction rs with
    | nil => intro K K' hk h; exact hk _ h
    | cons r rs ih =>
      intro K K' hk h
      have hl : ∀ (t : TypeId) (cs : List LV) (A B : LV → Prop), (∀ x, A x → B x) → loadC P t cs A → loadC P t cs B := by
        intro t cs A B hab hA
        obtain ⟨ht, hA⟩ := hA
        refine ⟨ht, ?_⟩
        split at hA
        · rename_i hg; rw [if_pos hg]; exact ⟨hA.1, hab _ hA.2⟩
        · rename_i hg
          rw [if_neg hg]
          match cs, hA with
          | x :: cs, hA => exact hab _ hA
      cases r with
      | tmp t => exact ih _ _ (fun l hl => hk _ hl) h
      | cell a t =>
        simp only [lres] at h ⊢
        cases hx : e a <;> simp only [hx] at h ⊢
        case sptr cs => exact hl _ _ _ _ (fun lv hlv => ih _ _ (fun l hl => hk _ hl) hlv) h
        case ptr id o =>
          cases hm : m id with
          | none => simp [hm] at h
          | some le =>
            cases le with
            | map _ _ _ => simp [hm] at h
            | nest _ _ _ _ => simp [hm] at h
            | dead => simp [hm] at h
            | arr _ _ _ => simp [hm] at h
            | box cs =>
              simp only [hm] at h ⊢
              exact ⟨h.1, hl _ _ _ _ (fun lv hlv => ih _ _ (fun l hl => hk _ hl) hlv) h.2⟩
  exact key _ _ _ (fun l ⟨h1, h2⟩ => ⟨[], by simp, by simp [keptRefs, h1], fun id h => h.elim, rfl, h2⟩) h
/-- At a call that may turn one piece of memory. -/
theorem LCall.callS1 {f : Nat} {args : List LV} {lv : LV} {id : Nat} {le le' : LE} {K : LV → Mem → Prop} (h : LCall P f args (Mem.of [(id, le)]) lv (Mem.of [(id, le')])) (hm : m id = some le) (hargs : (LV.refsL args).all (· == id) = true) (hbox : (match le with | .box cs => (LV.refsL cs).all (· == id) | .arr _ _ _ => true | .map _ _ _ => true | .nest _ _ _ _ => true | .dead => true) = true) (hK : K lv (m.put id le')) : CallS P f args m K := by
  have hne : ∀ i, Mem.of [(id, le)] i ≠ .none → i = id := fun i hi => by
    simp only [Mem.of] at hi
    split at hi
    · assumption
    · exact absurd rfl hi
  refine ⟨lv, _, _, h, fun i hi => ?_, fun i hi hi' => ?_, fun i hi => ?_, fun i cs hi j hj => ?_, ?_⟩
  · have := hne i hi; subst this; simp [Mem.of, hm]
  · simp only [Mem.of] at hi hi'
    split at hi
    · cases hi
    · rename_i h0; simp [h0] at hi'
  · have := List.all_eq_true.1 hargs i (refsL_of_norefL args hi)
    simp only [beq_iff_eq] at this
    simp [Mem.of, this]
  · have h1 := hne i (by rw [hi]; simp)
    subst h1
    simp only [Mem.of, if_true, Option.some.injEq] at hi
    subst hi
    have := List.all_eq_true.1 hbox j (refsL_of_norefL cs hj)
    simp only [beq_iff_eq] at this
    simp [Mem.of, this]
  · have : m.over (Mem.of [(id, le')]) = m.put id le' := by
      funext i
      simp only [Mem.over, Mem.of, Mem.put]
      split
      · rename_i h0
        split at h0
        · rename_i h1; simp [h1, h0]
        · cases h0
      · rename_i h0
        split at h0
        · cases h0
        · rename_i h1; simp [h1]
    rw [this]; exact hK
/-- At a call that makes one piece of memory. -/
theorem LCall.callN {f : Nat} {args : List LV} {lv : LV} {id : Nat} {le' : LE} {K : LV → Mem → Prop} (h : LCall P f args Mem.none lv (Mem.of [(id, le')])) (hm : m id = .none) (hargs : LV.pureL args = true) (hK : K lv (m.put id le')) : CallS P f args m K := by
  refine ⟨lv, _, _, h, fun i hi => absurd rfl hi, fun i hi hi' => ?_, fun i hi => ?_, (fun i cs hi => by cases hi), ?_⟩
  · simp only [Mem.of] at hi'
    split at hi'
    · rename_i h1; subst h1; exact hm
    · exact absurd rfl hi'
  · rw [norefL_of_pureL args hargs] at hi; cases hi
  · have : m.over (Mem.of [(id, le')]) = m.put id le' := by
      funext i
      simp only [Mem.over, Mem.of, Mem.put]
      split
      · rename_i h0
        split at h0
        · rename_i h1; simp [h1, h0]
        · cases h0
      · rename_i h0
        split at h0
        · cases h0
        · rename_i h1; simp [h1]
    rw [this]; exact hK
/-- the slots hold these values -/
def EnvIs (e : Env) : List (Nat × LV) → Prop
  | [] => True
  | (i, v) :: r => e i = v ∧ EnvIs e r
def MemIs (m : Mem) : List (Nat × LE) → Prop
  | [] => True
  | (i, v) :: r => m i = some v ∧ MemIs m r
@[go_sem] theorem EnvIs_nil : EnvIs e [] = True := rfl
@[go_sem] theorem EnvIs_cons (i : Nat) (v : LV) (r : List (Nat × LV)) : EnvIs e ((i, v) :: r) = (e i = v ∧ EnvIs e r) := rfl
@[go_sem] theorem MemIs_nil : MemIs m [] = True := rfl
@[go_sem] theorem MemIs_cons (i : Nat) (v : LE) (r : List (Nat × LE)) : MemIs m ((i, v) :: r) = (m i = some v ∧ MemIs m r) := rfl
theorem EnvIs.all : ∀ {l : List (Nat × LV)}, EnvIs e l → ∀ p ∈ l, e p.1 = p.2
  | [], _, p, hp => by cases hp
  | (i, v) :: r, h, p, hp => by
    rcases List.mem_cons.1 hp with rfl | hp
    · exact h.1
    · exact EnvIs.all h.2 p hp
theorem MemIs.all : ∀ {l : List (Nat × LE)}, MemIs m l → ∀ p ∈ l, m p.1 = some p.2
  | [], _, p, hp => by cases hp
  | (i, v) :: r, h, p, hp => by
    rcases List.mem_cons.1 hp with rfl | hp
    · exact h.1
    · exact MemIs.all h.2 p hp
theorem Wk.is (el : List (Nat × LV)) (ml : List (Nat × LE)) (he : EnvIs e el) (hm : MemIs m ml) (hr : keptRefs el ml = true) (hpr : ∀ id, pr id → m id = .none ∨ Mem.of ml id ≠ .none) : Wk pr e m (Env.of el) (Mem.of ml) := Wk.cut el ml he.all hm.all hr hpr
theorem LH.cut {c : Code} {Q : Exit → Env → Mem → Prop} (el : List (Nat × LV)) (ml : List (Nat × LE)) (he : EnvIs e el) (hm : MemIs m ml) (hr : keptRefs el ml = true) (hpr : ∀ id, pr id → m id = .none ∨ Mem.of ml id ≠ .none) (h : LH P N pr c Q (Env.of el) (Mem.of ml)) : LH P N pr c Q e m := LH.wk (Wk.is el ml he hm hr hpr) h
theorem roundQ_to {I : Nat → Env → Mem → Prop} {n k : Nat} {Q : Exit → Env → Mem → Prop} (el : List (Nat × LV)) (ml : List (Nat × LE)) (he : EnvIs e el) (hm : MemIs m ml) (hr : keptRefs el ml = true) (hpr : ∀ id, pr id → m id = .none ∨ Mem.of ml id ≠ .none) (hk : k < n) (h : I k (Env.of el) (Mem.of ml)) : roundQ pr I n Q .normal e m :=
  ⟨_, _, Wk.is el ml he hm hr hpr, k, hk, h⟩
/-- Two pieces of code with an assertion between them. -/
theorem LH.mid {x y : Code} {Q : Exit → Env → Mem → Prop} (M : Env → Mem → Prop) (h1 : LH P N pr x (thenQ M Q) e m) (h2 : ∀ e m, M e m → LH P N pr y Q e m) : LH P N pr (.seq x y) Q e m :=
  LH.seq (h1.mono fun ex e m h => by cases ex <;> first | exact h2 e m h | exact h)
/-- .. the assertion: a state that is written out, for some parameters. -/
theorem LH.join {α : Type} {x y : Code} {Q : Exit → Env → Mem → Prop} (A : α → Prop) (el : α → List (Nat × LV)) (ml : α → List (Nat × LE)) (h1 : LH P N pr x (thenQ (fun e m => ∃ a, A a ∧ Wk pr e m (Env.of (el a)) (Mem.of (ml a))) Q) e m) (h2 : ∀ a, A a → LH P N pr y Q (Env.of (el a)) (Mem.of (ml a))) : LH P N pr (.seq x y) Q e m :=
  LH.mid _ h1 fun e m ⟨a, ha, hw⟩ => LH.wk hw (h2 a ha)
@[go_sem] theorem over_at (mc : Mem) (i : Nat) : m.over mc i = match mc i with | some x => some x | .none => m i := rfl
/-- At a call, with the memory that it gets and the memory that it gives written out. -/
theorem LCall.callL {f : Nat} {args : List LV} {lv : LV} {ml ml' : List (Nat × LE)} {K : LV → Mem → Prop} (h : LCall P f args (Mem.of ml) lv (Mem.of ml')) (hm : MemIs m ml) (hnew : ∀ p ∈ ml', (ml.any fun q => q.1 == p.1) = true ∨ m p.1 = .none) (hargs : keptRefs (args.map fun x => (0, x)) ml = true) (hK : K lv (m.over (Mem.of ml'))) : CallS P f args m K := by
  simp only [keptRefs, Bool.and_eq_true, List.all_eq_true] at hargs
  refine ⟨lv, _, _, h, fun i hi => ?_, fun i hi hi' => ?_, fun i hi => ?_, fun i cs hi j hj => ?_, hK⟩
  · cases hq : Mem.of ml i with
    | none => exact absurd hq hi
    | some le => exact hm.all _ (memOf_some hq)
  · cases hq : Mem.of ml' i with
    | none => exact absurd hq hi'
    | some le =>
      rcases hnew _ (memOf_some hq) with h1 | h1
      · exact absurd hi (memOf_ne h1)
      · exact h1
  · have key : ∀ (l : List LV), LV.norefL i l = false → ∃ x ∈ l, i ∈ x.refs := by
      intro l
      induction l with
      | nil => intro h; simp [LV.norefL] at h
      | cons x l ih =>
        intro h
        simp only [LV.norefL, Bool.and_eq_false_iff] at h
        rcases h with h | h
        · exact ⟨x, by simp, refs_of_noref x h⟩
        · obtain ⟨y, hy, hr⟩ := ih h
          exact ⟨y, by simp [hy], hr⟩
    obtain ⟨x, hx, hr⟩ := key args hi
    exact memOf_ne (hargs.1 (0, x) (List.mem_map.2 ⟨x, hx, rfl⟩) i hr)
  · have h2 := hargs.2 _ (memOf_some hi)
    simp only [List.all_eq_true] at h2
    exact memOf_ne (h2 j (refsL_of_norefL cs hj))
theorem LH.seqC {x : Operand} {y z r : Code} {t : Bool} {Q : Exit → Env → Mem → Prop} (hx : lev e x = .bool t) (h1 : t = true → LH P N pr y (thenQ (LH P N pr r Q) Q) e m) (h2 : t = false → LH P N pr z (thenQ (LH P N pr r Q) Q) e m) : LH P N pr (.seq (.cond x y z) r) Q e m :=
  LH.seq (LH.cond hx h1 h2)
@[go_sem] theorem thenQ_normal {K : Env → Mem → Prop} {Q : Exit → Env → Mem → Prop} : thenQ K Q .normal e m = K e m := rfl
@[go_sem] theorem thenQ_ret {K : Env → Mem → Prop} {Q : Exit → Env → Mem → Prop} : thenQ K Q .ret e m = Q .ret e m := rfl
@[go_sem] theorem thenQ_exit {K : Env → Mem → Prop} {Q : Exit → Env → Mem → Prop} (i : Nat) : thenQ K Q (.exit i) e m = Q (.exit i) e m := rfl
@[go_sem] theorem blockQ_normal {Q : Exit → Env → Mem → Prop} (i : Nat) : blockQ i Q .normal e m = Q .normal e m := rfl
@[go_sem] theorem blockQ_ret {Q : Exit → Env → Mem → Prop} (i : Nat) : blockQ i Q .ret e m = Q .ret e m := rfl
@[go_sem] theorem blockQ_exit {Q : Exit → Env → Mem → Prop} (i j : Nat) : blockQ i Q (.exit j) e m = if j = i then Q .normal e m else Q (.exit j) e m := rfl
@[go_sem] theorem roundQ_ret {I : Nat → Env → Mem → Prop} {n : Nat} {Q : Exit → Env → Mem → Prop} : roundQ pr I n Q .ret e m = Q .ret e m := rfl
@[go_sem] theorem roundQ_exit {I : Nat → Env → Mem → Prop} {n : Nat} {Q : Exit → Env → Mem → Prop} (i : Nat) : roundQ pr I n Q (.exit i) e m = Q (.exit i) e m := rfl
end
end Go.L
