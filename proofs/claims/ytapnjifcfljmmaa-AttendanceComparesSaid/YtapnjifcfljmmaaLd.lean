/- A logic over logical memory, part 4: each operation does what part 3 says. -/
import Derived.Test.YtapnjifcfljmmaaLc
import Derived.Laws.MakeOwn
import Derived.Laws.OwnMore
import Derived.Great.BuildSlice
namespace Go.L

section lists
theorem flat_nil : flat [] = [] := rfl
theorem flat_cons (v : Value) (vs : List Value) : flat (v :: vs) = v.cells.toList ++ flat vs := rfl
theorem flat_append (vs us : List Value) : flat (vs ++ us) = flat vs ++ flat us := by simp [flat]
theorem flat_length {k : Nat} : ∀ {vs : List Value}, (∀ v ∈ vs, v.cells.size = k) → (flat vs).length = vs.length * k
  | [], _ => by simp [flat]
  | v :: vs, h => by
    rw [flat_cons, List.length_append, flat_length (k := k) (fun u hu => h u (by simp [hu])), List.length_cons, Array.length_toList, h v (by simp), Nat.add_mul, Nat.one_mul, Nat.add_comm]
theorem flat_split {k : Nat} {vs : List Value} (h : ∀ v ∈ vs, v.cells.size = k) {i : Nat} {u : Value} (hu : vs[i]? = some u) :
    flat vs = flat (vs.take i) ++ (u.cells.toList ++ flat (vs.drop (i + 1))) ∧ (flat (vs.take i)).length = i * k := by
  have hi : i < vs.length := (List.getElem?_eq_some_iff.1 hu).1
  have he : vs[i] = u := (List.getElem?_eq_some_iff.1 hu).2
  constructor
  · rw [← flat_cons, ← he, ← List.drop_eq_getElem_cons hi, ← flat_append, List.take_append_drop]
  · rw [flat_length (k := k) (fun v hv => h v (List.mem_of_mem_take hv)), List.length_take, Nat.min_eq_left (by omega)]
theorem rangeAt_part {w : World} {b off : Nat} {l1 l2 l3 : List Value} (h : w.rangeAt b off (l1 ++ (l2 ++ l3))) : w.rangeAt b (off + l1.length) l2 := by
  intro j v hv
  have hj : j < l2.length := (List.getElem?_eq_some_iff.1 hv).1
  have := h (l1.length + j) v (by rw [List.getElem?_append_right (by omega)]; simp [List.getElem?_append_left hj, hv])
  rw [Nat.add_assoc]; exact this
theorem rangeAt_drop {w : World} {b off : Nat} {l : List Value} (h : w.rangeAt b off l) (n : Nat) : w.rangeAt b (off + n) (l.drop n) := by
  intro j v hv
  rw [List.getElem?_drop] at hv
  rw [Nat.add_assoc]; exact h (n + j) v hv
theorem rangeAt_take {w : World} {b off : Nat} {l : List Value} (h : w.rangeAt b off l) (n : Nat) : w.rangeAt b off (l.take n) := by
  intro j v hv
  refine h j v ?_
  rw [List.getElem?_take] at hv
  split at hv
  · exact hv
  · cases hv
theorem rangeAt_new (w : World) (vs : List Value) (t : TypeId) : (w.alloc (.cells vs.toArray t)).rangeAt w.heap.size 0 vs := by
  intro j v hv
  rw [World.cell?_alloc_new]
  simpa using hv
theorem rangeAt_row {w : World} {b : Nat} {vs : List Value} {e : TypeId} {fr : Nat × Nat} (h : w.heap[b]? = some (.cells vs.toArray e fr)) : w.rangeAt b 0 vs := by
  intro j v hv
  simp [World.cell?, h, hv]
theorem rangeAt_own {w : World} {e k n : Nat} {u : Value} {vs : List Value} (h : w.ownsRow 0 e k u n vs) {b : Nat} (hb : u.ownBlock = some b) : w.rangeAt b 0 vs := by
  intro j v hv
  have := h.cells hb j v hv
  rw [Addr.add_mid] at this
  exact this
end lists

theorem pureL_cells {x : LV} (h : x.pure = true) : LV.pureL x.cells = true := by
  cases x <;> simp_all [LV.pure, LV.cells, LV.pureL]
theorem pureL_drop {xs : List LV} (h : LV.pureL xs = true) (n : Nat) : LV.pureL (xs.drop n) = true :=
  pureL_iff.2 fun x hx => pureL_iff.1 h x (List.mem_of_mem_drop hx)
theorem pureL_take {xs : List LV} (h : LV.pureL xs = true) (n : Nat) : LV.pureL (xs.take n) = true :=
  pureL_iff.2 fun x hx => pureL_iff.1 h x (List.mem_of_mem_take hx)
theorem pureL_append {xs ys : List LV} (h : LV.pureL xs = true) (h' : LV.pureL ys = true) : LV.pureL (xs ++ ys) = true :=
  pureL_iff.2 fun x hx => (List.mem_append.1 hx).elim (pureL_iff.1 h x) (pureL_iff.1 h' x)

theorem repV_ofV1 (c : Cx) (v : Value) : RepV c (ofV1 v) v := by
  unfold ofV1
  split <;> simp [RepV]
theorem repL_ofV1 (c : Cx) : ∀ (vs : List Value), RepL c (vs.map ofV1) vs
  | [] => by simp [RepL]
  | v :: vs => by simp only [List.map_cons, RepL]; exact ⟨v, vs, rfl, repV_ofV1 c v, repL_ofV1 c vs⟩
theorem repV_ofV (c : Cx) (v : Value) : RepV c (ofV v) v := by
  unfold ofV
  split
  · rename_i cs; simp only [RepV]; exact ⟨cs.toList, by simp, repL_ofV1 c _⟩
  · exact repV_ofV1 c v
theorem ofV1_cells (v : Value) : (ofV1 v).cells = [ofV1 v] := by
  unfold ofV1
  split <;> rfl
theorem repL_ofV_cells (c : Cx) (z : Value) : RepL c (ofV z).cells z.cells.toList := by
  unfold ofV
  split
  · rename_i cs; simp only [LV.cells, Value.cells]; exact repL_ofV1 c _
  · rename_i h
    rw [ofV1_cells]
    have : z.cells = #[z] := by cases z <;> simp_all [Value.cells]
    rw [this]
    simp only [RepL]
    exact ⟨z, [], rfl, repV_ofV1 c z, rfl⟩

section ops
variable {P : Program} {pr : Nat → Prop} {o : Oper} {ev : Operand → LV} {m m' : Mem} {lv : LV}

theorem OpOk.value (h : ∀ (c : Cx) (a : Act), (∀ x, RepV c (ev x) (a.eval x)) → RepM c m → ∃ v c', (execOp a.eval o).run P c.w = .ok (.value v) c'.w ∧ RepV c' lv v ∧ RepM c' m' ∧ Step pr c c') : OpOk P pr o ev m lv m' := by
  intro c a Q hev hm
  obtain ⟨v, c', hr, h1, h2, h3⟩ := h c a hev hm
  unfold Oper.wp
  rw [hr]
  exact ⟨v, c', rfl, rfl, h1, h2, h3⟩

theorem OpOk.same (h : ∀ (c : Cx) (a : Act), (∀ x, RepV c (ev x) (a.eval x)) → RepM c m → ∃ v, (execOp a.eval o).run P c.w = .ok (.value v) c.w ∧ RepV c lv v) : OpOk P pr o ev m lv m :=
  OpOk.value fun c a hev hm => let ⟨v, hr, h1⟩ := h c a hev hm; ⟨v, c, hr, h1, hm, Step.refl pr c⟩

theorem ok_move (x : Operand) (ho : o.op = .move x ∨ o.op = .assign x) : OpOk P pr o ev m (ev x) m :=
  OpOk.same fun c a hev _ => ⟨a.eval x, by rcases ho with ho | ho <;> simp [execOp, ho], hev x⟩

theorem ok_pick (x y z : Operand) (t : Bool) (ho : o.op = .pick x y z) (hx : ev x = .bool t) : OpOk P pr o ev m (if t then ev y else ev z) m :=
  OpOk.same fun c a hev _ => by
    have h := hev x
    rw [hx] at h
    simp only [RepV] at h
    refine ⟨if t then a.eval y else a.eval z, ?_, ?_⟩
    · simp [execOp, ho, h, asBool]
    · cases t
      · exact hev z
      · exact hev y

/-- A new box. -/
theorem new_box {c : Cx} {m : Mem} (hm : RepM c m) (id : Nat) (hid : m id = .none) (cs : List LV) (vs : List Value) (t : TypeId) (hl : RepL c cs vs) (h1 : ∀ v ∈ vs, v.oneCell' = true) :
    ∃ c' : Cx, c'.w = c.w.alloc (.cells vs.toArray t) ∧ RepV c' (.ptr id 0) (.pointer (some ⟨c.w.heap.size, 0, .none⟩)) ∧ RepM c' (m.put id (.box cs)) ∧ Step pr c c' := by
  have hB := hm.fresh hid
  obtain ⟨c', hw, hb, h2, h3⟩ := hm.upd (pr := pr) id (.box cs) (.box c.w.heap.size cs.length) (c.w.alloc (.cells vs.toArray t)) rfl rfl rfl (Nat.le_refl _) (by simp)
    (fun b hb _ => heap_alloc_old c.w _ b hb) (fun b hb => by simp [BE.has] at hb; exact .inr (by omega)) (by rw [hB]; trivial) (fun _ be0 h0 => by rw [hB] at h0; cases h0)
    (fun c' hw hle hble => by
      simp only [RepE]
      exact ⟨c.w.heap.size, vs, t, rfl, by rw [hw]; exact heap_alloc_new c.w _, RepL.mono hle cs vs (fun id _ => hble id) hl, h1⟩)
  exact ⟨c', hw, by simp only [RepV]; exact ⟨_, _, hb, rfl⟩, h2, h3⟩

theorem ok_alloc (t : TypeId) (d : Nat) (z : LV) (ho : o.op = .alloc t) (hz : tzero P t = some z) (hid : m (100 + d) = .none) : OpOk P pr o ev m (.ptr (100 + d) 0) (m.put (100 + d) (.box z.cells)) :=
  OpOk.value fun c a hev hm => by
    unfold tzero at hz
    split at hz
    · rename_i i hi
      split at hz
      · rename_i zv hzv
        split at hz
        · rename_i hall
          cases hz
          have hone : ∀ v ∈ zv.cells.toList, v.oneCell' = true := fun v hv => (Array.all_eq_true_iff_forall_mem.1 hall) v (by simpa using hv)
          obtain ⟨c', hw, hr, h2, h3⟩ := new_box (pr := pr) hm (100 + d) hid (ofV zv).cells zv.cells.toList t (repL_ofV_cells c zv) hone
          refine ⟨_, c', ?_, hr, h2, h3⟩
          rw [hw]
          simp [execOp, ho, Instr.alloc, zeroValue, typeInfo, hi, hzv, newVar, newRow]
        · cases hz
      · cases hz
    · cases hz

theorem ok_box (t : TypeId) (x : Operand) (d : Nat) (ho : o.op = .box t x) (hs : (ev x).cells.all LV.scalar = true) (hid : m (100 + d) = .none) : OpOk P pr o ev m (.ptr (100 + d) 0) (m.put (100 + d) (.box (ev x).cells)) :=
  OpOk.value fun c a hev hm => by
    obtain ⟨hl, h1⟩ := (hev x).cellsOf hs
    obtain ⟨c', hw, hr, h2, h3⟩ := new_box (pr := pr) hm (100 + d) hid (ev x).cells (a.eval x).cells.toList t hl (fun v hv => h1 v (by simpa using hv))
    refine ⟨_, c', ?_, hr, h2, h3⟩
    rw [hw]
    simp [execOp, ho, Instr.box, newVar, newRow]

theorem ok_box_ro (t : TypeId) (x : Operand) (ho : o.op = .box t x) (hs : (ev x).cells.all LV.scalar = true) : OpOk P pr o ev m (.sptr (ev x).cells) m :=
  OpOk.value fun c a hev hm => by
    obtain ⟨hl, h1⟩ := (hev x).cellsOf hs
    obtain ⟨h2, h3⟩ := hm.ext (pr := pr) (c.w.alloc (.cells (a.eval x).cells.toList.toArray t)) rfl rfl rfl (Nat.le_refl _) (by simp) (fun b hb => heap_alloc_old c.w _ b hb)
    refine ⟨.pointer (some ⟨c.w.heap.size, 0, .none⟩), _, by simp [execOp, ho, Instr.box, newVar, newRow], ?_, h2, h3⟩
    simp only [RepV]
    refine ⟨c.w.heap.size, 0, (a.eval x).cells.toList, rfl, by simp, ?_, h3.repL hl, fun v hv => h1 v (by simpa using hv), rangeAt_new c.w _ t⟩
    exact hm.newX (Nat.le_refl _)

theorem run_load_cells {w : World} {t : TypeId} {b off : Nat} {cs : List LV} {vs : List Value} {c : Cx} (ht : tok P t = true) (hl : RepL c cs vs) (hr : w.rangeAt b off vs) :
    (tagg P t = true → tsize P t ≤ cs.length → (Instr.loadAt t (.pointer (some ⟨b, off, .none⟩))).run P w = .ok (.agg (vs.take (tsize P t)).toArray) w) ∧
    (tagg P t = false → ∀ v vs', vs = v :: vs' → (Instr.loadAt t (.pointer (some ⟨b, off, .none⟩))).run P w = .ok v w) := by
  unfold tok at ht
  cases hi : P.info? t with
  | none => simp [hi] at ht
  | some i =>
    cases hu : P.underlying t with
    | none => simp [hu] at ht
    | some d =>
      constructor
      · intro hg hs
        have hsz : tsize P t = i.size := by simp [tsize, hi]
        refine run_loadAt_mid w b off t _ d (rangeAt_take hr _) hu ?_ ?_
        · simp only [tagg, hu] at hg
          cases d <;> simp_all
        · simp only [hi, Option.map_some, List.length_take, hsz]
          rw [hsz, hl.length] at hs
          rw [Nat.min_eq_left hs]
      · intro hg v vs' he
        subst he
        have hc : w.cell? ⟨b, off, .none⟩ = some v := by simpa using hr 0 v (by simp)
        have hagg : (isAgg t).run P w = .ok false w := by
          unfold isAgg
          rw [Sem.run_bind, run_underlying hu w]
          simp only [tagg, hu] at hg
          cases d <;> simp_all
        simp [Instr.loadAt, Instr.sureAddr, loadVar, Sem.run_bind, hagg, hc]

/-- The load of a variable out of cells that are known. -/
theorem loadC_sound {t : TypeId} {cs : List LV} {K : LV → Prop} (h : loadC P t cs K) :
    ∃ lv, K lv ∧ ∀ (c : Cx) (b off : Nat) (vs : List Value), RepL c cs vs → c.w.rangeAt b off vs → ∃ v, (Instr.loadAt t (.pointer (some ⟨b, off, .none⟩))).run P c.w = .ok v c.w ∧ RepV c lv v := by
  obtain ⟨ht, h⟩ := h
  by_cases hg : tagg P t = true
  · rw [if_pos hg] at h
    refine ⟨_, h.2, fun c b off vs hl hr => ?_⟩
    refine ⟨_, (run_load_cells ht hl hr).1 hg h.1, ?_⟩
    simp only [RepV]
    exact ⟨_, rfl, hl.take _⟩
  · rw [if_neg hg] at h
    match cs, h with
    | x :: cs, h =>
      refine ⟨x, h, fun c b off vs hl hr => ?_⟩
      have hl' := hl
      simp only [RepL] at hl'
      obtain ⟨v, vs', rfl, hv, _⟩ := hl'
      exact ⟨v, (run_load_cells ht hl hr).2 (by simpa using hg) v vs' rfl, hv⟩

theorem ok_load_of {t : TypeId} {x : Operand} (ho : o.op = .load t x)
    (h : ∀ (c : Cx) (a : Act), (∀ x, RepV c (ev x) (a.eval x)) → RepM c m → ∃ b off, a.eval x = .pointer (some ⟨b, off, .none⟩) ∧ ∃ v, (Instr.loadAt t (.pointer (some ⟨b, off, .none⟩))).run P c.w = .ok v c.w ∧ RepV c lv v) : OpOk P pr o ev m lv m :=
  OpOk.same fun c a hev hm => by
    obtain ⟨b, off, hx, v, hr, hv⟩ := h c a hev hm
    exact ⟨v, by simp [execOp, ho, hx, hr], hv⟩

end ops
end Go.L
