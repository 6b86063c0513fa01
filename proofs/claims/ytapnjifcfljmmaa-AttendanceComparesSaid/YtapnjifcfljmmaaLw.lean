/- A logic over logical memory, part 20: operations that take a row over: slices.Insert, slices.Delete; slices.Clone. -/
import Derived.Test.YtapnjifcfljmmaaLv
set_option linter.unusedVariables false
set_option linter.unusedSimpArgs false
namespace Go.L
section
variable {P : Program} {N : Nat} {pr : Nat → Prop} {ops : Array Oper} {e : Env} {m m' : Mem} {ev : Operand → LV} {o : Oper} {lv : LV} {l : List Oper} {KE : Env → Mem → Prop}
/-- no box speaks of id -/
def HB (id : Nat) (m : Mem) : Prop := ∀ j cs, j ≠ id → m j = some (.box cs) → LV.norefL id cs = true
theorem HB.of {id : Nat} {ml : List (Nat × LE)} (h : freeB id ml = true) : HB id (Mem.of ml) := freeB_of h
theorem HB.arr {id j e k : Nat} {xs : List LV} (h : HB id m) : HB id (m.put j (.arr e k xs)) := fun i cs hi hm => by
  simp only [Mem.put] at hm
  split at hm
  · cases hm
  · exact h i cs hi hm
/-- The memory of one id is taken over; all that does not speak of it stands. -/
theorem RepM.updT {c : Cx} (h : RepM c m) (id : Nat) (le : LE) (be : BE) (w' : World)
    (hos : w'.os = c.w.os) (htape : w'.tape = c.w.tape) (hout : w'.output = c.w.output) (hdr : c.w.drawn ≤ w'.drawn) (hsize : c.w.heap.size ≤ w'.heap.size)
    (hkeep : ∀ b, b < c.w.heap.size → (∀ be0, c.B id = some be0 → ¬ be0.has b) → w'.heap[b]? = c.w.heap[b]?)
    (hblk : ∀ b, be.has b → (∃ be0, c.B id = some be0 ∧ be0.has b) ∨ c.w.heap.size ≤ b)
    (hpr : ¬ pr id) (hbox : HB id m) (hent : ∀ c' : Cx, c'.w = w' → c.Le c' → RepE c' (some le) (some be)) :
    ∃ c' : Cx, c'.w = w' ∧ c'.B id = some be ∧ RepM c' (m.put id le) ∧ Grow pr c c' ∧ ∀ i, i ≠ id → BLe (c.B i) (c'.B i) := by
  let c' : Cx := ⟨w', fun i => if i = id then some be else c.B i, c.O⟩
  have hown : ∀ b, c'.own b → c.own b ∨ c.w.heap.size ≤ b := by
    rintro b ⟨i, be', h1, h2⟩
    by_cases hi : i = id
    · simp only [c', hi, if_true] at h1
      cases h1
      rcases hblk b h2 with ⟨be0, h3, h4⟩ | hs
      · exact .inl ⟨id, be0, h3, h4⟩
      · exact .inr hs
    · simp only [c', hi, if_false] at h1
      exact .inl ⟨i, be', h1, h2⟩
  have hgrow : Grow pr c c' := by
    refine ⟨rfl, hos, htape, hout, hdr, hsize, fun b hb ho => hkeep b hb (fun be0 h0 h1 => ho ⟨id, be0, h0, h1⟩), hown, fun i be' hp hb => ?_⟩
    by_cases hi : i = id
    · subst hi; exact absurd hp hpr
    · exact ⟨be', by simp only [c', hi, if_false]; exact hb, .refl be'⟩
  have hble : ∀ i, i ≠ id → BLe (c.B i) (c'.B i) := by
    intro i hi
    simp only [c', hi, if_false]; exact BLe.refl _
  refine ⟨c', rfl, by simp [c'], ⟨fun i => ?_, ?_, ?_, ?_⟩, hgrow, hble⟩
  · by_cases hi : i = id
    · subst hi; simp only [c', Mem.put, if_true]; exact hent c' rfl hgrow.le
    · simp only [Mem.put, hi, if_false]
      have hBi : c'.B i = c.B i := by simp [c', hi]
      rw [hBi]
      have hh : ∀ be' b, c.B i = some be' → be'.has b → c'.w.heap[b]? = c.w.heap[b]? := fun be' b hb hbb =>
        hkeep b ((h.ent i).lt hb hbb) fun be0 h0 h1 => hi (h.inj i id be' be0 b hb h0 hbb h1)
      have he := h.ent i
      cases hmi : m i with
      | none => rw [hmi] at he; simpa only [RepE] using he
      | some le' =>
        rw [hmi] at he
        cases le' with
        | box cs =>
          simp only [RepE] at he ⊢
          obtain ⟨b, vs, ee, h1, h2, h3, h4⟩ := he
          exact ⟨b, vs, ee, h1, (hh _ b h1 rfl).trans h2, RepL.mono hgrow.le cs vs (fun j hj => by
            by_cases hji : j = id
            · subst hji; rw [hbox i cs hi hmi] at hj; cases hj
            · exact hble j hji) h3, h4⟩
        | arr ee k xs =>
          simp only [RepE] at he ⊢
          obtain ⟨u, vs, h1, h0, h2, h3, h4, h5⟩ := he
          exact ⟨u, vs, h1, h0, ownsRow_same h2 (fun b hb => hh _ b h1 (.inl hb)), RepL.mono hgrow.le xs vs (fun j hj => by rw [norefL_of_pureL xs h5] at hj; cases hj) h3, h4, h5⟩
        | nest ee k os xs =>
          simp only [RepE] at he ⊢
          obtain ⟨u, vs, bs, h1, h0, h2, h3, h4⟩ := he
          exact ⟨u, vs, bs, h1, h0, ownsRow_same h2 (fun b hb => hh _ b h1 (.inl hb)), h3.mono hgrow.le (fun b hb => hh _ b h1 (.inr hb)), h4⟩
        | dead => simpa only [RepE] using he
        | map kt vt es =>
          simp only [RepE] at he ⊢
          obtain ⟨b, es', ck, h1, h2, h3, h4, h5, h6, h7⟩ := he
          exact ⟨b, es', ck, h1, (hh _ b h1 rfl).trans h2, RepL.mono hgrow.le _ _ (fun j hj => by rw [norefL_of_pureL _ h5] at hj; cases hj) h3, RepL.mono hgrow.le _ _ (fun j hj => by rw [norefL_of_pureL _ h6] at hj; cases hj) h4, h5, h6, h7⟩
  · intro i i' b1 b2 b h1 h2 h3 h4
    by_cases hi : i = id <;> by_cases hi' : i' = id
    · rw [hi, hi']
    · simp only [c', hi, if_true] at h1
      simp only [c', hi', if_false] at h2
      cases h1
      rcases hblk b h3 with ⟨be0, h5, h6⟩ | hs
      · rw [hi]; exact h.inj id i' be0 b2 b h5 h2 h6 h4
      · have := (h.ent i').lt h2 h4; omega
    · simp only [c', hi, if_false] at h1
      simp only [c', hi', if_true] at h2
      cases h2
      rcases hblk b h4 with ⟨be0, h5, h6⟩ | hs
      · rw [hi']; exact h.inj i id b1 be0 b h1 h5 h3 h6
      · have := (h.ent i).lt h1 h3; omega
    · simp only [c', hi, if_false] at h1
      simp only [c', hi', if_false] at h2
      exact h.inj i i' b1 b2 b h1 h2 h3 h4
  · intro b ho hO
    rcases hown b ho with ho | hs
    · exact h.notO b ho hO
    · have := h.Olt b hO; omega
  · intro b hO; exact Nat.lt_of_lt_of_le (h.Olt b hO) hsize

/-- all that speaks of id is forgotten -/
def Env.drop (e : Env) (id : Nat) : Env := fun i => if (e i).noref id = true then e i else .und
/-- what an operation comes to that takes id over -/
def OpOkT (P : Program) (pr : Nat → Prop) (id : Nat) (o : Oper) (ev : Operand → LV) (m : Mem) (lv : LV) (m' : Mem) : Prop :=
  ∀ (c : Cx) (a : Act) (Q : Exit → Act → World → Prop), (∀ x, RepV c (ev x) (a.eval x)) → RepM c m →
    o.wp P a c.w (fun a' w' => ∃ v c', a' = a.put o.dst v ∧ c'.w = w' ∧ RepV c' lv v ∧ RepM c' m' ∧ Grow pr c c' ∧ ∀ i, i ≠ id → BLe (c.B i) (c'.B i)) Q
theorem sTake {i id : Nat} {op : Op} {ty : TypeId} {pos : String} {af : Array Edge} (h : OpOkT P pr id ⟨some i, op, ty, pos, af, .none⟩ (lev e) m lv m') (hr : SOps P N pr ops l KE ((e.drop id).put i lv) m') : SOps P N pr ops (⟨some i, op, ty, pos, af, .none⟩ :: l) KE e m := by
  intro hd hl
  obtain ⟨e2, m2, hK, hrest⟩ := hr hd (fun q hq => hl q (by simp [hq]))
  refine ⟨e2, m2, hK, fun c a hrep => ?_⟩
  simp only [wpList]
  rw [if_pos (by simp [Region.wanted])]
  left
  refine Oper.wp_mono ?_ (h c a _ hrep.ev hrep.mem)
  rintro a' w' ⟨v, c', rfl, rfl, hv, hm', hg, hble⟩
  have hlt : i < N := hd ⟨some i, op, ty, pos, af, .none⟩ (hl _ (by simp)) i rfl
  have hrep' : Rep N c' ((e.drop id).put i lv) m' (a.put (some i) v) := by
    refine ⟨fun j => ?_, hm', by simp [Act.put, hrep.size], hrep.defers⟩
    simp only [Env.put, Act.put]
    by_cases hj : j = i
    · subst hj
      have : j < a.tmps.size := by rw [hrep.size]; exact hlt
      simpa [this] using hv
    · simp only [hj, if_false]
      have : RepV c' (e.drop id j) (a.tmps.getD j undef) := by
        simp only [Env.drop]
        split
        · rename_i hn
          exact RepV.mono hg.le _ _ (fun q hq => hble q (fun hqi => by subst hqi; rw [hn] at hq; cases hq)) (hrep.env j)
        · simp only [RepV]
      simpa [Array.getElem?_setIfInBounds_ne (Ne.symm hj)] using this
  refine wpList_mono _ _ _ _ _ ?_ (hrest c' _ hrep')
  rintro x a'' w'' ⟨hx, c2, hw2, hr2, hg2⟩
  exact ⟨hx, c2, hw2, hr2, hg.trans hg2⟩

theorem OpOkT.of {id k n n' e0 : Nat} {ys : List LV} (hpr : ¬ pr id) (hbox : HB id m)
    (W : ∀ (c : Cx) (a : Act), (∀ x, RepV c (ev x) (a.eval x)) → RepM c m → ∃ u f args vs', c.B id = some (.arr u k n []) ∧ (execOp a.eval o).run P c.w = .ok (.enter f args) c.w ∧ (Calls P f args c.w fun en w' => ∃ u', en = .returned u' ∧ RowTo c.w w' e0 k u u' ys.length (flat vs')) ∧ RepL c ys vs' ∧ (∀ v ∈ vs', v.cells.size = k ∧ ∀ y ∈ v.cells, y.oneCell' = true) ∧ LV.pureL ys = true ∧ 0 < k) :
    OpOkT P pr id o ev m (.arr id ys.length) (m.put id (.arr e0 k ys)) := by
  intro c a Q hev hm
  obtain ⟨u, f, args, vs', hB, hrun, hcall, hl, hc, hp, hk⟩ := W c a hev hm
  unfold Oper.wp
  rw [hrun]
  simp only [Oper.upon]
  refine hcall.mono ?_
  rintro en w' ⟨u', rfl, h⟩
  obtain ⟨c', hw, hb, h2, h3, h4⟩ := hm.updT (pr := pr) id (.arr e0 k ys) (.arr u' k ys.length []) w' h.grown.os h.grown.tape h.grown.output h.drawn h.grown.size
    (fun b hb hne => h.grown.block b hb (fun hh => hne _ hB (.inl hh.symm)))
    (fun b hb => hb.elim (fun hb => (h.blk b hb).imp (fun hh => ⟨_, hB, .inl hh⟩) (fun hh => hh)) (fun hh => by cases hh)) hpr hbox
    (fun c' hw hle => by
      simp only [RepE]
      exact ⟨u', vs', rfl, hk, by rw [hw]; exact h.own, RepL.mono hle _ _ (fun j hj => by rw [norefL_of_pureL _ hp] at hj; cases hj) hl, hc, hp⟩)
  refine ⟨u', c', rfl, hw, ?_, h2, h3, h4⟩
  simp only [RepV]
  refine ⟨?_, _, _, _, _, hb, Nat.le_refl _, fun _ => rfl⟩
  rcases h.own.2 with ⟨rfl, _⟩ | ⟨g, cap, cur, rfl, _⟩ <;> rfl

theorem flat_take {k : Nat} : ∀ {vs : List Value} (h : ∀ v ∈ vs, v.cells.size = k) (i : Nat), (flat vs).take (i * k) = flat (vs.take i)
  | [], _, i => by simp [flat]
  | v :: vs, h, 0 => by simp [flat]
  | v :: vs, h, i + 1 => by
    have hv := h v (by simp)
    rw [flat_cons, List.take_succ_cons, flat_cons, List.take_append, Nat.succ_mul]
    have e1 : (i * k + k) - v.cells.toList.length = i * k := by simp [hv]
    rw [e1, flat_take (fun u hu => h u (by simp [hu])) i, List.take_of_length_le (by simp [hv])]
theorem flat_drop {k : Nat} : ∀ {vs : List Value} (h : ∀ v ∈ vs, v.cells.size = k) (i : Nat), (flat vs).drop (i * k) = flat (vs.drop i)
  | [], _, i => by simp [flat]
  | v :: vs, h, 0 => by simp [flat]
  | v :: vs, h, i + 1 => by
    have hv := h v (by simp)
    rw [flat_cons, List.drop_succ_cons, List.drop_append, Nat.succ_mul]
    have e1 : (i * k + k) - v.cells.toList.length = i * k := by simp [hv]
    rw [e1, flat_drop (fun u hu => h u (by simp [hu])) i, List.drop_of_length_le (by simp [hv])]
    rfl
theorem flat_one {vs : List Value} (h : ∀ v ∈ vs, ∀ y ∈ v.cells, y.oneCell' = true) : ∀ y ∈ flat vs, y.oneCell' = true := by
  intro y hy
  simp only [flat, List.mem_flatMap] at hy
  obtain ⟨v, hv, hy⟩ := hy
  exact h v hv y (by simpa using hy)

/-- slices.Insert of one element, at the world -/
def InsW (P : Program) (f e k : Nat) : Prop := ∀ (u : Value) (n i : Nat) (xs : List Value) (v : Value) (vs : List Value) (w : World), w.ownsRow 0 e k u n xs → (∀ y ∈ xs, y.oneCell' = true) → i ≤ n → n ≤ 1099511627775 → w.ownsRow 0 e k v 1 vs → (∀ y ∈ vs, y.oneCell' = true) → (∀ b, v.ownBlock = some b → u.ownBlock ≠ some b) →
  Calls P f #[u, .int .i64 i, v] w fun en w' => ∃ u', en = .returned u' ∧ RowTo w w' e k u u' (n + 1) (xs.take (i * k) ++ vs ++ xs.drop (i * k))
/-- slices.Delete, at the world -/
def DelW (P : Program) (f e k : Nat) : Prop := ∀ (u : Value) (n i j : Nat) (xs : List Value) (w : World), w.ownsRow 0 e k u n xs → (∀ y ∈ xs, y.oneCell' = true) → i < j → j ≤ n →
  Calls P f #[u, .int .i64 i, .int .i64 j] w fun en w' => ∃ u', en = .returned u' ∧ RowTo w w' e k u u' (i + (n - j)) (xs.take (i * k) ++ xs.drop (j * k))
/-- slices.Clone, at the world -/
def CloneW (P : Program) (f e k : Nat) : Prop := ∀ (a : Option Addr) (n cap : Nat) (news : List Value) (w : World), news.length = n * k → (a = none → n = 0) → (∀ ad, a = some ad → ∀ j u, news[j]? = some u → w.cell? (ad.add j) = some u) → (∀ u ∈ news, u.oneCell' = true) → n ≤ 1099511627776 →
  Calls P f #[.slice a n cap] w fun en w' => ∃ u', en = .returned u' ∧ RowTo w w' e k (.slice none 0 0) u' n news
def insF {α : Type} (xs : List α) (i : Int) (z : α) : Option (List α) := if 0 ≤ i ∧ i ≤ xs.length ∧ xs.length ≤ 1099511627775 then some (xs.take i.toNat ++ [z] ++ xs.drop i.toNat) else .none
def delF {α : Type} (xs : List α) (i j : Int) : Option (List α) := if 0 ≤ i ∧ i < j ∧ j ≤ xs.length then some (xs.take i.toNat ++ xs.drop j.toNat) else .none
theorem enterF {f : Nat} {xs : Array Operand} {ts : Array TypeId} {d : Option Nat} {ty : TypeId} {pos : String} {af : Array Edge} {gd : Option (Nat × Bool)} (hf : ∃ fn, P.funcs[f]? = some fn ∧ (fn.name == "runtime.NumGoroutine") = false ∧ fn.body.isNone = false) (a : Act) (w : World) :
    (execOp a.eval ⟨d, .call ⟨.value (.func f), xs, ts⟩, ty, pos, af, gd⟩).run P w = .ok (.enter f (xs.map a.eval)) w := by
  obtain ⟨fn, hf, hname, hbody⟩ := hf
  have hname' : ¬ fn.name = "runtime.NumGoroutine" := by simpa using hname
  have hbody' : ¬ fn.body = .none := fun hn => by rw [hn] at hbody; cases hbody
  simp [execOp, resolve, Deferred.ofValue, Act.eval, invoke, callFunc, hf, hname', hbody']
theorem map_get {α : Type} {g : α → LV} {xs : List α} : (xs.map g).length = xs.length := by simp
theorem ok_insert {f id id2 e0 k : Nat} {x y z : Operand} {ts : Array TypeId} {d : Option Nat} {ty : TypeId} {pos : String} {af : Array Edge} {gd : Option (Nat × Bool)} {α : Type} {g : α → LV} {xs r : List α} {z0 : α} {i : Int}
    (hf : ∃ fn, P.funcs[f]? = some fn ∧ (fn.name == "runtime.NumGoroutine") = false ∧ fn.body.isNone = false) (W : InsW P f e0 k) (hx : ev x = .arr id xs.length) (hid : m id = some (.arr e0 k (xs.map g))) (hy : ev y = .int .i64 i) (hz : ev z = .arr id2 1) (hid2 : m id2 = some (.arr e0 k ([z0].map g))) (hne : id2 ≠ id) (hpr : ¬ pr id) (hbox : HB id m) (hi : insF xs i z0 = some r) :
    OpOkT P pr id ⟨d, .call ⟨.value (.func f), #[x, y, z], ts⟩, ty, pos, af, gd⟩ ev m (.arr id r.length) (m.put id (.arr e0 k (r.map g))) := by
  unfold insF at hi
  split at hi
  · rename_i hb
    obtain rfl := Option.some.inj hi
    have hlen : ∀ q : List α, (q.map g).length = q.length := fun q => by simp
    rw [← hlen (xs.take i.toNat ++ [z0] ++ xs.drop i.toNat)]
    refine OpOkT.of (n := xs.length) (n' := 0) hpr hbox fun c a hev hm => ?_
    have h1 := hev x
    have h2 := hev y
    have h3 := hev z
    rw [hx] at h1; rw [hy] at h2; rw [hz] at h3
    obtain ⟨vs, hB, hk, hown, hl, hc, hp⟩ := arr_now hm h1 hid (by simp)
    obtain ⟨zs, hBz, _, hownz, hlz, hcz, hpz⟩ := arr_now hm h3 hid2 (by simp)
    simp only [RepV] at h2
    refine ⟨a.eval x, f, _, vs.take i.toNat ++ zs ++ vs.drop i.toNat, by rw [hB]; simp, enterF hf a c.w, ?_, ?_, ?_, ?_, hk⟩
    · have hi' : a.eval y = .int .i64 ((i.toNat : Nat) : Int) := by rw [h2, Int.toNat_of_nonneg hb.1]
      have e1 : (#[x, y, z] : Array Operand).map a.eval = #[a.eval x, .int .i64 ((i.toNat : Nat) : Int), a.eval z] := by simp [hi']
      rw [e1]
      have hvl : vs.length = xs.length := by have := hl.length; simpa using this.symm
      have := W (a.eval x) xs.length i.toNat (flat vs) (a.eval z) (flat zs) c.w (by simpa using hown) (flat_one fun v hv => (hc v hv).2) (by omega) hb.2.2 (by simpa using hownz) (flat_one fun v hv => (hcz v hv).2)
        (fun b hb1 hb2 => hne (hm.inj id2 id _ _ b hBz hB (.inl hb1) (.inl hb2)))
      refine this.mono ?_
      rintro en w' ⟨u', rfl, hr⟩
      refine ⟨u', rfl, ?_⟩
      rw [flat_take (fun v hv => (hc v hv).1), flat_drop (fun v hv => (hc v hv).1), ← flat_append, ← flat_append] at hr
      have e2 : ((xs.take i.toNat ++ [z0] ++ xs.drop i.toNat).map g).length = xs.length + 1 := by simp; omega
      rw [e2]; exact hr
    · rw [List.map_append, List.map_append, List.map_take, List.map_drop]
      exact ((hl.take _).append hlz).append (hl.drop _)
    · intro v hv
      rcases List.mem_append.1 hv with hv | hv
      · rcases List.mem_append.1 hv with hv | hv
        · exact hc v (List.mem_of_mem_take hv)
        · exact hcz v hv
      · exact hc v (List.mem_of_mem_drop hv)
    · rw [List.map_append, List.map_append, List.map_take, List.map_drop]
      refine pureL_append (pureL_append ?_ hpz) ?_
      · exact pureL_iff.2 fun q hq => pureL_iff.1 hp q (List.mem_of_mem_take hq)
      · exact pureL_iff.2 fun q hq => pureL_iff.1 hp q (List.mem_of_mem_drop hq)
  · cases hi
theorem ok_delete {f id e0 k : Nat} {x y z : Operand} {ts : Array TypeId} {d : Option Nat} {ty : TypeId} {pos : String} {af : Array Edge} {gd : Option (Nat × Bool)} {α : Type} {g : α → LV} {xs r : List α} {i j : Int}
    (hf : ∃ fn, P.funcs[f]? = some fn ∧ (fn.name == "runtime.NumGoroutine") = false ∧ fn.body.isNone = false) (W : DelW P f e0 k) (hx : ev x = .arr id xs.length) (hid : m id = some (.arr e0 k (xs.map g))) (hy : ev y = .int .i64 i) (hz : ev z = .int .i64 j) (hpr : ¬ pr id) (hbox : HB id m) (hi : delF xs i j = some r) :
    OpOkT P pr id ⟨d, .call ⟨.value (.func f), #[x, y, z], ts⟩, ty, pos, af, gd⟩ ev m (.arr id r.length) (m.put id (.arr e0 k (r.map g))) := by
  unfold delF at hi
  split at hi
  · rename_i hb
    obtain rfl := Option.some.inj hi
    have hlen : ∀ q : List α, (q.map g).length = q.length := fun q => by simp
    rw [← hlen (xs.take i.toNat ++ xs.drop j.toNat)]
    refine OpOkT.of (n := xs.length) (n' := 0) hpr hbox fun c a hev hm => ?_
    have h1 := hev x
    have h2 := hev y
    have h3 := hev z
    rw [hx] at h1; rw [hy] at h2; rw [hz] at h3
    obtain ⟨vs, hB, hk, hown, hl, hc, hp⟩ := arr_now hm h1 hid (by simp)
    simp only [RepV] at h2 h3
    refine ⟨a.eval x, f, _, vs.take i.toNat ++ vs.drop j.toNat, by rw [hB]; simp, enterF hf a c.w, ?_, ?_, ?_, ?_, hk⟩
    · have hi' : a.eval y = .int .i64 ((i.toNat : Nat) : Int) := by rw [h2, Int.toNat_of_nonneg hb.1]
      have hj' : a.eval z = .int .i64 ((j.toNat : Nat) : Int) := by rw [h3, Int.toNat_of_nonneg (by omega)]
      have e1 : (#[x, y, z] : Array Operand).map a.eval = #[a.eval x, .int .i64 ((i.toNat : Nat) : Int), .int .i64 ((j.toNat : Nat) : Int)] := by simp [hi', hj']
      rw [e1]
      have := W (a.eval x) xs.length i.toNat j.toNat (flat vs) c.w (by simpa using hown) (flat_one fun v hv => (hc v hv).2) (by omega) (by omega)
      refine this.mono ?_
      rintro en w' ⟨u', rfl, hr⟩
      refine ⟨u', rfl, ?_⟩
      rw [flat_take (fun v hv => (hc v hv).1), flat_drop (fun v hv => (hc v hv).1), ← flat_append] at hr
      have e2 : ((xs.take i.toNat ++ xs.drop j.toNat).map g).length = i.toNat + (xs.length - j.toNat) := by simp; omega
      rw [e2]; exact hr
    · rw [List.map_append, List.map_take, List.map_drop]
      exact (hl.take _).append (hl.drop _)
    · intro v hv
      rcases List.mem_append.1 hv with hv | hv
      · exact hc v (List.mem_of_mem_take hv)
      · exact hc v (List.mem_of_mem_drop hv)
    · rw [List.map_append, List.map_take, List.map_drop]
      refine pureL_append ?_ ?_
      · exact pureL_iff.2 fun q hq => pureL_iff.1 hp q (List.mem_of_mem_take hq)
      · exact pureL_iff.2 fun q hq => pureL_iff.1 hp q (List.mem_of_mem_drop hq)
  · cases hi
/-- a slice that is written out, as a row of its own -/
theorem ok_bsA {d id kk len : Nat} {t el : TypeId} {ty : TypeId} {pos : String} {af : Array Edge} {gd : Option (Nat × Bool)} {α : Type} {g : α → LV} {ys : List α} {ps : List (Nat × Operand)} (he : telem P t = some el) (hrow : trow P el = true) (hk : tsize P el = kk) (hsm0 : Nat.ble (len * kk) 16777216 = true) (hidx0 : ps.map (·.1) = List.range len) (hv0 : (ps.map fun p => ev p.2) = ys.map g) (hok : OkF kk g) (hid : m id = .none) :
    OpOk P pr ⟨some d, .buildSlice t len ps.toArray, ty, pos, af, gd⟩ ev m (.arr id ys.length) (m.put id (.arr el kk (ys.map g))) := by
  subst hk
  have hsm := Nat.le_of_ble_eq_true hsm0
  have hu := elem_of he
  obtain ⟨i, zv, hi, hzv, hzs, hz1, hsz, hby, hts⟩ := row_of hrow
  obtain ⟨parts, hparts0⟩ : ∃ parts : Array (Nat × Operand), parts = ps.toArray := ⟨_, rfl⟩
  have hpt : parts.toList = ps := by rw [hparts0]
  have hidx : parts.toList.map (·.1) = List.range len := by rw [hpt]; exact hidx0
  have hels : okEls (tsize P el) (parts.toList.map fun p => ev p.2) := by rw [hpt, hv0]; exact hok.els ys
  obtain ⟨o, ho0⟩ : ∃ o : Oper, o = ⟨some d, .buildSlice t len ps.toArray, ty, pos, af, gd⟩ := ⟨_, rfl⟩
  have ho : o.op = .buildSlice t len parts := by rw [ho0, hparts0]
  rw [← ho0]
  refine OpOk.value fun c a hev hm => ?_
  have hplen : parts.toList.length = len := by have := congrArg List.length hidx; simpa using this
  let vs := parts.toList.map fun p => a.eval p.2
  have hl : RepL c (parts.toList.map fun p => ev p.2) vs := RepL.of (by simp [vs]) fun j x v hx hv => by
    simp only [vs, List.getElem?_map, Option.map_eq_some_iff] at hx hv
    obtain ⟨p, hp, rfl⟩ := hx
    obtain ⟨p', hp', rfl⟩ := hv
    rw [hp] at hp'; cases hp'; exact hev _
  have hcell : ∀ v ∈ vs, v.cells.size = i.size ∧ ∀ y ∈ v.cells, y.oneCell' = true := by
    intro v hv
    simp only [vs, List.mem_map] at hv
    obtain ⟨p, hp, rfl⟩ := hv
    obtain ⟨_, e1, e2⟩ := hels (ev p.2) (List.mem_map.2 ⟨p, hp, rfl⟩)
    obtain ⟨e3, e4⟩ := (hev p.2).cellsOf e2
    refine ⟨?_, e4⟩
    have := e3.length
    rw [e1, hts] at this
    simpa using this.symm
  have hpure : LV.pureL (parts.toList.map fun p => ev p.2) = true := pureL_iff.2 fun x hx => (hels x hx).1
  have hparts : (parts.map fun (p : Nat × Operand) => (p.1, a.eval p.2)).toList = (vs.zipIdx 0).map fun x => (x.2, x.1) := by
    apply List.ext_getElem?
    intro j
    have hj := congrArg (fun l => l[j]?) hidx
    simp only [List.getElem?_map, List.getElem?_range] at hj
    simp only [Array.toList_map, List.getElem?_map, List.getElem?_zipIdx, vs, Nat.zero_add]
    cases hp : parts.toList[j]? with
    | none => simp
    | some p =>
      rw [hp] at hj
      have hjl : j < len := by
        rw [← hplen]; exact (List.getElem?_eq_some_iff.1 hp).1
      rw [List.getElem?_range hjl] at hj
      simp at hj
      simp [hj]
  obtain ⟨cells, hfill, hflat⟩ : ∃ cells, Instr.fill (fun i' => some (i' * i.size, i.size)) ((Array.range (len * i.size)).map (zv.cells[· % zv.cells.size]!)) (parts.map fun (p : Nat × Operand) => (p.1, a.eval p.2)).toList = some cells ∧ cells.toList = flat vs := by
    have hvl : vs.length = len := by simp [vs, hplen]
    obtain ⟨r, hr, hrs, hrk⟩ := Great.fill_dense hsz vs 0 ((Array.range (len * i.size)).map (zv.cells[· % zv.cells.size]!)) (fun v hv => (hcell v hv).1) (by simp [hvl])
    refine ⟨r, by rw [hparts]; exact hr, ?_⟩
    apply List.ext_getElem?
    intro j
    rw [flat_get hsz (fun v hv => (hcell v hv).1), Array.getElem?_toList, hrk j]
    simp only [Nat.zero_mul, Nat.zero_le, true_and, Nat.zero_add, Nat.sub_zero, hvl]
    by_cases hj : j < len * i.size
    · rw [if_pos hj]
    · rw [if_neg hj]
      have h1 : ¬ j / i.size < len := fun hh => hj ((Nat.div_lt_iff_lt_mul hsz).1 hh)
      rw [List.getElem?_eq_none (by omega : vs.length ≤ j / i.size)]
      simp; omega
  have hcells : cells = (flat vs).toArray := by rw [← hflat]
  subst hcells
  have hrun : (execOp a.eval o).run P c.w = .ok (.value (.slice (some ⟨c.w.heap.size, 0, .none⟩) len len)) (c.w.alloc (.cells (flat vs).toArray el)) := by
    by_cases hl0 : len = 0
    · subst hl0
      have hp0 : parts = #[] := by apply Array.ext'; simpa using hplen
      subst hp0
      simp [execOp, ho, Instr.buildSlice, run_underlying hu, sizeOf, typeInfo, hi, Instr.fill, newRow, vs, flat, Array.range_zero']
    · have hpos : ¬ len * i.size = 0 := by
        intro h0
        rcases Nat.mul_eq_zero.1 h0 with h0 | h0 <;> omega
      have hb := run_buildSlice (P := P) c.w t el len (parts.map fun (p : Nat × Operand) => (p.1, a.eval p.2)) (flat vs).toArray i zv hu hi hzv (by rw [hts] at hsm; omega) hpos hfill
      simp [execOp, ho, hb]
  have hlen : ys.length = len := by rw [← hplen, hpt]; have := congrArg List.length hv0; simpa using this.symm
  have hB := hm.fresh hid
  have hl' : RepL c (ys.map g) vs := by rw [← hv0, ← hpt]; exact hl
  have hflen : (flat vs).length = len * i.size := by
    rw [flat_length (fun v hv => (hcell v hv).1)]; congr 1; rw [← hplen]; simp [vs]
  have hown : (c.w.alloc (.cells (flat vs).toArray el)).ownsRow 0 el i.size (.slice (some ⟨c.w.heap.size, 0, .none⟩) len len) len (flat vs) :=
    ⟨hflen, .inr ⟨c.w.heap.size, len, (flat vs).toArray, rfl, Nat.zero_le _, heap_alloc_new c.w _, Nat.le_refl _, by
      have : len ≤ len * tsize P el := Nat.le_mul_of_pos_right _ (by rw [hts]; exact hsz)
      simp only [maxLen]; omega, by simp [hflen], by rw [← hflen]; simp⟩⟩
  obtain ⟨c', hw, hb, h2, h3⟩ := hm.upd (pr := pr) id (.arr el (tsize P el) (ys.map g)) (.arr (.slice (some ⟨c.w.heap.size, 0, .none⟩) len len) (tsize P el) len []) (c.w.alloc (.cells (flat vs).toArray el)) rfl rfl rfl (Nat.le_refl _) (by simp)
    (fun b hb _ => heap_alloc_old c.w _ b hb) (fun b hb => by simp [BE.has, Value.ownBlock] at hb; exact .inr (by omega)) (by rw [hB]; trivial) (fun _ be0 h0 => by rw [hB] at h0; cases h0)
    (fun c' hw hle hble => by
      simp only [RepE]
      refine ⟨.slice (some ⟨c.w.heap.size, 0, .none⟩) len len, vs, by simp [hlen], by rw [hts]; exact hsz, ?_, RepL.mono hle _ _ (fun j _ => hble j) hl', fun u hu => by rw [hts]; exact hcell u hu, by rw [← hv0, ← hpt]; exact hpure⟩
      rw [hw, hts]; simpa [hlen] using hown)
  refine ⟨_, c', by rw [hw]; exact hrun, ?_, h2, h3⟩
  simp only [RepV]
  exact ⟨rfl, _, _, _, _, hb, by omega, fun _ => rfl⟩
/-- slices.Clone of a list, in memory of its own -/
theorem clone_ok {f e0 k : Nat} (W : CloneW P f e0 k) (hk : Nat.ble 1 k = true) {α : Type} {g : α → LV} {xs r : List α} (id : Nat) (h : app [] xs = some r) : LCall P f [.lst k (xs.map g)] (Mem.of []) (.arr id r.length) (Mem.of [(id, .arr e0 k (r.map g))]) := by
  unfold app at h
  split at h
  · rename_i hb
    obtain rfl : xs = r := by simpa using h
    intro c vs hm ha
    simp only [RepL] at ha
    obtain ⟨v, vs', rfl, hv, rfl⟩ := ha
    simp only [RepV] at hv
    obtain ⟨a, cap, rfl, hcap, hnil, hp, hx⟩ := hv
    have hx' : ∃ us, (flat us).length = xs.length * k ∧ (a = none → xs.length = 0) ∧ (∀ ad, a = some ad → ∀ j u, (flat us)[j]? = some u → c.w.cell? (ad.add j) = some u) ∧ RepL c (xs.map g) us ∧ ∀ u ∈ us, u.cells.size = k ∧ ∀ y ∈ u.cells, y.oneCell' = true := by
      rcases hx with hx | ⟨b, off, us, rfl, hbl, hX, hl, hc, hra⟩
      · have hx0 : xs = [] := by simpa using hx
        subst hx0
        exact ⟨[], by simp [flat], fun _ => rfl, by simp [flat], by simp [RepL], by simp⟩
      · refine ⟨us, ?_, (fun h => by cases h), fun ad had j u hu => ?_, hl, hc⟩
        · rw [flat_length (fun v hv => (hc v hv).1)]; congr 1; have := hl.length; simpa using this.symm
        · cases had; rw [Addr.add_lit]; exact hra j u hu
    obtain ⟨us, h1, h2, h3, hl, hc⟩ := hx'
    have hlen : (xs.map g).length = xs.length := by simp
    have := W a xs.length cap (flat us) c.w h1 h2 h3 (flat_one fun v hv => (hc v hv).2) (by simpa using hb)
    rw [hlen]
    refine this.mono ?_
    rintro en w' ⟨u', rfl, hr⟩
    have hB := hm.fresh (id := id) rfl
    obtain ⟨c', hw, hb', h4, h5⟩ := hm.upd (pr := fun id => Mem.of [] id ≠ .none) id (.arr e0 k (xs.map g)) (.arr u' k xs.length []) w' hr.grown.os hr.grown.tape hr.grown.output hr.drawn hr.grown.size
      (fun b hb _ => hr.grown.block b hb (by simp [Value.ownBlock])) (fun b hb => .inr (hb.elim (fun hb => (hr.blk b hb).elim (fun h => by simp [Value.ownBlock] at h) (fun h => h)) (fun hh => by cases hh))) (by rw [hB]; trivial) (fun _ be0 h0 => by rw [hB] at h0; cases h0)
      (fun c' hw hle hble => by
        simp only [RepE]
        exact ⟨u', us, by simp, Nat.le_of_ble_eq_true hk, by rw [hw]; simpa using hr.own, RepL.mono hle _ _ (fun j _ => hble j) hl, hc, hp⟩)
    refine ⟨u', c', rfl, hw, h4, ?_, h5.grow⟩
    simp only [RepV]
    refine ⟨?_, _, _, _, _, hb', Nat.le_refl _, fun _ => rfl⟩
    rcases hr.own.2 with ⟨rfl, _⟩ | ⟨g, cap, cur, rfl, _⟩ <;> rfl
  · cases h
def shrI (k : IntKind) (u w : Int) : Int := u.fdiv (2 ^ min w.toNat k.bits)
theorem ok_shr {d : Option Nat} {x y : Operand} {t t' ty : TypeId} {pos : String} {af : Array Edge} {gd : Option (Nat × Bool)} {k yk : IntKind} {u w : Int} (hx : ev x = .int k u) (hy : ev y = .int yk w) (hw : 0 ≤ w) : OpOkR P pr ⟨d, .binOp .shr t x y t', ty, pos, af, gd⟩ ev m (.int k (shrI k u w)) m :=
  OpOkR.value fun c a hev hm => by
    have h1 := hev x (by simp [Op.operands])
    have h2 := hev y (by simp [Op.operands])
    rw [hx] at h1; rw [hy] at h2
    simp only [RepV] at h1 h2
    refine ⟨.int k (shrI k u w), c, ?_, by simp [RepV], hm, Step.refl pr c⟩
    have hn : ¬ w < 0 := by omega
    simp [execOp, h1, h2, binOp, Op.shift, hn, shrI, eqGuard]
theorem pnC {c : List LV} (hc : LV.pureL c = true) : ∀ {l : List LV}, LV.pureL l = true → LV.pureL (l ++ c) = true := fun h => pureL_append h hc
/-- plain cells are the same bits as themselves -/
theorem bits_agg {cs : Array Value} (h : ∀ y ∈ cs.toList, (∃ k n, y = .int k n) ∨ ∃ b, y = .bool b) (n : Nat) : Instr.sameBits (n + 1) (.agg cs) (.agg cs) = true := by
  simp only [Instr.sameBits, beq_self_eq_true, Bool.true_and, List.all_eq_true]
  intro p hp
  have hpe : p.1 = p.2 ∧ p.1 ∈ cs.toList := by
    obtain ⟨i, hi, rfl⟩ := List.mem_iff_getElem.1 hp
    simp [List.getElem_zip]
  obtain ⟨a, b⟩ := p
  simp only at hpe ⊢
  obtain ⟨he, hm⟩ := hpe
  subst he
  rcases h _ hm with ⟨k, m, h⟩ | ⟨b, h⟩ <;> subst h <;> cases n <;> simp [Instr.sameBits]
mutual
theorem refs_pure : ∀ (x : LV), x.pure = true → x.refs = []
  | .und, _ | .int _ _, _ | .bool _, _ | .nil, _ | .slen _, _ | .nilf, _ | .nilp, _ | .lst _ _, _ => by simp [LV.refs]
  | .sptr cs, h => by simp only [LV.pure] at h; simp only [LV.refs]; exact refsL_pure' cs h
  | .arr _ _, h | .ptr _ _, h | .eptr _ _ _ _, h | .mp _, h => by simp [LV.pure] at h
  | .agg cs, h => by simp only [LV.pure] at h; simp only [LV.refs]; exact refsL_pure' cs h
  | .tup cs, h => by simp only [LV.pure] at h; simp only [LV.refs]; exact refsL_pure' cs h
  | .fn _ cs, h => by simp only [LV.pure] at h; simp only [LV.refs]; exact refsL_pure' cs h
  | .bfn _ cs, h => by simp only [LV.pure] at h; simp only [LV.refs]; exact refsL_pure' cs h
theorem refsL_pure' : ∀ (xs : List LV), LV.pureL xs = true → LV.refsL xs = []
  | [], _ => by simp [LV.refsL]
  | x :: xs, h => by
    simp only [LV.pureL, Bool.and_eq_true] at h
    simp only [LV.refsL, refs_pure x h.1, refsL_pure' xs h.2, List.append_nil]
end
theorem refsL_pure {xs : List LV} (h : LV.pureL xs = true) : LV.refsL xs = [] := refsL_pure' xs h
end
end Go.L
