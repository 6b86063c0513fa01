/- A logic over logical memory, part 2: owned memory, how it grows, and the frame of a call. -/
import Derived.Test.YtapnjifcfljmmaaLa
set_option linter.unusedVariables false
namespace Go.L

/-- a slice that its element owns (or a hole) -/
def OwnC (c : Cx) (e k : Nat) (x : LV) (v : Value) (bs : List Nat) : Prop :=
  (x = .und ∧ bs = []) ∨ ∃ ys us, x = .lst k ys ∧ 0 < k ∧ c.w.ownsRow 0 e k v ys.length (flat us) ∧ RepL c ys us ∧ (∀ u ∈ us, u.cells.size = k ∧ ∀ y ∈ u.cells, y.oneCell' = true) ∧ LV.pureL ys = true ∧ bs = v.ownBlock.toList
def CellN (c : Cx) (os : List (Nat × Nat × Nat)) (o : Nat) (x : LV) (v : Value) (bs : List Nat) : Prop :=
  match os.lookup o with
  | some (e, k) => OwnC c e k x v bs
  | .none => RepV c x v ∧ x.pure = true ∧ bs = []
/-- the cells of an element, from the cell o on; bs: the blocks that they own -/
def RepC (c : Cx) (os : List (Nat × Nat × Nat)) : Nat → List LV → List Value → List Nat → Prop
  | _, [], ws, bs => ws = [] ∧ bs = []
  | o, x :: xs, ws, bs => ∃ w ws' b1 b2, ws = w :: ws' ∧ bs = b1 ++ b2 ∧ CellN c os o x w b1 ∧ RepC c os (o + 1) xs ws' b2
def ElN (c : Cx) (os : List (Nat × Nat × Nat)) (x : LV) (v : Value) (bs : List Nat) : Prop := ∃ cs ws, x = .agg cs ∧ v = .agg ws.toArray ∧ RepC c os 0 cs ws bs
def RepN (c : Cx) (os : List (Nat × Nat × Nat)) : List LV → List Value → List Nat → Prop
  | [], vs, bs => vs = [] ∧ bs = []
  | x :: xs, vs, bs => ∃ v vs' b1 b2, vs = v :: vs' ∧ bs = b1 ++ b2 ∧ ElN c os x v b1 ∧ RepN c os xs vs' b2
def RepE (c : Cx) : Option LE → Option BE → Prop
  | .none, y => y = .none
  | some (.box cs), y => ∃ b vs e, y = some (.box b cs.length) ∧ c.w.heap[b]? = some (.cells vs.toArray e (0, 0)) ∧ RepL c cs vs ∧ ∀ v ∈ vs, v.oneCell' = true
  | some (.arr e k xs), y => ∃ u vs, y = some (.arr u k xs.length []) ∧ 0 < k ∧ c.w.ownsRow 0 e k u xs.length (flat vs) ∧ RepL c xs vs ∧ (∀ v ∈ vs, v.cells.size = k ∧ ∀ y ∈ v.cells, y.oneCell' = true) ∧ LV.pureL xs = true
  | some (.map kt vt es), y => ∃ b es' clock, y = some (.mp b) ∧ c.w.heap[b]? = some (.map es' clock) ∧ RepL c (es.map (·.1)) (es'.toList.map (·.key)) ∧ RepL c (es.map (·.2)) (es'.toList.map (·.val)) ∧ LV.pureL (es.map (·.1)) = true ∧ LV.pureL (es.map (·.2)) = true ∧ (es.map (·.1)).Nodup
  | some (.nest e k os xs), y => ∃ u vs bs, y = some (.arr u k xs.length bs) ∧ 0 < k ∧ c.w.ownsRow 0 e k u xs.length (flat vs) ∧ RepN c os xs vs bs ∧ (∀ v ∈ vs, v.cells.size = k ∧ ∀ y ∈ v.cells, y.oneCell' = true) ∧ bs.Nodup ∧ ∀ b, u.ownBlock = some b → b ∉ bs
  | some .dead, y => ∃ u k len, y = some (.arr u k len []) ∧ u.ownBlock = Option.none

theorem ownsRow_same {w w' : World} {base e k n : Nat} {u : Value} {vs : List Value} (h : w.ownsRow base e k u n vs) (hb : ∀ b, u.ownBlock = some b → w'.heap[b]? = w.heap[b]?) : w'.ownsRow base e k u n vs := by
  refine ⟨h.1, ?_⟩
  rcases h.2 with hn | ⟨g, cap, cur, rfl, h1, h2, rest⟩
  · exact .inl hn
  · exact .inr ⟨g, cap, cur, rfl, h1, (hb g rfl).trans h2, rest⟩
theorem OwnC.mono {c c' : Cx} (hle : c.Le c') {e k : Nat} {x : LV} {v : Value} {bs : List Nat} (hh : ∀ b ∈ bs, c'.w.heap[b]? = c.w.heap[b]?) (h : OwnC c e k x v bs) : OwnC c' e k x v bs := by
  rcases h with h | ⟨ys, us, h1, h0, h2, h3, h4, h5, h6⟩
  · exact .inl h
  · refine .inr ⟨ys, us, h1, h0, ownsRow_same h2 (fun b hb => hh b (by rw [h6, hb]; simp)), RepL.mono hle ys us (fun id hid => by rw [norefL_of_pureL ys h5] at hid; cases hid) h3, h4, h5, h6⟩
theorem OwnC.lt {c : Cx} {e k : Nat} {x : LV} {v : Value} {bs : List Nat} (h : OwnC c e k x v bs) : ∀ b ∈ bs, b < c.w.heap.size := by
  rcases h with ⟨_, rfl⟩ | ⟨ys, us, h1, h0, h2, h3, h4, h5, rfl⟩
  · simp
  · intro b hb
    have : v.ownBlock = some b := by simpa using hb
    exact (h2.lt b this).2
theorem CellN.mono {c c' : Cx} (hle : c.Le c') {os : List (Nat × Nat × Nat)} {o : Nat} {x : LV} {v : Value} {bs : List Nat} (hh : ∀ b ∈ bs, c'.w.heap[b]? = c.w.heap[b]?) (h : CellN c os o x v bs) : CellN c' os o x v bs := by
  unfold CellN at *
  split
  · rename_i e k he
    rw [he] at h
    exact OwnC.mono hle hh h
  · rename_i he
    rw [he] at h
    exact ⟨RepV.mono hle x v (fun id hid => by rw [noref_of_pure x h.2.1] at hid; cases hid) h.1, h.2⟩
theorem CellN.lt {c : Cx} {os : List (Nat × Nat × Nat)} {o : Nat} {x : LV} {v : Value} {bs : List Nat} (h : CellN c os o x v bs) : ∀ b ∈ bs, b < c.w.heap.size := by
  unfold CellN at h
  split at h
  · exact OwnC.lt h
  · rw [h.2.2]; simp
theorem RepC.mono {c c' : Cx} (hle : c.Le c') {os : List (Nat × Nat × Nat)} : ∀ {o : Nat} {xs : List LV} {ws : List Value} {bs : List Nat}, (∀ b ∈ bs, c'.w.heap[b]? = c.w.heap[b]?) → RepC c os o xs ws bs → RepC c' os o xs ws bs
  | _, [], _, _, _, h => by simpa only [RepC] using h
  | o, x :: xs, ws, bs, hh, h => by
    simp only [RepC] at h ⊢
    obtain ⟨w, ws', b1, b2, rfl, rfl, h1, h2⟩ := h
    exact ⟨w, ws', b1, b2, rfl, rfl, h1.mono hle (fun b hb => hh b (by simp [hb])), RepC.mono hle (fun b hb => hh b (by simp [hb])) h2⟩
theorem RepC.lt {c : Cx} {os : List (Nat × Nat × Nat)} : ∀ {o : Nat} {xs : List LV} {ws : List Value} {bs : List Nat}, RepC c os o xs ws bs → ∀ b ∈ bs, b < c.w.heap.size
  | _, [], _, _, h => by simp only [RepC] at h; rw [h.2]; simp
  | o, x :: xs, ws, bs, h => by
    simp only [RepC] at h
    obtain ⟨w, ws', b1, b2, rfl, rfl, h1, h2⟩ := h
    intro b hb
    rcases List.mem_append.1 hb with hb | hb
    · exact h1.lt b hb
    · exact RepC.lt h2 b hb
theorem RepN.mono {c c' : Cx} (hle : c.Le c') {os : List (Nat × Nat × Nat)} : ∀ {xs : List LV} {vs : List Value} {bs : List Nat}, (∀ b ∈ bs, c'.w.heap[b]? = c.w.heap[b]?) → RepN c os xs vs bs → RepN c' os xs vs bs
  | [], _, _, _, h => by simpa only [RepN] using h
  | x :: xs, vs, bs, hh, h => by
    simp only [RepN] at h ⊢
    obtain ⟨v, vs', b1, b2, rfl, rfl, ⟨cs, ws, rfl, hv, h1⟩, h2⟩ := h
    exact ⟨v, vs', b1, b2, rfl, rfl, ⟨cs, ws, rfl, hv, h1.mono hle (fun b hb => hh b (by simp [hb]))⟩, RepN.mono hle (fun b hb => hh b (by simp [hb])) h2⟩
theorem RepN.lt {c : Cx} {os : List (Nat × Nat × Nat)} : ∀ {xs : List LV} {vs : List Value} {bs : List Nat}, RepN c os xs vs bs → ∀ b ∈ bs, b < c.w.heap.size
  | [], _, _, h => by simp only [RepN] at h; rw [h.2]; simp
  | x :: xs, vs, bs, h => by
    simp only [RepN] at h
    obtain ⟨v, vs', b1, b2, rfl, rfl, ⟨cs, ws, rfl, hv, h1⟩, h2⟩ := h
    intro b hb
    rcases List.mem_append.1 hb with hb | hb
    · exact h1.lt b hb
    · exact RepN.lt h2 b hb
theorem RepN.length {c : Cx} {os : List (Nat × Nat × Nat)} : ∀ {xs : List LV} {vs : List Value} {bs : List Nat}, RepN c os xs vs bs → xs.length = vs.length
  | [], _, _, h => by simp only [RepN] at h; simp [h.1]
  | x :: xs, vs, bs, h => by
    simp only [RepN] at h
    obtain ⟨v, vs', b1, b2, rfl, rfl, _, h2⟩ := h
    simp [RepN.length h2]

structure RepM (c : Cx) (m : Mem) : Prop where
  ent : ∀ id, RepE c (m id) (c.B id)
  inj : ∀ id id' be be' b, c.B id = some be → c.B id' = some be' → be.has b → be'.has b → id = id'
  notO : ∀ b, c.own b → ¬ c.O b
  Olt : ∀ b, c.O b → b < c.w.heap.size

theorem RepE.lt {c : Cx} {x : Option LE} {y : Option BE} (h : RepE c x y) {be : BE} {b : Nat} (hy : y = some be) (hb : be.has b) : b < c.w.heap.size := by
  match x with
  | .none => simp [RepE] at h; rw [h] at hy; cases hy
  | some (.box cs) =>
    simp only [RepE] at h
    obtain ⟨b', vs, e, rfl, hh, _⟩ := h
    cases hy
    simp only [BE.has] at hb
    subst hb
    exact (Array.getElem?_eq_some_iff.1 hh).1
  | some (.arr e k xs) =>
    simp only [RepE] at h
    obtain ⟨u, vs, rfl, hk, hown, _⟩ := h
    cases hy
    have hb' : u.ownBlock = some b := by simpa [BE.has] using hb
    exact (hown.lt b hb').2
  | some (.nest e k os xs) =>
    simp only [RepE] at h
    obtain ⟨u, vs, bs, rfl, hk, hown, hn, _⟩ := h
    cases hy
    rcases hb with hb | hb
    · exact (hown.lt b hb).2
    · exact hn.lt b hb
  | some .dead =>
    simp only [RepE] at h
    obtain ⟨u, k, len, rfl, hu⟩ := h
    cases hy
    rcases hb with hb | hb
    · rw [hu] at hb; cases hb
    · cases hb
  | some (.map kt vt es) =>
    simp only [RepE] at h
    obtain ⟨b', es', ck, rfl, hh, _⟩ := h
    cases hy
    simp only [BE.has] at hb
    subst hb
    exact (Array.getElem?_eq_some_iff.1 hh).1

theorem RepM.own_lt {c : Cx} {m : Mem} (h : RepM c m) {b : Nat} (ho : c.own b) : b < c.w.heap.size := by
  obtain ⟨id, be, h1, h2⟩ := ho
  exact (h.ent id).lt h1 h2

theorem RepM.fresh {c : Cx} {m : Mem} (h : RepM c m) {id : Nat} (hm : m id = .none) : c.B id = .none := by
  have := h.ent id
  rw [hm] at this
  exact this

structure Grow (pr : Nat → Prop) (c c' : Cx) : Prop where
  O : c'.O = c.O
  os : c'.w.os = c.w.os
  tape : c'.w.tape = c.w.tape
  output : c'.w.output = c.w.output
  drawn : c.w.drawn ≤ c'.w.drawn
  size : c.w.heap.size ≤ c'.w.heap.size
  keep : ∀ b, b < c.w.heap.size → ¬ c.own b → c'.w.heap[b]? = c.w.heap[b]?
  own : ∀ b, c'.own b → c.own b ∨ c.w.heap.size ≤ b
  prot : ∀ id be, pr id → c.B id = some be → ∃ be', c'.B id = some be' ∧ be.Same be'

theorem Grow.refl (pr : Nat → Prop) (c : Cx) : Grow pr c c :=
  ⟨rfl, rfl, rfl, rfl, Nat.le_refl _, Nat.le_refl _, fun _ _ _ => rfl, fun _ h => .inl h, fun _ be _ h => ⟨be, h, .refl be⟩⟩

theorem Grow.trans {pr : Nat → Prop} {a b c : Cx} (h : Grow pr a b) (k : Grow pr b c) : Grow pr a c where
  O := k.O.trans h.O
  os := k.os.trans h.os
  tape := k.tape.trans h.tape
  output := k.output.trans h.output
  drawn := Nat.le_trans h.drawn k.drawn
  size := Nat.le_trans h.size k.size
  keep := fun x hx ho => (k.keep x (Nat.lt_of_lt_of_le hx h.size) (fun hb => (h.own x hb).elim ho (fun hs => absurd hx (by omega)))).trans (h.keep x hx ho)
  own := fun x hx => (k.own x hx).elim (h.own x) (fun hs => .inr (Nat.le_trans h.size hs))
  prot := fun id be hp hb => by
    obtain ⟨be1, h1, h2⟩ := h.prot id be hp hb
    obtain ⟨be2, h3, h4⟩ := k.prot id be1 hp h1
    exact ⟨be2, h3, h2.trans h4⟩

theorem Grow.le {pr : Nat → Prop} {c c' : Cx} (h : Grow pr c c') : c.Le c' where
  size := h.size
  heap := fun b hb hX => ⟨h.keep b hb (fun ho => hX (.inr ho)), fun hX' => by
    rcases hX' with hO | ho
    · rw [h.O] at hO; exact hX (.inl hO)
    · rcases h.own b ho with ho | hs
      · exact hX (.inr ho)
      · omega⟩

/-- One step: it grows, and no id is dropped. -/
structure Step (pr : Nat → Prop) (c c' : Cx) : Prop where
  grow : Grow pr c c'
  ble : ∀ id, BLe (c.B id) (c'.B id)

theorem Step.refl (pr : Nat → Prop) (c : Cx) : Step pr c c := ⟨.refl pr c, fun _ => .refl _⟩
theorem Step.trans {pr : Nat → Prop} {a b c : Cx} (h : Step pr a b) (k : Step pr b c) : Step pr a c := ⟨h.grow.trans k.grow, fun id => (h.ble id).trans (k.ble id)⟩
theorem Step.repV {pr : Nat → Prop} {c c' : Cx} (h : Step pr c c') {x : LV} {v : Value} (hr : RepV c x v) : RepV c' x v := RepV.mono h.grow.le x v (fun id _ => h.ble id) hr
theorem Step.repL {pr : Nat → Prop} {c c' : Cx} (h : Step pr c c') {x : List LV} {v : List Value} (hr : RepL c x v) : RepL c' x v := RepL.mono h.grow.le x v (fun id _ => h.ble id) hr

theorem RepE.mono {c c' : Cx} (hle : c.Le c') (hB : ∀ id, BLe (c.B id) (c'.B id)) {x : Option LE} {y : Option BE} (hh : ∀ be b, y = some be → be.has b → c'.w.heap[b]? = c.w.heap[b]?) (h : RepE c x y) : RepE c' x y := by
  match x with
  | .none => simpa only [RepE] using h
  | some (.box cs) =>
    simp only [RepE] at h ⊢
    obtain ⟨b, vs, e, rfl, h1, h2, h3⟩ := h
    exact ⟨b, vs, e, rfl, (hh _ b rfl rfl).trans h1, RepL.mono hle cs vs (fun id _ => hB id) h2, h3⟩
  | some (.arr e k xs) =>
    simp only [RepE] at h ⊢
    obtain ⟨u, vs, rfl, h0, h1, h2, h3⟩ := h
    exact ⟨u, vs, rfl, h0, ownsRow_same h1 (fun b hb => hh _ b rfl (.inl hb)), RepL.mono hle xs vs (fun id _ => hB id) h2, h3⟩
  | some (.nest e k os xs) =>
    simp only [RepE] at h ⊢
    obtain ⟨u, vs, bs, rfl, h0, h1, h2, h3⟩ := h
    exact ⟨u, vs, bs, rfl, h0, ownsRow_same h1 (fun b hb => hh _ b rfl (.inl hb)), h2.mono hle (fun b hb => hh _ b rfl (.inr hb)), h3⟩
  | some .dead => simpa only [RepE] using h
  | some (.map kt vt es) =>
    simp only [RepE] at h ⊢
    obtain ⟨b, es', ck, rfl, h1, h2, h3, h4⟩ := h
    exact ⟨b, es', ck, rfl, (hh _ b rfl rfl).trans h1, RepL.mono hle _ _ (fun id _ => hB id) h2, RepL.mono hle _ _ (fun id _ => hB id) h3, h4⟩

/-- The memory of one id is made, or turned; all else stands. -/
theorem RepM.upd {pr : Nat → Prop} {c : Cx} {m : Mem} (h : RepM c m) (id : Nat) (le : LE) (be : BE) (w' : World)
    (hos : w'.os = c.w.os) (htape : w'.tape = c.w.tape) (hout : w'.output = c.w.output) (hdr : c.w.drawn ≤ w'.drawn) (hsize : c.w.heap.size ≤ w'.heap.size)
    (hkeep : ∀ b, b < c.w.heap.size → (∀ be0, c.B id = some be0 → ¬ be0.has b) → w'.heap[b]? = c.w.heap[b]?)
    (hblk : ∀ b, be.has b → (∃ be0, c.B id = some be0 ∧ be0.has b) ∨ c.w.heap.size ≤ b)
    (hle : BLe (c.B id) (some be)) (hpr : pr id → ∀ be0, c.B id = some be0 → be0.Same be)
    (hent : ∀ c' : Cx, c'.w = w' → c.Le c' → (∀ i, BLe (c.B i) (c'.B i)) → RepE c' (some le) (some be)) :
    ∃ c' : Cx, c'.w = w' ∧ c'.B id = some be ∧ RepM c' (m.put id le) ∧ Step pr c c' := by
  let c' : Cx := ⟨w', fun i => if i = id then some be else c.B i, c.O⟩
  have hown : ∀ b, c'.own b → c.own b ∨ c.w.heap.size ≤ b := by
    rintro b ⟨i, be', h1, h2⟩
    by_cases hi : i = id
    · simp only [c', hi, if_true] at h1
      cases h1
      rcases hblk b h2 with ⟨be0, h3, h4⟩ | hs
      · exact .inl ⟨id, be0, h3, h4⟩
      · exact .inr hs
    · simp only [c', hi, if_false] at h1
      exact .inl ⟨i, be', h1, h2⟩
  have hgrow : Grow pr c c' := by
    refine ⟨rfl, hos, htape, hout, hdr, hsize, fun b hb ho => hkeep b hb (fun be0 h0 h1 => ho ⟨id, be0, h0, h1⟩), hown, fun i be' hp hb => ?_⟩
    by_cases hi : i = id
    · subst hi; exact ⟨be, by simp only [c', if_true], hpr hp be' hb⟩
    · exact ⟨be', by simp only [c', hi, if_false]; exact hb, .refl be'⟩
  have hble : ∀ i, BLe (c.B i) (c'.B i) := by
    intro i
    by_cases hi : i = id
    · subst hi; simpa only [c', if_true] using hle
    · simp only [c', hi, if_false]; exact BLe.refl _
  refine ⟨c', rfl, by simp [c'], ⟨fun i => ?_, ?_, ?_, ?_⟩, hgrow, hble⟩
  · by_cases hi : i = id
    · subst hi; simp only [c', Mem.put, if_true]; exact hent c' rfl hgrow.le hble
    · simp only [Mem.put, hi, if_false]
      have : c'.B i = c.B i := by simp [c', hi]
      rw [this]
      refine (h.ent i).mono hgrow.le hble fun be' b hb hbb => ?_
      refine hkeep b ((h.ent i).lt hb hbb) fun be0 h0 h1 => ?_
      exact hi (h.inj i id be' be0 b hb h0 hbb h1)
  · intro i i' b1 b2 b h1 h2 h3 h4
    by_cases hi : i = id <;> by_cases hi' : i' = id
    · rw [hi, hi']
    · simp only [c', hi, if_true] at h1
      simp only [c', hi', if_false] at h2
      cases h1
      rcases hblk b h3 with ⟨be0, h5, h6⟩ | hs
      · rw [hi]; exact h.inj id i' be0 b2 b h5 h2 h6 h4
      · have := (h.ent i').lt h2 h4; omega
    · simp only [c', hi, if_false] at h1
      simp only [c', hi', if_true] at h2
      cases h2
      rcases hblk b h4 with ⟨be0, h5, h6⟩ | hs
      · rw [hi']; exact h.inj i id b1 be0 b h1 h5 h3 h6
      · have := (h.ent i).lt h1 h3; omega
    · simp only [c', hi, if_false] at h1
      simp only [c', hi', if_false] at h2
      exact h.inj i i' b1 b2 b h1 h2 h3 h4
  · intro b ho hO
    rcases hown b ho with ho | hs
    · exact h.notO b ho hO
    · have := h.Olt b hO; omega
  · intro b hO; exact Nat.lt_of_lt_of_le (h.Olt b hO) hsize

/-- The world grows by blocks that nobody owns. -/
theorem RepM.ext {pr : Nat → Prop} {c : Cx} {m : Mem} (h : RepM c m) (w' : World)
    (hos : w'.os = c.w.os) (htape : w'.tape = c.w.tape) (hout : w'.output = c.w.output) (hdr : c.w.drawn ≤ w'.drawn) (hsize : c.w.heap.size ≤ w'.heap.size)
    (hkeep : ∀ b, b < c.w.heap.size → w'.heap[b]? = c.w.heap[b]?) :
    RepM ⟨w', c.B, c.O⟩ m ∧ Step pr c ⟨w', c.B, c.O⟩ := by
  have hgrow : Grow pr c ⟨w', c.B, c.O⟩ := ⟨rfl, hos, htape, hout, hdr, hsize, fun b hb _ => hkeep b hb, fun b ho => .inl ho, fun _ be _ hb => ⟨be, hb, .refl be⟩⟩
  refine ⟨⟨fun i => ?_, h.inj, h.notO, fun b hO => Nat.lt_of_lt_of_le (h.Olt b hO) hsize⟩, hgrow, fun i => BLe.refl _⟩
  exact (h.ent i).mono hgrow.le (fun i => BLe.refl _) fun be b hb hbb => hkeep b ((h.ent i).lt hb hbb)

theorem RepM.newX {c : Cx} {m : Mem} (h : RepM c m) {b : Nat} (hb : c.w.heap.size ≤ b) : ¬ c.X b := by
  rintro (hO | ho)
  · have := h.Olt b hO; omega
  · have := h.own_lt ho; omega

/-- What a call does: from the memory m, of which it gets the pieces it may turn, to a result and a memory. -/
def LCall (P : Program) (f : Nat) (args : List LV) (m : Mem) (lv : LV) (m' : Mem) : Prop :=
  ∀ (c : Cx) (vs : List Value), RepM c m → RepL c args vs →
    Calls P f vs.toArray c.w fun en w' => ∃ v c', en = .returned v ∧ c'.w = w' ∧ RepM c' m' ∧ RepV c' lv v ∧ Grow (fun id => m id ≠ .none) c c'

def Mem.over (m mc : Mem) : Mem := fun i => match mc i with | some x => some x | .none => m i

theorem LCall.frame {P : Program} {f : Nat} {args : List LV} {mc mc' m : Mem} {lv : LV} (h : LCall P f args mc lv mc')
    (hsub : ∀ id, mc id ≠ .none → m id = mc id) (hnew : ∀ id, mc id = .none → mc' id ≠ .none → m id = .none)
    (hargs : ∀ id, LV.norefL id args = false → mc id ≠ .none) (hbox : ∀ id cs, mc id = some (.box cs) → ∀ j, LV.norefL j cs = false → mc j ≠ .none)
    (pr : Nat → Prop) (c : Cx) (vs : List Value) (hm : RepM c m) (ha : RepL c args vs) :
    Calls P f vs.toArray c.w fun en w' => ∃ v c', en = .returned v ∧ c'.w = w' ∧ RepM c' (m.over mc') ∧ RepV c' lv v ∧ Step pr c c' := by
  classical
  let c0 : Cx := ⟨c.w, fun id => if mc id = .none then .none else c.B id, fun b => c.O b ∨ ∃ id be, mc id = .none ∧ c.B id = some be ∧ be.has b⟩
  have hX : ∀ b, c0.X b ↔ c.X b := by
    intro b
    constructor
    · rintro ((hO | ⟨id, be, _, h2, h3⟩) | ⟨id, be, h2, h3⟩)
      · exact .inl hO
      · exact .inr ⟨id, be, h2, h3⟩
      · by_cases hi : mc id = .none
        · simp [c0, hi] at h2
        · simp only [c0, hi, if_false] at h2; exact .inr ⟨id, be, h2, h3⟩
    · rintro (hO | ⟨id, be, h2, h3⟩)
      · exact .inl (.inl hO)
      · by_cases hi : mc id = .none
        · exact .inl (.inr ⟨id, be, hi, h2, h3⟩)
        · exact .inr ⟨id, be, by simp [c0, hi, h2], h3⟩
  have hle0 : c.Le c0 := ⟨Nat.le_refl _, fun b _ hx => ⟨rfl, fun hx' => hx ((hX b).1 hx')⟩⟩
  have hB0 : ∀ id, mc id ≠ .none → BLe (c.B id) (c0.B id) := fun id hi => by simp only [c0, hi, if_false]; exact BLe.refl _
  have hm0 : RepM c0 mc := by
    refine ⟨fun id => ?_, ?_, ?_, ?_⟩
    · by_cases hi : mc id = .none
      · rw [hi]; simp [RepE, c0, hi]
      · have he := hm.ent id
        rw [hsub id hi] at he
        have hb : c0.B id = c.B id := by simp [c0, hi]
        rw [hb]
        cases hx : mc id with
        | none => exact absurd hx hi
        | some le =>
          rw [hx] at he
          cases le with
          | box cs =>
            simp only [RepE] at he ⊢
            obtain ⟨b, us, e, h1, h2, h3, h4⟩ := he
            exact ⟨b, us, e, h1, h2, RepL.mono hle0 cs us (fun j hj => hB0 j (hbox id cs hx j hj)) h3, h4⟩
          | arr e k xs =>
            simp only [RepE] at he ⊢
            obtain ⟨u, us, h1, h0, h2, h3, h4, h5⟩ := he
            exact ⟨u, us, h1, h0, h2, RepL.mono hle0 xs us (fun j hj => by rw [norefL_of_pureL xs h5] at hj; cases hj) h3, h4, h5⟩
          | nest e k os xs =>
            simp only [RepE] at he ⊢
            obtain ⟨u, us, bs, h1, h0, h2, h3, h4⟩ := he
            exact ⟨u, us, bs, h1, h0, h2, h3.mono hle0 (fun b _ => rfl), h4⟩
          | dead => simpa only [RepE] using he
          | map kt vt es =>
            simp only [RepE] at he ⊢
            obtain ⟨b, es', ck, h1, h2, h3, h4, h5, h6, h7⟩ := he
            exact ⟨b, es', ck, h1, h2, RepL.mono hle0 _ _ (fun j hj => by rw [norefL_of_pureL _ h5] at hj; cases hj) h3, RepL.mono hle0 _ _ (fun j hj => by rw [norefL_of_pureL _ h6] at hj; cases hj) h4, h5, h6, h7⟩
    · intro i i' be be' b h1 h2 h3 h4
      by_cases hi : mc i = .none
      · simp [c0, hi] at h1
      · by_cases hi' : mc i' = .none
        · simp [c0, hi'] at h2
        · simp only [c0, hi, hi', if_false] at h1 h2; exact hm.inj i i' be be' b h1 h2 h3 h4
    · rintro b ⟨id, be, h1, h2⟩ hO
      by_cases hi : mc id = .none
      · simp [c0, hi] at h1
      · simp only [c0, hi, if_false] at h1
        rcases hO with hO | ⟨j, be', h3, h4, h5⟩
        · exact hm.notO b ⟨id, be, h1, h2⟩ hO
        · have := hm.inj id j be be' b h1 h4 h2 h5
          subst this; exact hi h3
    · rintro b (hO | ⟨j, be', h3, h4, h5⟩)
      · exact hm.Olt b hO
      · exact hm.own_lt ⟨j, be', h4, h5⟩
  have ha0 : RepL c0 args vs := RepL.mono hle0 args vs (fun id hid => hB0 id (hargs id hid)) ha
  refine (h c0 vs hm0 ha0).mono ?_
  rintro en w' ⟨v, c1, rfl, rfl, hm1, hv1, hg⟩
  have hkeepB : ∀ id, mc id ≠ .none → ∃ be be', c.B id = some be ∧ c1.B id = some be' ∧ be.Same be' := by
    intro id hi
    have he := hm0.ent id
    cases hx : mc id with
    | none => exact absurd hx hi
    | some le =>
      have hb : c0.B id = c.B id := by simp [c0, hi]
      cases hbe : c0.B id with
      | none => rw [hx, hbe] at he; cases le <;> simp [RepE] at he
      | some be =>
        obtain ⟨be', h1, h2⟩ := hg.prot id be hi hbe
        exact ⟨be, be', by rw [← hb]; exact hbe, h1, h2⟩
  have hkeepM : ∀ id, mc id ≠ .none → mc' id ≠ .none := by
    intro id hi hi'
    have he := hm1.ent id
    rw [hi'] at he
    simp only [RepE] at he
    obtain ⟨be, be', _, h2, _⟩ := hkeepB id hi
    rw [he] at h2; cases h2
  have hfr : ∀ id be, c.B id = some be → mc id = .none → mc' id = .none := by
    intro id be hb hi
    by_cases hi' : mc' id = .none
    · exact hi'
    · have := hm.fresh (hnew id hi hi'); rw [this] at hb; cases hb
  let c' : Cx := ⟨c1.w, fun id => if mc' id = .none then c.B id else c1.B id, c.O⟩
  have hX' : ∀ b, c'.X b ↔ c1.X b := by
    intro b
    constructor
    · rintro (hO | ⟨id, be, h2, h3⟩)
      · exact .inl (by rw [hg.O]; exact .inl hO)
      · by_cases hi : mc' id = .none
        · simp only [c', hi, if_true] at h2
          have hn : mc id = .none := by
            cases hx : mc id with
            | none => rfl
            | some le => exact absurd hi (hkeepM id (by simp [hx]))
          exact .inl (by rw [hg.O]; exact .inr ⟨id, be, hn, h2, h3⟩)
        · simp only [c', hi, if_false] at h2; exact .inr ⟨id, be, h2, h3⟩
    · rintro (hO | ⟨id, be, h2, h3⟩)
      · rw [hg.O] at hO
        rcases hO with hO | ⟨id, be, h1, h2, h3⟩
        · exact .inl hO
        · exact .inr ⟨id, be, by simp [c', hfr id be h2 h1, h2], h3⟩
      · refine .inr ⟨id, be, ?_, h3⟩
        have : mc' id ≠ .none := fun hn => by have := hm1.fresh hn; rw [this] at h2; cases h2
        simp [c', this, h2]
  have hle1 : c1.Le c' := ⟨Nat.le_refl _, fun b _ hx => ⟨rfl, fun hx' => hx ((hX' b).1 hx')⟩⟩
  have hB1 : ∀ id, BLe (c1.B id) (c'.B id) := by
    intro id
    by_cases hi : mc' id = .none
    · rw [hm1.fresh hi]; trivial
    · simp only [c', hi, if_false]; exact BLe.refl _
  have hBc : ∀ id be, c.B id = some be → ∃ be', c'.B id = some be' ∧ be.Same be' := by
    intro id be hb
    by_cases hi : mc' id = .none
    · exact ⟨be, by simp [c', hi, hb], .refl be⟩
    · simp only [c', hi, if_false]
      by_cases hc : mc id = .none
      · have := hfr id be hb hc; exact absurd this hi
      · obtain ⟨be1, be', h1, h2, h3⟩ := hkeepB id hc
        rw [hb] at h1; cases h1
        exact ⟨be', h2, h3⟩
  have hgrow : Grow pr c c' := by
    refine ⟨rfl, hg.os, hg.tape, hg.output, hg.drawn, hg.size, fun b hb ho => hg.keep b hb ?_, ?_, fun id be _ hb => hBc id be hb⟩
    · rintro ⟨id, be, h1, h2⟩
      by_cases hi : mc id = .none
      · simp [c0, hi] at h1
      · simp only [c0, hi, if_false] at h1; exact ho ⟨id, be, h1, h2⟩
    · rintro b ⟨id, be, h1, h2⟩
      by_cases hi : mc' id = .none
      · simp only [c', hi, if_true] at h1; exact .inl ⟨id, be, h1, h2⟩
      · simp only [c', hi, if_false] at h1
        rcases hg.own b ⟨id, be, h1, h2⟩ with ⟨j, be', h3, h4⟩ | hs
        · by_cases hj : mc j = .none
          · simp [c0, hj] at h3
          · simp only [c0, hj, if_false] at h3; exact .inl ⟨j, be', h3, h4⟩
        · exact .inr hs
  have hble : ∀ id, BLe (c.B id) (c'.B id) := by
    intro id
    cases hb : c.B id with
    | none => trivial
    | some be =>
      obtain ⟨be', h1, h2⟩ := hBc id be hb
      rw [h1]
      cases be with
      | box b n => simp only [BE.Same] at h2; subst h2; exact BLe.refl _
      | arr u k len ins => simp only [BE.Same] at h2; obtain ⟨ins', rfl⟩ := h2; exact ⟨_, _, _, rfl, Nat.le_refl _, fun _ => rfl⟩
      | mp b => simp only [BE.Same] at h2; subst h2; exact BLe.refl _
  refine ⟨v, c', rfl, rfl, ⟨fun id => ?_, ?_, ?_, ?_⟩, RepV.mono hle1 lv v (fun id _ => hB1 id) hv1, hgrow, hble⟩
  · by_cases hi : mc' id = .none
    · have hb : c'.B id = c.B id := by simp [c', hi]
      have hmo : m.over mc' id = m id := by simp [Mem.over, hi]
      rw [hmo, hb]
      refine (hm.ent id).mono hgrow.le hble fun be b h1 h2 => ?_
      refine hg.keep b ((hm.ent id).lt h1 h2) ?_
      rintro ⟨j, be', h3, h4⟩
      by_cases hj : mc j = .none
      · simp [c0, hj] at h3
      · simp only [c0, hj, if_false] at h3
        have := hm.inj id j be be' b h1 h3 h2 h4
        subst this
        exact absurd hi (hkeepM id hj)
    · have hb : c'.B id = c1.B id := by simp [c', hi]
      cases hx : mc' id with
      | none => exact absurd hx hi
      | some le =>
        have hmo : m.over mc' id = mc' id := by simp [Mem.over, hx]
        rw [hmo, hb]
        exact (hm1.ent id).mono hle1 hB1 fun _ _ _ _ => rfl
  · intro i i' be be' b h1 h2 h3 h4
    by_cases hi : mc' i = .none <;> by_cases hi' : mc' i' = .none
    · simp only [c', hi, hi', if_true] at h1 h2; exact hm.inj i i' be be' b h1 h2 h3 h4
    · simp only [c', hi, if_true] at h1
      simp only [c', hi', if_false] at h2
      refine absurd ?_ (hm1.notO b ⟨i', be', h2, h4⟩)
      rw [hg.O]
      refine .inr ⟨i, be, ?_, h1, h3⟩
      cases hx : mc i with
      | none => rfl
      | some le => exact absurd hi (hkeepM i (by simp [hx]))
    · simp only [c', hi, if_false] at h1
      simp only [c', hi', if_true] at h2
      refine absurd ?_ (hm1.notO b ⟨i, be, h1, h3⟩)
      rw [hg.O]
      refine .inr ⟨i', be', ?_, h2, h4⟩
      cases hx : mc i' with
      | none => rfl
      | some le => exact absurd hi' (hkeepM i' (by simp [hx]))
    · simp only [c', hi, hi', if_false] at h1 h2; exact hm1.inj i i' be be' b h1 h2 h3 h4
  · rintro b ⟨id, be, h1, h2⟩ hO
    by_cases hi : mc' id = .none
    · simp only [c', hi, if_true] at h1; exact hm.notO b ⟨id, be, h1, h2⟩ hO
    · simp only [c', hi, if_false] at h1; exact hm1.notO b ⟨id, be, h1, h2⟩ (by rw [hg.O]; exact .inl hO)
  · intro b hO; exact Nat.lt_of_lt_of_le (hm.Olt b hO) hg.size

end Go.L
