/- A logic over logical memory, part 18: steps by meaning; maps. -/
import Derived.Test.YtapnjifcfljmmaaLt
import Derived.WideKeyElems
set_option linter.unusedVariables false
set_option linter.unusedSimpArgs false
namespace Go.L
section
variable {P : Program} {N : Nat} {pr : Nat → Prop} {ro : List Nat} {ops : Array Oper} {e : Env} {m m' : Mem} {ev ev' : Operand → LV} {o : Oper} {lv : LV} {l : List Oper} {mds : List Nat} {KE : Env → Mem → Prop}
theorem OpOkR.ok (h : OpOkR P pr o ev m lv m') : OpOk P pr o ev m lv m' := fun c a Q hev hm => h c a Q (fun x _ => hev x) hm
theorem OpOkR.value (h : ∀ (c : Cx) (a : Act), (∀ x ∈ o.op.operands, RepV c (ev x) (a.eval x)) → RepM c m → ∃ v c', (execOp a.eval o).run P c.w = .ok (.value v) c'.w ∧ RepV c' lv v ∧ RepM c' m' ∧ Step pr c c') : OpOkR P pr o ev m lv m' := by
  intro c a Q hev hm
  obtain ⟨v, c', hr, h1, h2, h3⟩ := h c a hev hm
  unfold Oper.wp
  rw [hr]
  exact ⟨v, c', rfl, rfl, h1, h2, h3⟩
/-- an operation with no result -/
theorem OpOkR.skip (hd : o.dst = .none) (h : ∀ (c : Cx) (a : Act), (∀ x ∈ o.op.operands, RepV c (ev x) (a.eval x)) → RepM c m → ∃ c', (execOp a.eval o).run P c.w = .ok .skip c'.w ∧ RepM c' m' ∧ Step pr c c') : OpOkR P pr o ev m .und m' := by
  intro c a Q hev hm
  obtain ⟨c', hr, h2, h3⟩ := h c a hev hm
  unfold Oper.wp
  rw [hr]
  exact ⟨undef, c', by simp [Act.put, hd], rfl, by simp [RepV], h2, h3⟩
/-- a step by meaning, in a region in its text's order -/
theorem sX {i : Nat} {op : Op} {ty : TypeId} {pos : String} {af : Array Edge} (h : OpOk P pr ⟨some i, op, ty, pos, af, .none⟩ (lev e) m lv m') (hr : SOps P N pr ops l KE (e.put i lv) m') : SOps P N pr ops (⟨some i, op, ty, pos, af, .none⟩ :: l) KE e m := by
  intro hd hl
  obtain ⟨e2, m2, hK, hrest⟩ := hr hd (fun q hq => hl q (by simp [hq]))
  refine ⟨e2, m2, hK, fun c a hrep => ?_⟩
  simp only [wpList]
  rw [if_pos (by simp [Region.wanted])]
  left
  refine Oper.wp_mono ?_ (h c a _ hrep.ev hrep.mem)
  rintro a' w' ⟨v, c', rfl, rfl, hv, hm', hs⟩
  have hrep' : Rep N c' (e.put i lv) m' (a.put (some i) v) := hrep.put (d := some i) hs hm' (hd ⟨some i, op, ty, pos, af, .none⟩ (hl _ (by simp))) hv
  refine wpList_mono _ _ _ _ _ ?_ (hrest c' _ hrep')
  rintro x a'' w'' ⟨hx, c2, hw2, hr2, hg2⟩
  exact ⟨hx, c2, hw2, hr2, hs.grow.trans hg2⟩
theorem sX_ {op : Op} {ty : TypeId} {pos : String} {af : Array Edge} (h : OpOk P pr ⟨.none, op, ty, pos, af, .none⟩ (lev e) m lv m') (hr : SOps P N pr ops l KE e m') : SOps P N pr ops (⟨.none, op, ty, pos, af, .none⟩ :: l) KE e m := by
  intro hd hl
  obtain ⟨e2, m2, hK, hrest⟩ := hr hd (fun q hq => hl q (by simp [hq]))
  refine ⟨e2, m2, hK, fun c a hrep => ?_⟩
  simp only [wpList]
  rw [if_pos (by simp [Region.wanted])]
  left
  refine Oper.wp_mono ?_ (h c a _ hrep.ev hrep.mem)
  rintro a' w' ⟨v, c', ha, rfl, hv, hm', hs⟩
  have hrep' : Rep N c' e m' a' := by rw [ha]; exact hrep.put (d := .none) hs hm' (by simp) hv
  refine wpList_mono _ _ _ _ _ ?_ (hrest c' _ hrep')
  rintro x a'' w'' ⟨hx, c2, hw2, hr2, hg2⟩
  exact ⟨hx, c2, hw2, hr2, hs.grow.trans hg2⟩
/-- .. under a guard that holds -/
theorem sXT {i j q : Nat} {want : Bool} {op : Op} {ty : TypeId} {pos : String} {af : Array Edge} (hj : (ops[j]?).bind (·.dst) = some q) (hg : e q = .bool want) (h : OpOk P pr ⟨some i, op, ty, pos, af, some (j, want)⟩ (lev e) m lv m') (hr : SOps P N pr ops l KE (e.put i lv) m') : SOps P N pr ops (⟨some i, op, ty, pos, af, some (j, want)⟩ :: l) KE e m := by
  intro hd hl
  obtain ⟨e2, m2, hK, hrest⟩ := hr hd (fun q hq => hl q (by simp [hq]))
  refine ⟨e2, m2, hK, fun c a hrep => ?_⟩
  simp only [wpList]
  rw [wanted_of hrep hd rfl hj hg, if_pos (by simp)]
  left
  refine Oper.wp_mono ?_ (h c a _ hrep.ev hrep.mem)
  rintro a' w' ⟨v, c', rfl, rfl, hv, hm', hs⟩
  have hrep' : Rep N c' (e.put i lv) m' (a.put (some i) v) := hrep.put (d := some i) hs hm' (hd ⟨some i, op, ty, pos, af, some (j, want)⟩ (hl _ (by simp))) hv
  refine wpList_mono _ _ _ _ _ ?_ (hrest c' _ hrep')
  rintro x a'' w'' ⟨hx, c2, hw2, hr2, hg2⟩
  exact ⟨hx, c2, hw2, hr2, hs.grow.trans hg2⟩

/- exact values -/
def exactV : LV → Option Value
  | .agg cs => (exactL cs).map fun vs => .agg vs.toArray
  | x => exact1 x
theorem exact1_rep {c : Cx} {x : LV} {u v : Value} (h : exact1 x = some u) (hr : RepV c x v) : v = u := by
  cases x <;> simp [exact1] at h <;> subst h <;> simpa [RepV] using hr
theorem exactL_rep' {c : Cx} : ∀ {xs : List LV} {us vs : List Value}, exactL xs = some us → RepL c xs vs → vs = us
  | [], us, vs, h, hr => by simp [exactL] at h; subst h; simpa [RepL] using hr
  | x :: xs, us, vs, h, hr => by
    simp only [exactL] at h
    split at h
    · rename_i v0 vs0 h1 h2
      cases h
      simp only [RepL] at hr
      obtain ⟨v, vs', rfl, h3, h4⟩ := hr
      rw [exact1_rep h1 h3, exactL_rep' h2 h4]
    · cases h
theorem exactV_rep {c : Cx} {x : LV} {u v : Value} (h : exactV x = some u) (hr : RepV c x v) : v = u := by
  cases x
  case agg cs =>
    simp only [exactV, Option.map_eq_some_iff] at h
    obtain ⟨vs, h1, rfl⟩ := h
    simp only [RepV] at hr
    obtain ⟨us, rfl, h2⟩ := hr
    rw [exactL_rep' h1 h2]
  all_goals (simp only [exactV] at h; exact exact1_rep h hr)
theorem exact1_inj {x y : LV} {u : Value} (h : exact1 x = some u) (h' : exact1 y = some u) : x = y := by
  cases x <;> simp [exact1] at h <;> subst h <;> cases y <;> simp [exact1] at h' <;> simp [h']
theorem exactL_inj : ∀ {xs ys : List LV} {us : List Value}, exactL xs = some us → exactL ys = some us → xs = ys
  | [], ys, us, h, h' => by
    simp [exactL] at h; subst h
    cases ys with
    | nil => rfl
    | cons y ys => simp only [exactL] at h'; split at h' <;> cases h'
  | x :: xs, ys, us, h, h' => by
    simp only [exactL] at h
    split at h
    · rename_i v0 vs0 h1 h2
      cases h
      cases ys with
      | nil => simp [exactL] at h'
      | cons y ys =>
        simp only [exactL] at h'
        split at h'
        · rename_i v1 vs1 h3 h4
          cases h'
          rw [exact1_inj h1 h3, exactL_inj h2 h4]
        · cases h'
    · cases h
theorem exactV_inj {x y : LV} {u : Value} (h : exactV x = some u) (h' : exactV y = some u) : x = y := by
  have a1 : ∀ cs v, (exactL cs).map (fun vs : List Value => Value.agg vs.toArray) = some v → ∃ us, exactL cs = some us ∧ v = .agg us.toArray := fun cs v hv => by
    simp only [Option.map_eq_some_iff] at hv
    obtain ⟨us, h1, h2⟩ := hv; exact ⟨us, h1, h2.symm⟩
  cases x
  case agg cs =>
    obtain ⟨us, h1, rfl⟩ := a1 cs u h
    cases y
    case agg ds =>
      obtain ⟨us', h2, h3⟩ := a1 ds _ h'
      have : us = us' := by simpa using h3
      subst this
      rw [exactL_inj h1 h2]
    all_goals simp [exactV, exact1] at h'
  all_goals
    cases y
    case agg ds =>
      obtain ⟨us', h2, h3⟩ := a1 ds _ h'
      subst h3
      simp [exactV, exact1] at h
    all_goals (simp only [exactV] at h h'; exact exact1_inj h h')

/-- what a map's keys must know -/
structure KOk (P : Program) (k : TypeId) (S : Value → Prop) : Prop where
  check : ∀ (w : World) (em : Bool) (v : Value), S v → (Instr.checkKey em 10000 k v).run P w = .ok () w
  find : ∀ (w : World) (x : Value), S x → ∀ es : List MapEntry, (∀ e ∈ es, S e.key) → ((Instr.findKey k x es).run P w = .ok .none w ∧ ∀ e ∈ es, e.key ≠ x) ∨ ∃ j e, (Instr.findKey k x es).run P w = .ok (some (j, e.val)) w ∧ es[j]? = some e ∧ e.key = x
  stays : ∀ (w : World) (v : Value), S v → (Instr.keyThatStays v v).run P w = .ok v w
def tmap (P : Program) (t : TypeId) : Option (Nat × Nat) := match P.underlying t with | some (.map k v) => some (k, v) | _ => .none
theorem tmap_under {t k v : Nat} (h : tmap P t = some (k, v)) : P.underlying t = some (.map k v) := by
  unfold tmap at h; split at h <;> simp_all

/- maps by lists -/
def mget {α β : Type} [DecidableEq α] : List (α × β) → α → Option β
  | [], _ => .none
  | (a, b) :: r, k => if a = k then some b else mget r k
def mput {α β : Type} [DecidableEq α] : List (α × β) → α → β → List (α × β)
  | [], k, v => [(k, v)]
  | (a, b) :: r, k, v => if a = k then (k, v) :: r else (a, b) :: mput r k v
variable {α β : Type} [DecidableEq α] {f : α → LV} {g : β → LV}
abbrev mlv (f : α → LV) (g : β → LV) (xs : List (α × β)) : List (LV × LV) := xs.map fun p => (f p.1, g p.2)
/-- keys that are exact -/
def KeyF (f : α → LV) (S : Value → Prop) : Prop := (∀ x, ∃ v, exactV (f x) = some v ∧ S v ∧ (f x).pure = true) ∧ ∀ x y, f x = f y → x = y
theorem mget_none {xs : List (α × β)} {k : α} (h : ∀ p ∈ xs, p.1 ≠ k) : mget xs k = .none := by
  induction xs with
  | nil => rfl
  | cons p r ih =>
    obtain ⟨a, b⟩ := p
    simp only [mget]
    rw [if_neg (h (a, b) (by simp)), ih fun q hq => h q (by simp [hq])]
theorem mget_at {xs : List (α × β)} {k : α} {b : β} {j : Nat} (hn : (xs.map (·.1)).Nodup) (h : xs[j]? = some (k, b)) : mget xs k = some b := by
  induction xs generalizing j with
  | nil => simp at h
  | cons p r ih =>
    obtain ⟨a, b'⟩ := p
    simp only [List.map_cons, List.nodup_cons] at hn
    simp only [mget]
    cases j with
    | zero => simp at h; rw [if_pos h.1, h.2]
    | succ j =>
      simp at h
      have : a ≠ k := fun he => hn.1 (by subst he; exact List.mem_map.2 ⟨_, List.mem_of_getElem? h, rfl⟩)
      rw [if_neg this]; exact ih hn.2 h
theorem mput_none {xs : List (α × β)} {k : α} {v : β} (h : ∀ p ∈ xs, p.1 ≠ k) : mput xs k v = xs ++ [(k, v)] := by
  induction xs with
  | nil => rfl
  | cons p r ih =>
    obtain ⟨a, b⟩ := p
    simp only [mput]
    rw [if_neg (h (a, b) (by simp)), ih fun q hq => h q (by simp [hq])]; rfl
theorem mputK_at {xs : List (α × β)} {k : α} {b v : β} {j : Nat} (hn : (xs.map (·.1)).Nodup) (h : xs[j]? = some (k, b)) : mput xs k v = xs.set j (k, v) := by
  induction xs generalizing j with
  | nil => simp at h
  | cons p r ih =>
    obtain ⟨a, b'⟩ := p
    simp only [List.map_cons, List.nodup_cons] at hn
    simp only [mput]
    cases j with
    | zero => simp at h; rw [if_pos h.1]; rfl
    | succ j =>
      simp at h
      have : a ≠ k := fun he => hn.1 (by subst he; exact List.mem_map.2 ⟨_, List.mem_of_getElem? h, rfl⟩)
      rw [if_neg this, ih hn.2 h]; rfl
omit [DecidableEq α] in
/-- what the memory knows of a map -/
theorem map_now {c : Cx} {id kt vt : Nat} {S : Value → Prop} {xs : List (α × β)} {v : Value} (hm : RepM c m) (hid : m id = some (.map kt vt (mlv f g xs))) (hv : RepV c (.mp id) v) (hf : KeyF f S) :
    ∃ b es' ck, c.B id = some (.mp b) ∧ v = .map (some b) ∧ c.w.heap[b]? = some (.map es' ck) ∧ es'.toList.length = xs.length ∧ (∀ (j : Nat) (x : α) (y : β), xs[j]? = some (x, y) → ∃ (en : MapEntry) (u : Value), es'.toList[j]? = some en ∧ exactV (f x) = some en.key ∧ S en.key ∧ u = en.val ∧ RepV c (g y) u) ∧ (xs.map (·.1)).Nodup ∧ LV.pureL (xs.map fun p => g p.2) = true := by
  have he := hm.ent id
  rw [hid] at he
  simp only [RepE] at he
  obtain ⟨b, es', ck, h1, h2, h3, h4, h5, h6, h7⟩ := he
  simp only [RepV] at hv
  obtain ⟨b', hb', rfl⟩ := hv
  rw [h1] at hb'; cases hb'
  have l3 := h3.length
  simp only [mlv, List.map_map, List.length_map] at l3
  refine ⟨b, es', ck, h1, rfl, h2, l3.symm, fun j x y hj => ?_, ?_, ?_⟩
  · have hk : ((mlv f g xs).map (·.1))[j]? = some (f x) := by simp [mlv, hj]
    have hvv : ((mlv f g xs).map (·.2))[j]? = some (g y) := by simp [mlv, hj]
    obtain ⟨k1, hk1, hk2⟩ := h3.get hk
    obtain ⟨u, hu1, hu2⟩ := h4.get hvv
    simp only [List.getElem?_map, Option.map_eq_some_iff] at hk1 hu1
    obtain ⟨en, he1, rfl⟩ := hk1
    obtain ⟨en', he2, rfl⟩ := hu1
    rw [he1] at he2; cases he2
    obtain ⟨kv, e1, e2, _⟩ := hf.1 x
    have := exactV_rep e1 hk2
    exact ⟨en, en.val, he1, by rw [e1, this], by rw [this]; exact e2, rfl, hu2⟩
  · simp only [mlv, List.map_map] at h7
    rw [List.nodup_iff_pairwise_ne] at h7 ⊢
    rw [List.pairwise_map] at h7 ⊢
    exact h7.imp fun {p q} h he => h (congrArg f he)
  · simp only [mlv, List.map_map] at h6; exact h6
omit [DecidableEq α] in
theorem map_keys {c : Cx} {S : Value → Prop} {xs : List (α × β)} {es' : List MapEntry} (hl : es'.length = xs.length) (h : ∀ (j : Nat) (x : α) (y : β), xs[j]? = some (x, y) → ∃ (en : MapEntry) (u : Value), es'[j]? = some en ∧ exactV (f x) = some en.key ∧ S en.key ∧ u = en.val ∧ RepV c (g y) u) : (∀ en ∈ es', S en.key) ∧ ∀ (j : Nat) en, es'[j]? = some en → ∃ x y, xs[j]? = some (x, y) ∧ exactV (f x) = some en.key ∧ RepV c (g y) en.val := by
  have key : ∀ (j : Nat) en, es'[j]? = some en → ∃ x y, xs[j]? = some (x, y) ∧ exactV (f x) = some en.key ∧ S en.key ∧ RepV c (g y) en.val := fun j en hj => by
    have hlt : j < xs.length := by rw [← hl]; exact (List.getElem?_eq_some_iff.1 hj).1
    obtain ⟨en', u, h1, h2, h3, rfl, h5⟩ := h j xs[j].1 xs[j].2 (by simp [hlt])
    rw [hj] at h1; cases h1
    exact ⟨xs[j].1, xs[j].2, by simp [hlt], h2, h3, h5⟩
  refine ⟨fun en hen => ?_, fun j en hj => ?_⟩
  · obtain ⟨j, hj⟩ := List.mem_iff_getElem?.1 hen
    obtain ⟨_, _, _, _, h3, _⟩ := key j en hj; exact h3
  · obtain ⟨x, y, h1, h2, _, h4⟩ := key j en hj; exact ⟨x, y, h1, h2, h4⟩
theorem zero_run {vt : TypeId} {z : LV} (h : tzero P vt = some z) (w : World) : ∃ zv, (zeroValue vt).run P w = .ok zv w ∧ ∀ c, RepV c z zv := by
  unfold tzero at h
  split at h
  · rename_i i hi
    split at h
    · rename_i zv hz
      split at h
      · cases h
        exact ⟨zv, by simp [zeroValue, typeInfo, Sem.run, hi, hz], fun c => repV_ofV c zv⟩
      · cases h
    · cases h
  · cases h
theorem look {c : Cx} {id kt vt : Nat} {t : TypeId} {S : Value → Prop} {xs : List (α × β)} {key : α} {z : β} {v kv : Value} (ht : tmap P t = some (kt, vt)) (K : KOk P kt S) (hf : KeyF f S) (hm : RepM c m) (hid : m id = some (.map kt vt (mlv f g xs))) (hv : RepV c (.mp id) v) (hk : RepV c (f key) kv) (hz : tzero P vt = some (g z)) (ok : Bool) :
    ∃ u, (Instr.lookup t v kv ok).run P c.w = .ok (if ok then .tuple #[u, .bool (mget xs key).isSome] else u) c.w ∧ RepV c (g ((mget xs key).getD z)) u := by
  obtain ⟨b, es', ck, hB, rfl, hh, hlen, hel, hnd, _⟩ := map_now hm hid hv hf
  obtain ⟨hS, hback⟩ := map_keys hlen hel
  obtain ⟨k0, e1, e2, _⟩ := hf.1 key
  obtain rfl : k0 = kv := (exactV_rep e1 hk).symm
  rcases K.find c.w k0 e2 es'.toList hS with ⟨h1, h2⟩ | ⟨j, en, h1, h2, h3⟩
  · have hno : mget xs key = .none := mget_none fun p hp he => by
      obtain ⟨j, hj⟩ := List.mem_iff_getElem?.1 hp
      obtain ⟨en, u, h4, h5, _⟩ := hel j p.1 p.2 hj
      rw [he, e1] at h5
      exact h2 en (List.mem_of_getElem? h4) (Option.some.inj h5).symm
    obtain ⟨zv, hz1, hz2⟩ := zero_run hz c.w
    refine ⟨zv, ?_, by rw [hno]; exact hz2 c⟩
    simp [Instr.lookup, run_underlying (tmap_under ht), MapKept.run_getObj_map hh, K.check c.w _ _ e2, h1, hz1, Result.andThen, hno]
  · obtain ⟨x, y, h4, h5, h6⟩ := hback j en h2
    have hx : x = key := hf.2 x key (exactV_inj h5 (by rw [h3]; exact e1))
    subst hx
    have hsome : mget xs x = some y := mget_at hnd h4
    refine ⟨en.val, ?_, by rw [hsome]; exact h6⟩
    simp [Instr.lookup, run_underlying (tmap_under ht), MapKept.run_getObj_map hh, K.check c.w _ _ e2, h1, Result.andThen, hsome]
theorem ok_lookup {id kt vt : Nat} {t : TypeId} {d : Option Nat} {x k : Operand} {ty : TypeId} {pos : String} {af : Array Edge} {gd : Option (Nat × Bool)} {S : Value → Prop} {xs : List (α × β)} {key : α} {z : β} (ht : tmap P t = some (kt, vt)) (K : KOk P kt S) (hf : KeyF f S) (hx : ev x = .mp id) (hid : m id = some (.map kt vt (mlv f g xs))) (hk : ev k = f key) (hz : tzero P vt = some (g z)) :
    OpOkR P pr ⟨d, .lookup t x k false, ty, pos, af, gd⟩ ev m (g ((mget xs key).getD z)) m :=
  OpOkR.value fun c a hev hm => by
    have h1 := hev x (by simp [Op.operands])
    have h2 := hev k (by simp [Op.operands])
    rw [hx] at h1; rw [hk] at h2
    obtain ⟨u, hr, hu⟩ := look ht K hf hm hid h1 h2 hz false
    exact ⟨u, c, by simp [execOp, hr, Result.andThen], hu, hm, Step.refl pr c⟩
theorem ok_lookup2 {id kt vt : Nat} {t : TypeId} {d : Option Nat} {x k : Operand} {ty : TypeId} {pos : String} {af : Array Edge} {gd : Option (Nat × Bool)} {S : Value → Prop} {xs : List (α × β)} {key : α} {z : β} (ht : tmap P t = some (kt, vt)) (K : KOk P kt S) (hf : KeyF f S) (hx : ev x = .mp id) (hid : m id = some (.map kt vt (mlv f g xs))) (hk : ev k = f key) (hz : tzero P vt = some (g z)) :
    OpOkR P pr ⟨d, .lookup t x k true, ty, pos, af, gd⟩ ev m (.tup [g ((mget xs key).getD z), .bool (mget xs key).isSome]) m :=
  OpOkR.value fun c a hev hm => by
    have h1 := hev x (by simp [Op.operands])
    have h2 := hev k (by simp [Op.operands])
    rw [hx] at h1; rw [hk] at h2
    obtain ⟨u, hr, hu⟩ := look ht K hf hm hid h1 h2 hz true
    refine ⟨_, c, by simp [execOp, hr, Result.andThen]; rfl, ?_, hm, Step.refl pr c⟩
    simp only [RepV, RepL]
    exact ⟨[u, .bool (mget xs key).isSome], rfl, u, _, rfl, hu, _, _, rfl, rfl, rfl⟩
theorem mlv_put {xs : List (α × β)} {k : α} {v : β} : (mput xs k v).map (·.1) = if k ∈ xs.map (·.1) then xs.map (·.1) else xs.map (·.1) ++ [k] := by
  induction xs with
  | nil => simp [mput]
  | cons p r ih =>
    obtain ⟨a, b⟩ := p
    simp only [mput]
    by_cases h : a = k
    · simp [h]
    · simp only [h, if_false, List.map_cons, ih, List.mem_cons]
      have : ¬ k = a := fun h' => h h'.symm
      simp only [this, false_or]
      split <;> simp
theorem ok_update {id kt vt : Nat} {t : TypeId} {x k y : Operand} {ty : TypeId} {pos : String} {af : Array Edge} {gd : Option (Nat × Bool)} {S : Value → Prop} {xs : List (α × β)} {key : α} {val : β} {op : Op} (hop : op = .mapUpdate t x k y ∨ op = .insert t x k y) (ht : tmap P t = some (kt, vt)) (K : KOk P kt S) (hf : KeyF f S) (hg : ∀ y, (g y).pure = true) (hx : ev x = .mp id) (hid : m id = some (.map kt vt (mlv f g xs))) (hk : ev k = f key) (hy : ev y = g val) :
    OpOkR P pr ⟨.none, op, ty, pos, af, gd⟩ ev m .und (m.put id (.map kt vt (mlv f g (mput xs key val)))) :=
  OpOkR.skip rfl fun c a hev hm => by
    have hops : op.operands = #[x, k, y] := by rcases hop with rfl | rfl <;> rfl
    have h1 := hev x (by simp [hops])
    have h2 := hev k (by simp [hops])
    have h3 := hev y (by simp [hops])
    rw [hx] at h1; rw [hk] at h2; rw [hy] at h3
    obtain ⟨b, es', ck, hB, hvx, hh, hlen, hel, hnd, hpv⟩ := map_now hm hid h1 hf
    obtain ⟨hS, hback⟩ := map_keys hlen hel
    obtain ⟨k0, e1, e2, _⟩ := hf.1 key
    have hk0 := exactV_rep e1 h2
    have hb : b < c.w.heap.size := (Array.getElem?_eq_some_iff.1 hh).1
    -- a new table of entries
    have fin : ∀ es2 ck2, (∀ w' : World, w' = { c.w with heap := c.w.heap.setIfInBounds b (.map es2 ck2) } → (Instr.mapUpdate t (.map (some b)) k0 (a.eval y)).run P c.w = .ok () w') →
        (∀ c' : Cx, c.Le c' → (∀ i, BLe (c.B i) (c'.B i)) → RepL c' ((mlv f g (mput xs key val)).map (·.1)) (es2.toList.map (·.key)) ∧ RepL c' ((mlv f g (mput xs key val)).map (·.2)) (es2.toList.map (·.val))) →
        ∃ c', (execOp a.eval ⟨.none, op, ty, pos, af, gd⟩).run P c.w = .ok .skip c'.w ∧ RepM c' (m.put id (.map kt vt (mlv f g (mput xs key val)))) ∧ Step pr c c' := by
      intro es2 ck2 hrun hrep
      obtain ⟨c', hw, hb', h4, h5⟩ := hm.upd (pr := pr) id (.map kt vt (mlv f g (mput xs key val))) (.mp b) { c.w with heap := c.w.heap.setIfInBounds b (.map es2 ck2) } rfl rfl rfl (Nat.le_refl _) (by simp)
        (fun q hq hne => by simp only; rw [Array.getElem?_setIfInBounds_ne]; intro he; subst he; exact hne _ hB rfl)
        (fun q hq => .inl ⟨_, hB, hq⟩) (by rw [hB]; exact BLe.refl _) (fun _ be0 h0 => by rw [hB] at h0; cases h0; exact .refl _)
        (fun c' hw hle hble => by
          simp only [RepE]
          obtain ⟨r1, r2⟩ := hrep c' hle hble
          refine ⟨b, es2, ck2, rfl, by rw [hw]; simp [hb], r1, r2, ?_, ?_, ?_⟩
          · refine pureL_iff.2 fun q hq => ?_
            simp only [mlv, List.map_map, List.mem_map] at hq
            obtain ⟨p, _, rfl⟩ := hq
            obtain ⟨_, _, _, h⟩ := hf.1 p.1; exact h
          · refine pureL_iff.2 fun q hq => ?_
            simp only [mlv, List.map_map, List.mem_map] at hq
            obtain ⟨p, _, rfl⟩ := hq
            exact hg p.2
          · have : (mlv f g (mput xs key val)).map (·.1) = ((mput xs key val).map (·.1)).map f := by simp [mlv]
            rw [this, mlv_put]
            rw [List.nodup_iff_pairwise_ne, List.pairwise_map, ← List.nodup_iff_pairwise_ne.trans ⟨fun h => h.imp fun {p q} h' he => h' (hf.2 p q he), fun h => h.imp fun {p q} h' he => h' (congrArg f he)⟩]
            split
            · exact hnd
            · rename_i hni
              rw [List.nodup_append]
              refine ⟨hnd, by simp, fun p hp q hq => ?_⟩
              simp at hq; subst hq; exact fun he => hni (he ▸ hp))
      refine ⟨c', ?_, h4, h5⟩
      rw [hw]
      rcases hop with rfl | rfl <;> simp [execOp, hvx, hk0, hrun _ rfl, Result.andThen]
    have kmap : ∀ l : List (α × β), (mlv f g l).map (·.1) = l.map fun p => f p.1 := fun l => by simp [mlv]
    have vmap : ∀ l : List (α × β), (mlv f g l).map (·.2) = l.map fun p => g p.2 := fun l => by simp [mlv]
    rcases K.find c.w k0 e2 es'.toList hS with ⟨q1, q2⟩ | ⟨j, en, q1, q2, q3⟩
    · have hput : mput xs key val = xs ++ [(key, val)] := mput_none fun p hp he => by
        obtain ⟨j, hj⟩ := List.mem_iff_getElem?.1 hp
        obtain ⟨en, u, h4, h5, _⟩ := hel j p.1 p.2 hj
        rw [he, e1] at h5
        exact q2 en (List.mem_of_getElem? h4) (Option.some.inj h5).symm
      refine fin (es'.push ⟨k0, a.eval y, ck⟩) (ck + 1) (fun w' hw' => ?_) (fun c' hle hble => ?_)
      · subst hw'
        simp [Instr.mapUpdate, run_underlying (tmap_under ht), MapKept.run_getObj_map hh, K.check c.w _ _ e2, q1, MapKept.run_setObj_map _ hh, Result.andThen]
      · rw [hput, kmap, vmap]
        simp only [List.map_append, List.map_cons, List.map_nil, Array.toList_push]
        have he := hm.ent id
        rw [hid] at he
        simp only [RepE] at he
        obtain ⟨b2, es2, ck2, g1, g2, g3, g4, g5, g6, g7⟩ := he
        rw [hB] at g1; cases g1
        rw [hh] at g2; cases g2
        rw [kmap] at g3 g5; rw [vmap] at g4 g6
        refine ⟨RepL.append (RepL.mono hle _ _ (fun q hq => by rw [norefL_of_pureL _ g5] at hq; cases hq) g3) ?_, RepL.append (RepL.mono hle _ _ (fun q hq => by rw [norefL_of_pureL _ g6] at hq; cases hq) g4) ?_⟩
        · simp only [RepL]
          refine ⟨_, _, rfl, RepV.mono hle _ _ (fun q _ => hble q) (by rw [← hk0]; exact h2), rfl⟩
        · simp only [RepL]
          exact ⟨_, _, rfl, RepV.mono hle _ _ (fun q _ => hble q) h3, rfl⟩
    · obtain ⟨x0, y0, h4, h5, h6⟩ := hback j en q2
      have hx0 : x0 = key := hf.2 x0 key (exactV_inj h5 (by rw [q3]; exact e1))
      subst hx0
      have hput : mput xs x0 val = xs.set j (x0, val) := mputK_at hnd h4
      have hjl : j < xs.length := (List.getElem?_eq_some_iff.1 h4).1
      have hj2 : es'[j]? = some en := by simpa using q2
      refine fin (es'.modify j fun e' => { e' with key := k0, val := a.eval y }) ck (fun w' hw' => ?_) (fun c' hle hble => ?_)
      · subst hw'
        simp [Instr.mapUpdate, run_underlying (tmap_under ht), MapKept.run_getObj_map hh, K.check c.w _ _ e2, q1, hj2, q3, K.stays c.w _ e2, MapKept.run_setObj_map _ hh, Result.andThen]
      · rw [hput, kmap, vmap]
        have hlen2 : (es'.modify j fun e' => { e' with key := k0, val := a.eval y }).toList.length = es'.toList.length := by simp
        constructor
        · refine RepL.of (by simp; simpa using hlen.symm) fun i lx v hlx hv => ?_
          simp only [List.getElem?_map, List.getElem?_set, Array.toList_modify, List.getElem?_modify, Option.map_eq_some_iff] at hlx
          obtain ⟨p, hp, rfl⟩ := hlx
          obtain ⟨en3, he3, rfl⟩ : ∃ en3, es'.toList[i]? = some en3 ∧ (if j = i then { en3 with key := k0, val := a.eval y } else en3 : MapEntry).key = v := by
            simp only [List.getElem?_map, Array.toList_modify, List.getElem?_modify] at hv
            cases hq : es'.toList[i]? with
            | none => rw [hq] at hv; simp at hv
            | some en3 => rw [hq] at hv; simp at hv; exact ⟨en3, rfl, hv⟩
          by_cases hij : j = i
          · subst hij
            rw [if_pos rfl, if_pos hjl] at hp; cases hp
            simp only [if_true]
            exact RepV.mono hle _ _ (fun q _ => hble q) (by rw [← hk0]; exact h2)
          · rw [if_neg hij] at hp
            simp only [hij, if_false]
            obtain ⟨en4, u, r1, r2, r3, r4, r5⟩ := hel i p.1 p.2 hp
            rw [he3] at r1; cases r1
            have he := hm.ent id
            rw [hid] at he
            simp only [RepE] at he
            obtain ⟨b2, es2, ck2, g1, g2, g3, g4, g5, g6, g7⟩ := he
            rw [hB] at g1; cases g1
            rw [hh] at g2; cases g2
            rw [kmap] at g3
            obtain ⟨v2, s1, s2⟩ := g3.get (i := i) (x := f p.1) (by simp [hp])
            simp only [List.getElem?_map, he3, Option.map_some, Option.some.injEq] at s1
            subst s1
            exact RepV.mono hle _ _ (fun q _ => hble q) s2
        · refine RepL.of (by simp; simpa using hlen.symm) fun i lx v hlx hv => ?_
          simp only [List.getElem?_map, List.getElem?_set, Array.toList_modify, List.getElem?_modify, Option.map_eq_some_iff] at hlx
          obtain ⟨p, hp, rfl⟩ := hlx
          obtain ⟨en3, he3, rfl⟩ : ∃ en3, es'.toList[i]? = some en3 ∧ (if j = i then { en3 with key := k0, val := a.eval y } else en3 : MapEntry).val = v := by
            simp only [List.getElem?_map, Array.toList_modify, List.getElem?_modify] at hv
            cases hq : es'.toList[i]? with
            | none => rw [hq] at hv; simp at hv
            | some en3 => rw [hq] at hv; simp at hv; exact ⟨en3, rfl, hv⟩
          by_cases hij : j = i
          · subst hij
            rw [if_pos rfl, if_pos hjl] at hp; cases hp
            simp only [if_true]
            exact RepV.mono hle _ _ (fun q _ => hble q) h3
          · rw [if_neg hij] at hp
            simp only [hij, if_false]
            obtain ⟨en4, u, r1, r2, r3, rfl, r5⟩ := hel i p.1 p.2 hp
            rw [he3] at r1; cases r1
            exact RepV.mono hle _ _ (fun q _ => hble q) r5
theorem ok_makeMap {i id kt vt : Nat} {t : TypeId} {ty : TypeId} {pos : String} {af : Array Edge} {gd : Option (Nat × Bool)} (hid : m id = .none) : OpOkR P pr ⟨some i, .makeMap t .none, ty, pos, af, gd⟩ ev m (.mp id) (m.put id (.map kt vt [])) :=
  OpOkR.value fun c a hev hm => by
    have hB := hm.fresh hid
    obtain ⟨c', hw, hb, h2, h3⟩ := hm.upd (pr := pr) id (.map kt vt []) (.mp c.w.heap.size) (c.w.alloc (.map #[] 0)) rfl rfl rfl (Nat.le_refl _) (by simp)
      (fun b hb _ => heap_alloc_old c.w _ b hb) (fun b hb => by simp [BE.has] at hb; subst hb; exact .inr (Nat.le_refl _)) (by rw [hB]; trivial) (fun _ be0 h0 => by rw [hB] at h0; cases h0)
      (fun c' hw hle hble => by
        simp only [RepE]
        exact ⟨c.w.heap.size, #[], 0, rfl, by rw [hw]; show (c.w.heap.push _)[c.w.heap.size]? = _; simp, by simp [RepL], by simp [RepL], rfl, rfl, by simp⟩)
    refine ⟨.map (some c.w.heap.size), c', ?_, ?_, h2, h3⟩
    · rw [hw]; rfl
    · simp only [RepV]; exact ⟨_, hb, rfl⟩
end

/- keys -/
theorem findNow_int {kd : IntKind} {a : Int} : ∀ (es : List MapEntry) (i : Nat), (∀ e ∈ es, ∃ n, e.key = .int kd n) → (Instr.findNow (.int kd) (.int kd a) es i = some .none ∧ ∀ e ∈ es, e.key ≠ .int kd a) ∨ ∃ j e, Instr.findNow (.int kd) (.int kd a) es i = some (some (i + j, e.val)) ∧ es[j]? = some e ∧ e.key = .int kd a
  | [], i, _ => .inl ⟨rfl, by simp⟩
  | e :: es, i, h => by
    obtain ⟨n, hn⟩ := h e (by simp)
    by_cases he : a = n
    · subst he
      exact .inr ⟨0, e, by simp [Instr.findNow, hn, Instr.sameNow], rfl, hn⟩
    · have hs : Instr.sameNow (.int kd) (.int kd a) e.key = some false := by simp [hn, Instr.sameNow, he]
      rcases findNow_int (a := a) es (i + 1) (fun e' he' => h e' (by simp [he'])) with ⟨h1, h2⟩ | ⟨j, e', h1, h2, h3⟩
      · refine .inl ⟨by simp [Instr.findNow, hs, h1], fun e' he' => ?_⟩
        rcases List.mem_cons.1 he' with rfl | he'
        · rw [hn]; intro h'; cases h'; exact he rfl
        · exact h2 e' he'
      · exact .inr ⟨j + 1, e', by simp only [Instr.findNow, hs, h1, Option.some.injEq, Prod.mk.injEq, and_true]; omega, by simpa using h2, h3⟩
theorem check_int {P : Program} {k : TypeId} {kd : IntKind} (hk : P.underlying k = some (.int kd)) (w : World) (em : Bool) (a : Int) (n : Nat) : (Instr.checkKey em (n + 1) k (.int kd a)).run P w = .ok () w := by
  simp only [Instr.checkKey]; simp [run_underlying hk]
theorem kokI {P : Program} {k : TypeId} {kd : IntKind} (hk : P.underlying k = some (.int kd)) : KOk P k (fun v => ∃ n, v = .int kd n) where
  check := fun w em v ⟨n, hn⟩ => by subst hn; exact check_int hk w em n 9999
  find := fun w x ⟨a, ha⟩ es hes => by
    subst ha
    rcases findNow_int (a := a) es 0 hes with ⟨h1, h2⟩ | ⟨j, e, h1, h2, h3⟩
    · exact .inl ⟨by simp [Instr.findKey, run_underlying hk, h1], h2⟩
    · exact .inr ⟨j, e, by simp [Instr.findKey, run_underlying hk, h1], h2, h3⟩
  stays := fun w v ⟨n, hn⟩ => by subst hn; simp [Instr.keyThatStays, Instr.sameBits]
theorem kfI {kd : IntKind} : KeyF (LV.int kd) (fun v => ∃ n, v = .int kd n) := ⟨fun x => ⟨.int kd x, rfl, ⟨x, rfl⟩, rfl⟩, fun x y h => by cases h; rfl⟩
theorem findAsk {P : Program} {k : TypeId} {α : Type} [DecidableEq α] {enc : α → Value} (heq : ∀ x y w, (Op.equal k (enc x) (enc y)).run P w = .ok (decide (x = y)) w) (w : World) (x : α) : ∀ (es : List MapEntry) (i : Nat), (∀ e ∈ es, ∃ y, e.key = enc y) → ((Instr.findAsking k (enc x) es i).run P w = .ok .none w ∧ ∀ e ∈ es, e.key ≠ enc x) ∨ ∃ j e, (Instr.findAsking k (enc x) es i).run P w = .ok (some (i + j, e.val)) w ∧ es[j]? = some e ∧ e.key = enc x
  | [], i, _ => .inl ⟨by simp [Instr.findAsking], by simp⟩
  | e :: es, i, h => by
    obtain ⟨y, hy⟩ := h e (by simp)
    by_cases he : x = y
    · subst he
      exact .inr ⟨0, e, by simp [Instr.findAsking, hy, heq], rfl, hy⟩
    · have hne : ¬ e.key = enc x := fun h' => by
        have h1 := heq x y w
        rw [← hy, h', heq x x w] at h1
        simp [he] at h1
      rcases findAsk heq w x es (i + 1) (fun e' he' => h e' (by simp [he'])) with ⟨h1, h2⟩ | ⟨j, e', h1, h2, h3⟩
      · refine .inl ⟨by simp [Instr.findAsking, hy, heq, he, h1], fun e' he' => ?_⟩
        rcases List.mem_cons.1 he' with rfl | he'
        · exact hne
        · exact h2 e' he'
      · exact .inr ⟨j + 1, e', by simp [Instr.findAsking, hy, heq, he, h1]; omega, by simpa using h2, h3⟩
theorem kokS {P : Program} {k : TypeId} {ds : TypeDesc} {α : Type} [DecidableEq α] {enc : α → Value} (hk : P.underlying k = some ds) (hno : ∀ x y, Instr.sameNow ds (enc x) (enc y) = .none) (hch : ∀ w em x, (Instr.checkKey em 10000 k (enc x)).run P w = .ok () w) (heq : ∀ x y w, (Op.equal k (enc x) (enc y)).run P w = .ok (decide (x = y)) w) (hst : ∀ x, Instr.sameBits 10000 (enc x) (enc x) = true) : KOk P k (fun v => ∃ x, v = enc x) where
  check := fun w em v ⟨x, hx⟩ => by subst hx; exact hch w em x
  find := fun w v ⟨x, hx⟩ es hes => by
    subst hx
    cases es with
    | nil => exact .inl ⟨by simp [Instr.findKey, run_underlying hk, Instr.findNow], by simp⟩
    | cons e es =>
      obtain ⟨y, hy⟩ := hes e (by simp)
      have hn : Instr.findNow ds (enc x) (e :: es) 0 = .none := by simp [Instr.findNow, hy, hno]
      have hrun : (Instr.findKey k (enc x) (e :: es)).run P w = (Instr.findAsking k (enc x) (e :: es) 0).run P w := by simp [Instr.findKey, run_underlying hk, hn]
      rcases findAsk heq w x (e :: es) 0 hes with ⟨h1, h2⟩ | ⟨j, e', h1, h2, h3⟩
      · exact .inl ⟨by rw [hrun, h1], h2⟩
      · exact .inr ⟨j, e', by rw [hrun, h1]; simp, h2, h3⟩
  stays := fun w v ⟨x, hx⟩ => by subst hx; simp [Instr.keyThatStays, hst]
/-- what '==' of structs gives, as the keys want it -/
theorem eqOf {P : Program} {t : TypeId} {xs ys : List LV} {us vs : List Value} {b : Bool} (h : AggEq P t xs ys b) (hx : exactL xs = some us) (hy : exactL ys = some vs) (w : World) : (Op.equal t (.agg us.toArray) (.agg vs.toArray)).run P w = .ok b w := by
  obtain ⟨_, us', vs', h1, h2, h3⟩ := h
  rw [hx] at h1; rw [hy] at h2; cases h1; cases h2
  exact h3 w
end Go.L
