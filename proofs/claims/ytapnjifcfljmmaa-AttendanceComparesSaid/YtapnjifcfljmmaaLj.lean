/- A logic over logical memory, part 10: what may be forgotten, what may be settled; a function's contract out of its body. -/
import Derived.Test.YtapnjifcfljmmaaLi
set_option linter.unusedVariables false
set_option linter.unusedSimpArgs false
namespace Go.L

mutual
def LV.refs : LV → List Nat
  | .sptr cs => LV.refsL cs
  | .arr i _ => [i]
  | .ptr i _ => [i]
  | .eptr i _ _ _ => [i]
  | .mp i => [i]
  | .agg cs => LV.refsL cs
  | .tup cs => LV.refsL cs
  | .fn _ cs => LV.refsL cs
  | .bfn _ cs => LV.refsL cs
  | _ => []
def LV.refsL : List LV → List Nat
  | [] => []
  | x :: xs => x.refs ++ LV.refsL xs
end

mutual
theorem refs_of_noref {id : Nat} : ∀ (x : LV), x.noref id = false → id ∈ x.refs
  | .und, h | .int _ _, h | .bool _, h | .nil, h | .slen _, h | .nilf, h | .nilp, h | .lst _ _, h => by simp [LV.noref] at h
  | .sptr cs, h => by simp only [LV.noref] at h; simp only [LV.refs]; exact refsL_of_norefL cs h
  | .arr _ _, h | .ptr _ _, h | .eptr _ _ _ _, h | .mp _, h => by simp [LV.noref] at h; simp [LV.refs, h]
  | .agg cs, h => by simp only [LV.noref] at h; simp only [LV.refs]; exact refsL_of_norefL cs h
  | .tup cs, h => by simp only [LV.noref] at h; simp only [LV.refs]; exact refsL_of_norefL cs h
  | .fn _ cs, h => by simp only [LV.noref] at h; simp only [LV.refs]; exact refsL_of_norefL cs h
  | .bfn _ cs, h => by simp only [LV.noref] at h; simp only [LV.refs]; exact refsL_of_norefL cs h
theorem refsL_of_norefL {id : Nat} : ∀ (xs : List LV), LV.norefL id xs = false → id ∈ LV.refsL xs
  | [], h => by simp [LV.norefL] at h
  | x :: xs, h => by
    simp only [LV.norefL, Bool.and_eq_false_iff] at h
    simp only [LV.refsL, List.mem_append]
    exact h.imp (refs_of_noref x) (refsL_of_norefL xs)
end

/-- Some ids are dropped: what they were is settled memory from now on. -/
theorem RepM.sub {c : Cx} {m : Mem} (h : RepM c m) (m' : Mem) (hsub : ∀ id, m' id = m id ∨ m' id = .none) (hbox : ∀ id cs, m' id = some (.box cs) → ∀ j, LV.norefL j cs = false → m' j ≠ .none) :
    ∃ c' : Cx, c'.w = c.w ∧ c'.O = c.O ∧ RepM c' m' ∧ (∀ x v, (∀ j, x.noref j = false → m' j ≠ .none) → RepV c x v → RepV c' x v) ∧ (∀ b, c'.own b → c.own b) ∧ (∀ b, c.own b → (∀ id be, m' id ≠ .none → c.B id = some be → ¬ be.has b) → ¬ c'.own b) ∧ ∀ id, m' id ≠ .none → c'.B id = c.B id := by
  classical
  let c' : Cx := ⟨c.w, fun id => if m' id = .none then .none else c.B id, c.O⟩
  have hB : ∀ id, m' id ≠ .none → c'.B id = c.B id := fun id hi => by simp [c', hi]
  have hown : ∀ b, c'.own b → c.own b := by
    rintro b ⟨id, be, h1, h2⟩
    by_cases hi : m' id = .none
    · simp [c', hi] at h1
    · rw [hB id hi] at h1; exact ⟨id, be, h1, h2⟩
  have hle : c.Le c' := ⟨Nat.le_refl _, fun b _ hX => ⟨rfl, fun hX' => hX (hX'.imp (fun h => h) (hown b))⟩⟩
  have hV : ∀ x v, (∀ j, x.noref j = false → m' j ≠ .none) → RepV c x v → RepV c' x v := fun x v hr hv =>
    RepV.mono hle x v (fun id hid => by rw [hB id (hr id hid)]; exact BLe.refl _) hv
  refine ⟨c', rfl, rfl, ⟨fun id => ?_, ?_, fun b ho => h.notO b (hown b ho), h.Olt⟩, hV, hown, ?_, hB⟩
  · by_cases hi : m' id = .none
    · rw [hi]; simp [RepE, c', hi]
    · have he := h.ent id
      rw [← (hsub id).resolve_right hi] at he
      rw [hB id hi]
      cases hx : m' id with
      | none => exact absurd hx hi
      | some le =>
        rw [hx] at he
        cases le with
        | box cs =>
          simp only [RepE] at he ⊢
          obtain ⟨b, us, e, h1, h2, h3, h4⟩ := he
          exact ⟨b, us, e, h1, h2, RepL.mono hle cs us (fun j hj => by rw [hB j (hbox id cs hx j hj)]; exact BLe.refl _) h3, h4⟩
        | arr e k xs =>
          simp only [RepE] at he ⊢
          obtain ⟨u, us, h1, h0, h2, h3, h4, h5⟩ := he
          exact ⟨u, us, h1, h0, h2, RepL.mono hle xs us (fun j hj => by rw [norefL_of_pureL xs h5] at hj; cases hj) h3, h4, h5⟩
        | nest e k os xs =>
          simp only [RepE] at he ⊢
          obtain ⟨u, us, bs, h1, h0, h2, h3, h4⟩ := he
          exact ⟨u, us, bs, h1, h0, h2, h3.mono hle (fun b _ => rfl), h4⟩
        | dead => simpa only [RepE] using he
        | map kt vt es =>
          simp only [RepE] at he ⊢
          obtain ⟨b, es', ck, h1, h2, h3, h4, h5, h6, h7⟩ := he
          exact ⟨b, es', ck, h1, h2, RepL.mono hle _ _ (fun j hj => by rw [norefL_of_pureL _ h5] at hj; cases hj) h3, RepL.mono hle _ _ (fun j hj => by rw [norefL_of_pureL _ h6] at hj; cases hj) h4, h5, h6, h7⟩
  · intro i i' be be' b h1 h2 h3 h4
    by_cases hi : m' i = .none
    · simp [c', hi] at h1
    · by_cases hi' : m' i' = .none
      · simp [c', hi'] at h2
      · rw [hB i hi] at h1; rw [hB i' hi'] at h2; exact h.inj i i' be be' b h1 h2 h3 h4
  · rintro b hob hne ⟨id, be, h1, h2⟩
    by_cases hi : m' id = .none
    · simp [c', hi] at h1
    · rw [hB id hi] at h1; exact hne id be hi h1 h2

/-- Are all ids that the values speak of kept? -/
def keptRefs (el : List (Nat × LV)) (ml : List (Nat × LE)) : Bool :=
  (el.all fun p => p.2.refs.all fun j => ml.any fun q => q.1 == j) && ml.all fun q => match q.2 with
    | .box cs => (LV.refsL cs).all fun j => ml.any fun q => q.1 == j
    | .arr _ _ _ => true
    | .map _ _ _ => true
    | .nest _ _ _ _ => true
    | .dead => true

theorem memOf_some {ml : List (Nat × LE)} {id : Nat} {le : LE} (h : Mem.of ml id = some le) : (id, le) ∈ ml := by
  induction ml with
  | nil => simp [Mem.of] at h
  | cons p ml ih =>
    obtain ⟨d, v⟩ := p
    simp only [Mem.of] at h
    split at h
    · rename_i hi; cases h; subst hi; simp
    · exact List.mem_cons_of_mem _ (ih h)
theorem memOf_ne {ml : List (Nat × LE)} {id : Nat} (h : (ml.any fun q => q.1 == id) = true) : Mem.of ml id ≠ .none := by
  induction ml with
  | nil => simp at h
  | cons p ml ih =>
    obtain ⟨d, v⟩ := p
    simp only [Mem.of]
    by_cases hd : id = d
    · simp [hd]
    · simp only [hd, if_false]
      simp only [List.any_cons, Bool.or_eq_true, beq_iff_eq] at h
      exact ih (h.resolve_left (fun hh => hd hh.symm))
theorem envOf_mem (el : List (Nat × LV)) (i : Nat) : Env.of el i = .und ∨ (i, Env.of el i) ∈ el := by
  induction el with
  | nil => exact .inl rfl
  | cons p el ih =>
    obtain ⟨d, v⟩ := p
    simp only [Env.of]
    by_cases hd : i = d
    · subst hd; simp
    · simp only [hd, if_false]
      exact ih.imp (fun h => h) (List.mem_cons_of_mem _)

/-- What is kept is written out. -/
theorem Wk.cut {pr : Nat → Prop} {e : Env} {m : Mem} (el : List (Nat × LV)) (ml : List (Nat × LE)) (he : ∀ p ∈ el, e p.1 = p.2) (hm : ∀ p ∈ ml, m p.1 = some p.2) (hr : keptRefs el ml = true) (hpr : ∀ id, pr id → m id = .none ∨ Mem.of ml id ≠ .none) : Wk pr e m (Env.of el) (Mem.of ml) := by
  intro N c a hrep
  simp only [keptRefs, Bool.and_eq_true, List.all_eq_true] at hr
  obtain ⟨c', hw, hO, hm', hV, hown, _, hB⟩ := hrep.mem.sub (Mem.of ml) (fun id => by
      cases h : Mem.of ml id with
      | none => exact .inr rfl
      | some le => exact .inl (hm _ (memOf_some h)).symm)
    (fun id cs hid j hj => by
      have h2 := hr.2 _ (memOf_some hid)
      simp only [List.all_eq_true] at h2
      exact memOf_ne (h2 j (refsL_of_norefL cs hj)))
  refine ⟨c', hw, ⟨fun i => ?_, hm', hrep.size, hrep.defers⟩, ?_⟩
  · rcases envOf_mem el i with h | h
    · rw [h]; simp [RepV]
    · have h1 := he _ h
      simp only at h1
      refine hV _ _ (fun j hj => memOf_ne (hr.1 _ h j (refs_of_noref _ hj))) ?_
      rw [← h1]; exact hrep.env i
  · refine ⟨hO, by rw [hw], by rw [hw], by rw [hw], by rw [hw]; exact Nat.le_refl _, by rw [hw]; exact Nat.le_refl _, fun b _ _ => by rw [hw], fun b ho => .inl (hown b ho), fun id be hp hb => ?_⟩
    have : Mem.of ml id ≠ .none := by
      rcases hpr id hp with h0 | h0
      · have := hrep.mem.fresh h0; rw [this] at hb; cases hb
      · exact h0
    exact ⟨be, by rw [hB id this]; exact hb, .refl be⟩

mutual
/-- a settled box: its addresses become addresses of settled cells -/
def LV.frzB (id : Nat) (cs : List LV) : LV → LV
  | .ptr i o => if i = id then .sptr (cs.drop o) else .ptr i o
  | .agg l => .agg (LV.frzBL id cs l)
  | .tup l => .tup (LV.frzBL id cs l)
  | .fn f l => .fn f (LV.frzBL id cs l)
  | .bfn f l => .bfn f (LV.frzBL id cs l)
  | .arr i n => if i = id then .und else .arr i n
  | .eptr i n j o => if i = id then .und else .eptr i n j o
  | .mp i => if i = id then .und else .mp i
  | .sptr l => if LV.norefL id l = true then .sptr l else .und
  | x => x
def LV.frzBL (id : Nat) (cs : List LV) : List LV → List LV
  | [] => []
  | x :: xs => x.frzB id cs :: LV.frzBL id cs xs
end
mutual
/-- a settled row: the slice over it becomes a list -/
def LV.frzA (id k : Nat) (xs : List LV) : LV → LV
  | .arr i n => if i = id then (if n = xs.length then .lst k xs else .und) else .arr i n
  | .agg l => .agg (LV.frzAL id k xs l)
  | .tup l => .tup (LV.frzAL id k xs l)
  | .fn f l => .fn f (LV.frzAL id k xs l)
  | .bfn f l => .bfn f (LV.frzAL id k xs l)
  | .ptr i o => if i = id then .und else .ptr i o
  | .eptr i n j o => if i = id then .und else .eptr i n j o
  | .mp i => if i = id then .und else .mp i
  | .sptr l => if LV.norefL id l = true then .sptr l else .und
  | x => x
def LV.frzAL (id k : Nat) (xs : List LV) : List LV → List LV
  | [] => []
  | x :: l => x.frzA id k xs :: LV.frzAL id k xs l
end

def Mem.del (m : Mem) (id : Nat) : Mem := fun i => if i = id then .none else m i

section frz
variable {c c' : Cx} {id : Nat}
mutual
theorem frzB_rep {cs : List LV} (hV : ∀ x v, x.noref id = true → RepV c x v → RepV c' x v) (hp : ∀ o v, RepV c (.ptr id o) v → RepV c' (.sptr (cs.drop o)) v) : ∀ (x : LV) (v : Value), RepV c x v → RepV c' (x.frzB id cs) v
  | .und, v, h => by simp [LV.frzB, RepV]
  | .int _ _, v, h => by simp only [LV.frzB]; exact hV _ _ (by simp [LV.noref]) h
  | .bool _, v, h => by simp only [LV.frzB]; exact hV _ _ (by simp [LV.noref]) h
  | .nil, v, h => by simp only [LV.frzB]; exact hV _ _ (by simp [LV.noref]) h
  | .slen _, v, h => by simp only [LV.frzB]; exact hV _ _ (by simp [LV.noref]) h
  | .nilf, v, h => by simp only [LV.frzB]; exact hV _ _ (by simp [LV.noref]) h
  | .nilp, v, h => by simp only [LV.frzB]; exact hV _ _ (by simp [LV.noref]) h
  | .lst _ _, v, h => by simp only [LV.frzB]; exact hV _ _ (by simp [LV.noref]) h
  | .sptr _, v, h => by
    simp only [LV.frzB]
    split
    · rename_i hn; exact hV _ _ (by simpa [LV.noref] using hn) h
    · simp [RepV]
  | .arr i n, v, h => by
    simp only [LV.frzB]
    split
    · simp [RepV]
    · rename_i hi; exact hV _ _ (by simp [LV.noref, hi]) h
  | .ptr i o, v, h => by
    simp only [LV.frzB]
    split
    · rename_i hi; subst hi; exact hp o v h
    · rename_i hi; exact hV _ _ (by simp [LV.noref, hi]) h
  | .eptr i n j o, v, h => by
    simp only [LV.frzB]
    split
    · simp [RepV]
    · rename_i hi; exact hV _ _ (by simp [LV.noref, hi]) h
  | .mp i, v, h => by
    simp only [LV.frzB]
    split
    · simp [RepV]
    · rename_i hi; exact hV _ _ (by simp [LV.noref, hi]) h
  | .agg l, v, h => by
    simp only [LV.frzB, RepV] at h ⊢
    obtain ⟨vs, rfl, hl⟩ := h
    exact ⟨vs, rfl, frzBL_rep hV hp l vs hl⟩
  | .tup l, v, h => by
    simp only [LV.frzB, RepV] at h ⊢
    obtain ⟨vs, rfl, hl⟩ := h
    exact ⟨vs, rfl, frzBL_rep hV hp l vs hl⟩
  | .fn f l, v, h => by
    simp only [LV.frzB, RepV] at h ⊢
    obtain ⟨vs, rfl, hl⟩ := h
    exact ⟨vs, rfl, frzBL_rep hV hp l vs hl⟩
  | .bfn f l, v, h => by
    simp only [LV.frzB, RepV] at h ⊢
    obtain ⟨vs, rfl, hl⟩ := h
    exact ⟨vs, rfl, frzBL_rep hV hp l vs hl⟩
theorem frzBL_rep {cs : List LV} (hV : ∀ x v, x.noref id = true → RepV c x v → RepV c' x v) (hp : ∀ o v, RepV c (.ptr id o) v → RepV c' (.sptr (cs.drop o)) v) : ∀ (xs : List LV) (vs : List Value), RepL c xs vs → RepL c' (LV.frzBL id cs xs) vs
  | [], vs, h => by simpa only [LV.frzBL, RepL] using h
  | x :: xs, vs, h => by
    simp only [LV.frzBL, RepL] at h ⊢
    obtain ⟨v, vs', rfl, h1, h2⟩ := h
    exact ⟨v, vs', rfl, frzB_rep hV hp x v h1, frzBL_rep hV hp xs vs' h2⟩
end
mutual
theorem frzA_rep {k : Nat} {xs : List LV} (hV : ∀ x v, x.noref id = true → RepV c x v → RepV c' x v) (hp : ∀ v, RepV c (.arr id xs.length) v → RepV c' (.lst k xs) v) : ∀ (x : LV) (v : Value), RepV c x v → RepV c' (x.frzA id k xs) v
  | .und, v, h => by simp [LV.frzA, RepV]
  | .int _ _, v, h => by simp only [LV.frzA]; exact hV _ _ (by simp [LV.noref]) h
  | .bool _, v, h => by simp only [LV.frzA]; exact hV _ _ (by simp [LV.noref]) h
  | .nil, v, h => by simp only [LV.frzA]; exact hV _ _ (by simp [LV.noref]) h
  | .slen _, v, h => by simp only [LV.frzA]; exact hV _ _ (by simp [LV.noref]) h
  | .nilf, v, h => by simp only [LV.frzA]; exact hV _ _ (by simp [LV.noref]) h
  | .nilp, v, h => by simp only [LV.frzA]; exact hV _ _ (by simp [LV.noref]) h
  | .lst _ _, v, h => by simp only [LV.frzA]; exact hV _ _ (by simp [LV.noref]) h
  | .sptr _, v, h => by
    simp only [LV.frzA]
    split
    · rename_i hn; exact hV _ _ (by simpa [LV.noref] using hn) h
    · simp [RepV]
  | .arr i n, v, h => by
    simp only [LV.frzA]
    split
    · rename_i hi
      split
      · rename_i hn; subst hi; subst hn; exact hp v h
      · simp [RepV]
    · rename_i hi; exact hV _ _ (by simp [LV.noref, hi]) h
  | .ptr i o, v, h => by
    simp only [LV.frzA]
    split
    · simp [RepV]
    · rename_i hi; exact hV _ _ (by simp [LV.noref, hi]) h
  | .eptr i n j o, v, h => by
    simp only [LV.frzA]
    split
    · simp [RepV]
    · rename_i hi; exact hV _ _ (by simp [LV.noref, hi]) h
  | .mp i, v, h => by
    simp only [LV.frzA]
    split
    · simp [RepV]
    · rename_i hi; exact hV _ _ (by simp [LV.noref, hi]) h
  | .agg l, v, h => by
    simp only [LV.frzA, RepV] at h ⊢
    obtain ⟨vs, rfl, hl⟩ := h
    exact ⟨vs, rfl, frzAL_rep hV hp l vs hl⟩
  | .tup l, v, h => by
    simp only [LV.frzA, RepV] at h ⊢
    obtain ⟨vs, rfl, hl⟩ := h
    exact ⟨vs, rfl, frzAL_rep hV hp l vs hl⟩
  | .fn f l, v, h => by
    simp only [LV.frzA, RepV] at h ⊢
    obtain ⟨vs, rfl, hl⟩ := h
    exact ⟨vs, rfl, frzAL_rep hV hp l vs hl⟩
  | .bfn f l, v, h => by
    simp only [LV.frzA, RepV] at h ⊢
    obtain ⟨vs, rfl, hl⟩ := h
    exact ⟨vs, rfl, frzAL_rep hV hp l vs hl⟩
theorem frzAL_rep {k : Nat} {xs : List LV} (hV : ∀ x v, x.noref id = true → RepV c x v → RepV c' x v) (hp : ∀ v, RepV c (.arr id xs.length) v → RepV c' (.lst k xs) v) : ∀ (l : List LV) (vs : List Value), RepL c l vs → RepL c' (LV.frzAL id k xs l) vs
  | [], vs, h => by simpa only [LV.frzAL, RepL] using h
  | x :: l, vs, h => by
    simp only [LV.frzAL, RepL] at h ⊢
    obtain ⟨v, vs', rfl, h1, h2⟩ := h
    exact ⟨v, vs', rfl, frzA_rep hV hp x v h1, frzAL_rep hV hp l vs' h2⟩
end
end frz

mutual
theorem noref_of_rep {c : Cx} {j : Nat} (hB : c.B j = .none) : ∀ (x : LV) (v : Value), RepV c x v → x.noref j = true
  | .und, v, h | .int _ _, v, h | .bool _, v, h | .nil, v, h | .slen _, v, h | .nilf, v, h | .nilp, v, h | .lst _ _, v, h => by simp [LV.noref]
  | .sptr cs, v, h => by
    simp only [RepV] at h
    obtain ⟨b, off, vs, _, _, _, hl, _⟩ := h
    simp only [LV.noref]; exact norefL_of_rep hB cs vs hl
  | .arr i n, v, h => by
    simp only [RepV] at h
    obtain ⟨_, u, k, len, ins, h1, _⟩ := h
    by_cases hi : i = j
    · subst hi; rw [hB] at h1; cases h1
    · simp [LV.noref, hi]
  | .ptr i o, v, h => by
    simp only [RepV] at h
    obtain ⟨b, n, h1, _⟩ := h
    by_cases hi : i = j
    · subst hi; rw [hB] at h1; cases h1
    · simp [LV.noref, hi]
  | .eptr i n q o, v, h => by
    simp only [RepV] at h
    obtain ⟨_, u, k, len, ins, h1, _⟩ := h
    by_cases hi : i = j
    · subst hi; rw [hB] at h1; cases h1
    · simp [LV.noref, hi]
  | .mp i, v, h => by
    simp only [RepV] at h
    obtain ⟨b, h1, _⟩ := h
    by_cases hi : i = j
    · subst hi; rw [hB] at h1; cases h1
    · simp [LV.noref, hi]
  | .agg l, v, h => by
    simp only [RepV] at h
    obtain ⟨vs, rfl, hl⟩ := h
    simp only [LV.noref]; exact norefL_of_rep hB l vs hl
  | .tup l, v, h => by
    simp only [RepV] at h
    obtain ⟨vs, rfl, hl⟩ := h
    simp only [LV.noref]; exact norefL_of_rep hB l vs hl
  | .fn f l, v, h => by
    simp only [RepV] at h
    obtain ⟨vs, rfl, hl⟩ := h
    simp only [LV.noref]; exact norefL_of_rep hB l vs hl
  | .bfn f l, v, h => by
    simp only [RepV] at h
    obtain ⟨vs, rfl, hl⟩ := h
    simp only [LV.noref]; exact norefL_of_rep hB l vs hl
theorem norefL_of_rep {c : Cx} {j : Nat} (hB : c.B j = .none) : ∀ (xs : List LV) (vs : List Value), RepL c xs vs → LV.norefL j xs = true
  | [], vs, h => by simp [LV.norefL]
  | x :: xs, vs, h => by
    simp only [RepL] at h
    obtain ⟨v, vs', rfl, h1, h2⟩ := h
    simp only [LV.norefL, Bool.and_eq_true]
    exact ⟨noref_of_rep hB x v h1, norefL_of_rep hB xs vs' h2⟩
end
theorem refless {c : Cx} {j : Nat} (hB : c.B j = .none) (x : LV) (v : Value) (h : RepV c x v) (hx : x.noref j = false) : False := by
  rw [noref_of_rep hB x v h] at hx; cases hx

/-- a row's place that nothing else lies in -/
theorem RepM.del {c : Cx} {m : Mem} (h : RepM c m) (id : Nat) (hbox : ∀ i cs, i ≠ id → m i = some (.box cs) → LV.norefL id cs = true) :
    ∃ c' : Cx, c'.w = c.w ∧ c'.O = c.O ∧ RepM c' (m.del id) ∧ (∀ x v, x.noref id = true → RepV c x v → RepV c' x v) ∧ (∀ b, c'.own b → c.own b) ∧ (∀ b be, c.B id = some be → be.has b → ¬ c'.X b) ∧ ∀ i, i ≠ id → c'.B i = c.B i := by
  obtain ⟨c', hw, hO, hm', hV, hown, hnown, hB⟩ := h.sub (m.del id) (fun i => by unfold Mem.del; split <;> simp) (fun i cs hi j hj => by
    unfold Mem.del at hi ⊢
    split at hi
    · cases hi
    · rename_i hne
      have hj' : j ≠ id := fun he => by subst he; rw [hbox i cs hne hi] at hj; cases hj
      simp only [hj', if_false]
      intro h0
      have he := h.ent i
      rw [hi] at he
      simp only [RepE] at he
      obtain ⟨b, us, e, _, _, hl, _⟩ := he
      have hB0 := h.fresh h0
      have : ∀ (x : LV) (v : Value), RepV c x v → x.noref j = false → False := by
        intro x v hv hx
        let cb : Cx := ⟨c.w, c.B, c.O⟩
        exact refless hB0 x v hv hx
      obtain ⟨x, hx, hxr⟩ : ∃ x ∈ cs, x.noref j = false := by
        have hn := hj
        rw [← Bool.not_eq_true, norefL_iff] at hn
        simp only [Classical.not_forall] at hn
        obtain ⟨x, hx, hxn⟩ := hn
        exact ⟨x, hx, by simpa using hxn⟩
      obtain ⟨q, hq⟩ := List.mem_iff_getElem?.1 hx
      obtain ⟨v, _, hv⟩ := hl.get hq
      exact this x v hv hxr)
  refine ⟨c', hw, hO, hm', fun x v hx hv => hV x v (fun j hj => ?_) hv, hown, fun b be hb hbb => ?_, fun i hi => ?_⟩
  · have hj' : j ≠ id := fun he => by subst he; rw [hx] at hj; cases hj
    unfold Mem.del
    simp only [hj', if_false]
    intro h0
    exact refless (h.fresh h0) x v hv hj
  · rintro (hO' | ho')
    · rw [hO] at hO'; exact h.notO b ⟨id, be, hb, hbb⟩ hO'
    · refine hnown b ⟨id, be, hb, hbb⟩ (fun i be' hi hbe hbb' => ?_) ho'
      have := h.inj i id be' be b hbe hb hbb' hbb
      subst this
      unfold Mem.del at hi
      simp at hi
  · by_cases h0 : m.del id i = .none
    · have h1 := hm'.fresh h0
      have h2 : m i = .none := by unfold Mem.del at h0; simpa [hi] using h0
      rw [h1, h.fresh h2]
    · exact hB i h0

def freeB (id : Nat) (ml : List (Nat × LE)) : Bool := ml.all fun q => q.1 == id || match q.2 with | .box cs => LV.norefL id cs | .arr _ _ _ => true | .map _ _ _ => true | .nest _ _ _ _ => true | .dead => true

theorem Mem.of_del (ml : List (Nat × LE)) (id : Nat) : (Mem.of ml).del id = Mem.of (ml.filter fun q => q.1 != id) := by
  funext i
  unfold Mem.del
  induction ml with
  | nil => simp [Mem.of]
  | cons p ml ih =>
    obtain ⟨d, v⟩ := p
    by_cases hd : d = id
    · subst hd
      simp only [List.filter_cons, bne_self_eq_false, Bool.false_eq_true, if_false, ← ih, Mem.of]
      split
      · rfl
      · rename_i hi; simp [hi]
    · have : (d != id) = true := by simpa using hd
      simp only [List.filter_cons, this, if_true, Mem.of]
      by_cases hi : i = id
      · subst hi
        simp only [if_true] at ih ⊢
        rw [if_neg (fun h => hd h.symm)]; exact ih
      · simp only [hi, if_false] at ih ⊢
        split
        · rfl
        · exact ih
theorem Env.of_map (el : List (Nat × LV)) (f : LV → LV) (hf : f .und = .und) : (fun i => f (Env.of el i)) = Env.of (el.map fun p => (p.1, f p.2)) := by
  funext i
  induction el with
  | nil => simpa [Env.of] using hf
  | cons p el ih =>
    obtain ⟨d, v⟩ := p
    simp only [Env.of, List.map_cons]
    split
    · rfl
    · exact ih

theorem freeB_of {id : Nat} {ml : List (Nat × LE)} (h : freeB id ml = true) : ∀ i cs, i ≠ id → Mem.of ml i = some (.box cs) → LV.norefL id cs = true := by
  intro i cs hi hm
  have := List.all_eq_true.1 h _ (memOf_some hm)
  simpa [hi] using this

/-- A box that is written no more is settled. -/
theorem Wk.frzB {pr : Nat → Prop} {el : List (Nat × LV)} {ml : List (Nat × LE)} (id : Nat) (cs : List LV) (hid : Mem.of ml id = some (.box cs)) (hp : LV.pureL cs = true) (hfree : freeB id ml = true) (hpr : ¬ pr id) :
    Wk pr (Env.of el) (Mem.of ml) (Env.of (el.map fun p => (p.1, p.2.frzB id cs))) (Mem.of (ml.filter fun q => q.1 != id)) := by
  intro N c a hrep
  rw [← Env.of_map el (LV.frzB id cs) (by simp [LV.frzB]), ← Mem.of_del]
  obtain ⟨c', hw, hO, hm', hV, hown, hX, hB⟩ := hrep.mem.del id (freeB_of hfree)
  obtain ⟨b, vs, e, hBb, hh, hl, h1⟩ := cell_box hrep.mem hid
  refine ⟨c', hw, ⟨fun i => frzB_rep hV ?_ _ _ (hrep.env i), hm', hrep.size, hrep.defers⟩, ?_⟩
  · intro o v hv
    simp only [RepV] at hv ⊢
    obtain ⟨b', n, hB', rfl⟩ := hv
    rw [hBb] at hB'
    cases hB'
    have hra := rangeAt_drop (rangeAt_row hh) o
    simp only [Nat.zero_add] at hra
    refine ⟨b, o, vs.drop o, rfl, by rw [hw]; exact (Array.getElem?_eq_some_iff.1 hh).1, hX b _ hBb rfl, ?_, fun y hy => h1 y (List.mem_of_mem_drop hy), by rw [hw]; exact hra⟩
    have hle : c.Le c' := ⟨by rw [hw]; exact Nat.le_refl _, fun b _ hx => ⟨by rw [hw], fun hx' => hx (hx'.imp (fun h => by rw [hO] at h; exact h) (hown b))⟩⟩
    exact (RepL.mono hle cs vs (fun j hj => by rw [norefL_of_pureL cs hp] at hj; cases hj) hl).drop o
  · refine ⟨hO, by rw [hw], by rw [hw], by rw [hw], by rw [hw]; exact Nat.le_refl _, by rw [hw]; exact Nat.le_refl _, fun b _ _ => by rw [hw], fun b ho => .inl (hown b ho), fun i be hpi hb => ?_⟩
    exact ⟨be, by rw [hB i (fun h => hpr (h ▸ hpi))]; exact hb, .refl be⟩

/-- A row that is written no more is settled. -/
theorem Wk.frzA {pr : Nat → Prop} {el : List (Nat × LV)} {ml : List (Nat × LE)} (id e k : Nat) (xs : List LV) (hid : Mem.of ml id = some (.arr e k xs)) (hfree : freeB id ml = true) (hpr : ¬ pr id) :
    Wk pr (Env.of el) (Mem.of ml) (Env.of (el.map fun p => (p.1, p.2.frzA id k xs))) (Mem.of (ml.filter fun q => q.1 != id)) := by
  intro N c a hrep
  rw [← Env.of_map el (LV.frzA id k xs) (by simp [LV.frzA]), ← Mem.of_del]
  obtain ⟨c', hw, hO, hm', hV, hown, hX, hB⟩ := hrep.mem.del id (freeB_of hfree)
  refine ⟨c', hw, ⟨fun i => frzA_rep hV ?_ _ _ (hrep.env i), hm', hrep.size, hrep.defers⟩, ?_⟩
  · intro v hv
    obtain ⟨vs, hBb, hk, hown', hl, hc, hp⟩ := arr_now hrep.mem hv hid rfl
    simp only [RepV]
    have hle : c.Le c' := ⟨by rw [hw]; exact Nat.le_refl _, fun b _ hx => ⟨by rw [hw], fun hx' => hx (hx'.imp (fun h => by rw [hO] at h; exact h) (hown b))⟩⟩
    have hl' := RepL.mono hle xs vs (fun j hj => by rw [norefL_of_pureL xs hp] at hj; cases hj) hl
    rcases hown'.2 with ⟨rfl, h0⟩ | ⟨g, cap, cur, rfl, _, hg, hnc, _⟩
    · exact ⟨.none, 0, by rw [h0], by omega, fun _ => rfl, hp, .inl (List.eq_nil_of_length_eq_zero h0)⟩
    · refine ⟨some ⟨g, 0, .none⟩, cap, rfl, hnc, by simp, hp, .inr ⟨g, 0, vs, rfl, by rw [hw]; exact (Array.getElem?_eq_some_iff.1 hg).1, hX g _ hBb (.inl rfl), hl', hc, ?_⟩⟩
      rw [hw]; exact rangeAt_own hown' rfl
  · refine ⟨hO, by rw [hw], by rw [hw], by rw [hw], by rw [hw]; exact Nat.le_refl _, by rw [hw]; exact Nat.le_refl _, fun b _ _ => by rw [hw], fun b ho => .inl (hown b ho), fun i be hpi hb => ?_⟩
    exact ⟨be, by rw [hB i (fun h => hpr (h ▸ hpi))]; exact hb, .refl be⟩

/-- a nil slice is an owned row of no elements -/
theorem Wk.own {pr : Nat → Prop} {el el' : List (Nat × LV)} {ml : List (Nat × LE)} (id e k : Nat) (hid : Mem.of ml id = .none) (hk : 0 < k)
    (hel : el'.length = el.length) (hh : ∀ i : Nat, ∀ p q, el[i]? = some p → el'[i]? = some q → q.1 = p.1 ∧ (q.2 = p.2 ∨ (p.2 = .nil ∧ q.2 = .arr id 0))) :
    Wk pr (Env.of el) (Mem.of ml) (Env.of el') (Mem.of ((id, .arr e k []) :: ml)) := by
  intro N c a hrep
  have hB := hrep.mem.fresh hid
  obtain ⟨c', hw, hb, h2, h3⟩ := hrep.mem.upd (pr := pr) id (.arr e k []) (.arr (.slice .none 0 0) k 0 []) c.w rfl rfl rfl (Nat.le_refl _) (Nat.le_refl _)
    (fun b _ _ => rfl) (fun b hb => by simp [BE.has, Value.ownBlock] at hb) (by rw [hB]; trivial) (fun _ be0 h0 => by rw [hB] at h0; cases h0)
    (fun c' hw hle hble => by
      simp only [RepE]
      exact ⟨.slice .none 0 0, [], rfl, hk, by rw [hw]; exact World.ownsRow_nil c.w 0 e k, by simp [RepL], by simp, by simp [LV.pureL]⟩)
  refine ⟨c', hw, ⟨fun i => ?_, ?_, hrep.size, hrep.defers⟩, h3.grow⟩
  · have key : ∀ (el el' : List (Nat × LV)), el'.length = el.length → (∀ i : Nat, ∀ p q, el[i]? = some p → el'[i]? = some q → q.1 = p.1 ∧ (q.2 = p.2 ∨ (p.2 = .nil ∧ q.2 = .arr id 0))) → Env.of el' i = Env.of el i ∨ (Env.of el i = .nil ∧ Env.of el' i = .arr id 0) := by
      intro el
      induction el with
      | nil => intro el' hl _; have : el' = [] := List.eq_nil_of_length_eq_zero (by simpa using hl); subst this; exact .inl rfl
      | cons p el ih =>
        intro el' hl hh
        cases el' with
        | nil => simp at hl
        | cons q el' =>
          obtain ⟨h1, h2⟩ := hh 0 p q (by simp) (by simp)
          obtain ⟨d, v⟩ := p
          obtain ⟨d', v'⟩ := q
          simp only at h1 h2
          subst h1
          simp only [Env.of]
          split
          · exact h2
          · exact ih el' (by simpa using hl) (fun i p q hp hq => hh (i + 1) p q (by simpa using hp) (by simpa using hq))
    rcases key el el' hel hh with he | ⟨he, he'⟩
    · rw [he]; exact h3.repV (hrep.env i)
    · rw [he']
      have := hrep.env i
      rw [he] at this
      simp only [RepV] at this ⊢
      exact ⟨by rw [this]; rfl, _, _, _, _, hb, Nat.le_refl _, fun _ => this⟩
  · have : (Mem.of ml).put id (.arr e k []) = Mem.of ((id, .arr e k []) :: ml) := rfl
    rw [← this]; exact h2

/-! ### A function's contract out of its body -/
def Env.args (l : List LV) : Env := fun i => l.getD i .und

def lres (P : Program) (e : Env) (m : Mem) : List ResultVar → (List LV → Prop) → Prop
  | [], K => K []
  | .tmp t :: r, K => lres P e m r fun l => K (e t :: l)
  | .cell a t :: r, K => match e a with
    | .ptr id o => match m id with
      | some (.box cs) => o ≤ cs.length ∧ loadC P t (cs.drop o) fun lv => lres P e m r fun l => K (lv :: l)
      | _ => False
    | .sptr cs => loadC P t cs fun lv => lres P e m r fun l => K (lv :: l)
    | _ => False

def resOne (tmps : Array Value) : ResultVar → Sem Value
  | .tmp t => pure (tmps.getD t undef)
  | .cell x t => do loadVar t (← asAddr (tmps.getD x undef))

def oneOf : List LV → LV
  | [x] => x
  | l => .tup l

theorem lres_sound {P : Program} {e : Env} {m : Mem} : ∀ (rs : List ResultVar) (K : List LV → Prop), lres P e m rs K →
    ∃ l, K l ∧ ∀ (N : Nat) (c : Cx) (a : Act), Rep N c e m a → ∃ vs, (rs.mapM (resOne a.tmps)).run P c.w = .ok vs c.w ∧ RepL c l vs
  | [], K, h => ⟨[], h, fun N c a hr => ⟨[], by simp, by simp [RepL]⟩⟩
  | .tmp t :: r, K, h => by
    simp only [lres] at h
    obtain ⟨l, hK, hl⟩ := lres_sound r _ h
    refine ⟨_, hK, fun N c a hr => ?_⟩
    obtain ⟨vs, h1, h2⟩ := hl N c a hr
    refine ⟨a.tmps.getD t undef :: vs, by simp only [List.mapM_cons, Sem.run_bind, resOne, Sem.run_pure, Result.andThen_ok, h1], ?_⟩
    simp only [RepL]
    exact ⟨_, _, rfl, hr.env t, h2⟩
  | .cell x t :: r, K, h => by
    simp only [lres] at h
    have fin : ∀ (cs : List LV), loadC P t cs (fun lv => lres P e m r fun l => K (lv :: l)) → (∀ (N : Nat) (c : Cx) (a : Act), Rep N c e m a → ∃ b off vs, a.tmps.getD x undef = .pointer (some ⟨b, off, .none⟩) ∧ RepL c cs vs ∧ c.w.rangeAt b off vs) → ∃ l, K l ∧ ∀ (N : Nat) (c : Cx) (a : Act), Rep N c e m a → ∃ vs, ((ResultVar.cell x t :: r).mapM (resOne a.tmps)).run P c.w = .ok vs c.w ∧ RepL c l vs := by
      intro cs h hat
      obtain ⟨lv, hK, hv⟩ := loadC_sound h
      obtain ⟨l, hK', hl⟩ := lres_sound r _ hK
      refine ⟨_, hK', fun N c a hr => ?_⟩
      obtain ⟨b, off, us, he, hul, hra⟩ := hat N c a hr
      obtain ⟨v, hv1, hv2⟩ := hv c b off us hul hra
      obtain ⟨vs, h1, h2⟩ := hl N c a hr
      have hlv : (loadVar t ⟨b, off, .none⟩).run P c.w = .ok v c.w := by
        simpa [Instr.loadAt, Instr.sureAddr] using hv1
      refine ⟨v :: vs, ?_, by simp only [RepL]; exact ⟨_, _, rfl, hv2, h2⟩⟩
      simp only [List.mapM_cons, resOne, Sem.run_bind, he, asAddr, Sem.run_pure, Result.andThen_ok, hlv, h1]
    cases hx : e x <;> simp only [hx] at h
    case sptr cs =>
      refine fin cs h fun N c a hr => ?_
      have := hr.env x
      rw [hx] at this
      simp only [RepV] at this
      obtain ⟨b, off, vs, he, _, _, hl, _, hra⟩ := this
      exact ⟨b, off, vs, he, hl, hra⟩
    case ptr id o =>
      cases hm : m id with
      | none => simp [hm] at h
      | some le =>
        cases le with
        | map _ _ _ => simp [hm] at h
        | nest _ _ _ _ => simp [hm] at h
        | dead => simp [hm] at h
        | arr _ _ _ => simp [hm] at h
        | box cs =>
          simp only [hm] at h
          refine fin (cs.drop o) h.2 fun N c a hr => ?_
          obtain ⟨b, vs, q, hB, hh, hl, h1⟩ := cell_box hr.mem hm
          have := hr.env x
          rw [hx] at this
          simp only [RepV] at this
          obtain ⟨b', n, hB', he⟩ := this
          rw [hB] at hB'
          cases hB'
          have hra := rangeAt_drop (rangeAt_row hh) o
          simp only [Nat.zero_add] at hra
          exact ⟨b, o, _, he, hl.drop o, hra⟩

/-- The end of a function: its results, and the memory that is handed back. -/
def retQ (P : Program) (fn : Func) (pr : Nat → Prop) (R : LV → Mem → Prop) : Exit → Env → Mem → Prop
  | .ret, e, m => lres P e m fn.results.toList fun l => ∃ ml, (∀ p ∈ ml, m p.1 = some p.2) ∧ keptRefs [(0, oneOf l)] ml = true ∧ (∀ id, pr id → m id = .none ∨ Mem.of ml id ≠ .none) ∧ R (oneOf l) (Mem.of ml)
  | .normal, e, m => lres P e m fn.results.toList fun l => ∃ ml, (∀ p ∈ ml, m p.1 = some p.2) ∧ keptRefs [(0, oneOf l)] ml = true ∧ (∀ id, pr id → m id = .none ∨ Mem.of ml id ≠ .none) ∧ R (oneOf l) (Mem.of ml)
  | _, _, _ => False

theorem LCall.of_body {P : Program} {f : Nat} {fn : Func} {code : Code} {args : List LV} {m : Mem} {R : LV → Mem → Prop} (hf : P.funcs[f]? = some fn) (hb : fn.body = some code) (hn : args.length ≤ fn.ntmps)
    (h : LH P fn.ntmps (fun id => m id ≠ .none) code (retQ P fn (fun id => m id ≠ .none) R) (Env.args args) m) : ∃ lv m', LCall P f args m lv m' ∧ R lv m' := by
  obtain ⟨ex, e', m1, hx, hq⟩ := h
  have main : (lres P e' m1 fn.results.toList fun l => ∃ ml, (∀ p ∈ ml, m1 p.1 = some p.2) ∧ keptRefs [(0, oneOf l)] ml = true ∧ (∀ id, m id ≠ .none → m1 id = .none ∨ Mem.of ml id ≠ .none) ∧ R (oneOf l) (Mem.of ml)) → (ex = .ret ∨ ex = .normal) → ∃ lv m', LCall P f args m lv m' ∧ R lv m' := by
    intro hres hex
    obtain ⟨l, ⟨ml, h1, h2, h3, hR⟩, hl⟩ := lres_sound _ _ hres
    refine ⟨oneOf l, Mem.of ml, fun c vs hm ha => ?_, hR⟩
    refine calls_of_wp hf hb ?_
    have hlen := ha.length
    have hrep : Rep fn.ntmps c (Env.args args) m { tmps := vs.toArray ++ Array.replicate (fn.ntmps - vs.toArray.size) undef, defers := [] } := by
      refine ⟨fun i => ?_, hm, by simp; omega, rfl⟩
      simp only [Env.args, List.getD_eq_getElem?_getD]
      cases hi : args[i]? with
      | none => simp [RepV]
      | some x =>
        obtain ⟨v, hv, hr⟩ := ha.get hi
        have hil : i < vs.length := (List.getElem?_eq_some_iff.1 hv).1
        have : (vs.toArray ++ Array.replicate (fn.ntmps - vs.toArray.size) undef).getD i undef = v := by
          rw [Array.getD_eq_getD_getElem?, Array.getElem?_append_left (by simpa using hil)]
          simp [hv]
        rw [this]; exact hr
    refine wp_mono (hx c _ hrep) ?_
    rintro x a' w' ⟨rfl, c1, rfl, hr1, hg1⟩
    obtain ⟨us, hus, hul⟩ := hl _ c1 a' hr1
    have hone : (results fn a'.tmps).run P c1.w = .ok (if h : us.toArray.size = 1 then us.toArray[0] else .tuple us.toArray) c1.w := by
      have e1 : results fn a'.tmps = (do let vs ← fn.results.mapM (resOne a'.tmps); pure (if h : vs.size = 1 then vs[0] else .tuple vs)) := by
        unfold results
        congr 2
      rw [e1, Array.mapM_eq_mapM_toList]
      simp only [Sem.run_bind, Sem.run_map, hus, Result.andThen_ok, Sem.run_pure]
    have hrv : RepV c1 (oneOf l) (if h : us.toArray.size = 1 then us.toArray[0] else .tuple us.toArray) := by
      have hll := hul.length
      match l, us, hul with
      | [], us, hul => simp only [RepL] at hul; subst hul; simp [oneOf, RepV, RepL]
      | [x], us, hul =>
        simp only [RepL] at hul
        obtain ⟨v, vs', rfl, hv, rfl⟩ := hul
        simpa [oneOf] using hv
      | x :: y :: l, us, hul =>
        have hsz : ¬ us.toArray.size = 1 := by have := hul.length; simp at this ⊢; omega
        rw [dif_neg hsz]
        simp only [oneOf, RepV]
        exact ⟨us, rfl, hul⟩
    obtain ⟨c2, hw2, ⟨henv2, hm2, _, _⟩, hg2⟩ := Wk.cut (pr := fun id => m id ≠ .none) (e := Env.of [(0, oneOf l)]) (m := m1) [(0, oneOf l)] ml (by simp [Env.of]) h1 h2 (fun id hp => h3 id hp) 1 c1 { tmps := #[if h : us.toArray.size = 1 then us.toArray[0] else .tuple us.toArray], defers := [] }
      ⟨fun i => by
        by_cases hi : i = 0
        · subst hi; simpa [Env.of] using hrv
        · simp [Env.of, hi, RepV], hr1.mem, rfl, rfl⟩
    have hv2 := henv2 0
    simp only [Env.of, if_true] at hv2
    have hpost : a'.defers = [] ∧ ∃ v, (results fn a'.tmps).run P c1.w = .ok v c1.w ∧ ∃ v' c', Ending.returned v = .returned v' ∧ c'.w = c1.w ∧ RepM c' (Mem.of ml) ∧ RepV c' (oneOf l) v' ∧ Grow (fun id => m id ≠ .none) c c' :=
      ⟨hr1.defers, _, hone, _, c2, rfl, hw2, hm2, by simpa using hv2, hg1.trans hg2⟩
    rcases hex with rfl | rfl
    · exact hpost
    · exact hpost
  cases ex with
  | ret => exact main hq (.inl rfl)
  | normal => exact main hq (.inr rfl)
  | _ => exact hq.elim

/-- A call that turns no memory. -/
def PCall (P : Program) (f : Nat) (args : List LV) (lv : LV) : Prop := LCall P f args Mem.none lv Mem.none

theorem Mem.over_none (m : Mem) : m.over Mem.none = m := by funext i; rfl

theorem PCall.of_body {P : Program} {f : Nat} {fn : Func} {code : Code} {args : List LV} {R : LV → Prop} (hf : P.funcs[f]? = some fn) (hb : fn.body = some code) (hn : args.length ≤ fn.ntmps)
    (h : LH P fn.ntmps (fun _ => False) code (retQ P fn (fun _ => False) fun lv m' => m' = Mem.none ∧ R lv) (Env.args args) Mem.none) : ∃ lv, PCall P f args lv ∧ R lv := by
  have hpr : (fun id => Mem.none id ≠ .none) = fun _ : Nat => False := by funext id; simp [Mem.none]
  obtain ⟨lv, m', h1, rfl, h2⟩ := LCall.of_body (m := Mem.none) (R := fun lv m' => m' = Mem.none ∧ R lv) hf hb hn (by rw [hpr]; exact h)
  exact ⟨lv, h1, h2⟩

/-- The one id that a call makes may bear another name. -/
theorem rename_core {c : Cx} {i j : Nat} {le : LE} (hp : (match le with | .box cs => LV.pureL cs | .arr _ _ _ => true | .map _ _ _ => true | .nest _ _ _ _ => true | .dead => true) = true) (hm : RepM c (Mem.of [(i, le)])) :
    ∃ c' : Cx, c'.w = c.w ∧ c'.O = c.O ∧ RepM c' (Mem.of [(j, le)]) ∧ c'.B j = c.B i ∧ (∀ b, c'.own b → c.own b) := by
  let c' : Cx := ⟨c.w, fun k => if k = j then c.B i else .none, c.O⟩
  have hown : ∀ b, c'.own b → c.own b := by
    rintro b ⟨k, be, h1, h2⟩
    simp only [c'] at h1
    split at h1
    · exact ⟨i, be, h1, h2⟩
    · cases h1
  have hle : c.Le c' := ⟨Nat.le_refl _, fun b _ hX => ⟨rfl, fun hX' => hX (hX'.imp (fun h => h) (hown b))⟩⟩
  refine ⟨c', rfl, rfl, ⟨fun k => ?_, ?_, fun b ho => hm.notO b (hown b ho), hm.Olt⟩, by simp [c'], hown⟩
  · by_cases hk : k = j
    · subst hk
      have he := hm.ent i
      have hb : c'.B k = c.B i := by simp [c']
      rw [hb]
      simp only [Mem.of, if_true] at he ⊢
      cases le with
      | box cs =>
        simp only [RepE] at he ⊢
        obtain ⟨b, us, e, h1, h2, h3, h4⟩ := he
        exact ⟨b, us, e, h1, h2, RepL.mono hle cs us (fun q hq => by rw [norefL_of_pureL cs hp] at hq; cases hq) h3, h4⟩
      | arr e k' xs =>
        simp only [RepE] at he ⊢
        obtain ⟨u, us, h1, h0, h2, h3, h4, h5⟩ := he
        exact ⟨u, us, h1, h0, h2, RepL.mono hle xs us (fun q hq => by rw [norefL_of_pureL xs h5] at hq; cases hq) h3, h4, h5⟩
      | nest e k' os xs =>
        simp only [RepE] at he ⊢
        obtain ⟨u, us, bs, h1, h0, h2, h3, h4⟩ := he
        exact ⟨u, us, bs, h1, h0, h2, h3.mono hle (fun b _ => rfl), h4⟩
      | dead => simpa only [RepE] using he
      | map kt vt es =>
        simp only [RepE] at he ⊢
        obtain ⟨b, es', ck, h1, h2, h3, h4, h5, h6, h7⟩ := he
        exact ⟨b, es', ck, h1, h2, RepL.mono hle _ _ (fun j hj => by rw [norefL_of_pureL _ h5] at hj; cases hj) h3, RepL.mono hle _ _ (fun j hj => by rw [norefL_of_pureL _ h6] at hj; cases hj) h4, h5, h6, h7⟩
    · simp [Mem.of, hk, RepE, c']
  · intro k k' be be' b h1 h2 h3 h4
    simp only [c'] at h1 h2
    split at h1
    · rename_i hk
      split at h2
      · rename_i hk'; rw [hk, hk']
      · cases h2
    · cases h1

theorem LCall.renamePtr {P : Program} {f : Nat} {args : List LV} {i o : Nat} {le : LE} (j : Nat) (hp : (match le with | .box cs => LV.pureL cs | .arr _ _ _ => true | .map _ _ _ => true | .nest _ _ _ _ => true | .dead => true) = true) (h : LCall P f args Mem.none (.ptr i o) (Mem.of [(i, le)])) : LCall P f args Mem.none (.ptr j o) (Mem.of [(j, le)]) := by
  intro c vs hm ha
  refine (h c vs hm ha).mono ?_
  rintro en w' ⟨v, c1, rfl, rfl, hm1, hv1, hg⟩
  obtain ⟨c2, hw, hO, hm2, hB, hown⟩ := rename_core (j := j) hp hm1
  refine ⟨v, c2, rfl, hw, hm2, ?_, ⟨by rw [hO, hg.O], by rw [hw]; exact hg.os, by rw [hw]; exact hg.tape, by rw [hw]; exact hg.output, by rw [hw]; exact hg.drawn, by rw [hw]; exact hg.size, fun b hb ho => by rw [hw]; exact hg.keep b hb ho, fun b ho => hg.own b (hown b ho), fun id be hp => absurd rfl hp⟩⟩
  simp only [RepV] at hv1 ⊢
  rw [hB]; exact hv1

theorem LCall.renameArr {P : Program} {f : Nat} {args : List LV} {i n : Nat} {le : LE} (j : Nat) (hp : (match le with | .box cs => LV.pureL cs | .arr _ _ _ => true | .map _ _ _ => true | .nest _ _ _ _ => true | .dead => true) = true) (h : LCall P f args Mem.none (.arr i n) (Mem.of [(i, le)])) : LCall P f args Mem.none (.arr j n) (Mem.of [(j, le)]) := by
  intro c vs hm ha
  refine (h c vs hm ha).mono ?_
  rintro en w' ⟨v, c1, rfl, rfl, hm1, hv1, hg⟩
  obtain ⟨c2, hw, hO, hm2, hB, hown⟩ := rename_core (j := j) hp hm1
  refine ⟨v, c2, rfl, hw, hm2, ?_, ⟨by rw [hO, hg.O], by rw [hw]; exact hg.os, by rw [hw]; exact hg.tape, by rw [hw]; exact hg.output, by rw [hw]; exact hg.drawn, by rw [hw]; exact hg.size, fun b hb ho => by rw [hw]; exact hg.keep b hb ho, fun b ho => hg.own b (hown b ho), fun id be hp => absurd rfl hp⟩⟩
  simp only [RepV] at hv1 ⊢
  rw [hB]; exact hv1

/-- At a call of a function that turns no memory. -/
theorem PCall.callS {P : Program} {f : Nat} {args : List LV} {lv : LV} (h : PCall P f args lv) (hp : LV.pureL args = true) (m : Mem) {K : LV → Mem → Prop} (hK : K lv m) : CallS P f args m K := by
  refine ⟨lv, Mem.none, Mem.none, h, fun id hid => absurd rfl hid, fun id _ hid => absurd rfl hid, fun id hid => ?_, (fun id cs hid => by cases hid), by rw [Mem.over_none]; exact hK⟩
  rw [norefL_of_pureL args hp] at hid; cases hid

/-- The outermost call. -/
theorem PCall.calls {P : Program} {f : Nat} {args : List LV} {lv : LV} (h : PCall P f args lv) (w : World) (vs : List Value) (ha : RepL ⟨w, fun _ => .none, fun _ => False⟩ args vs) :
    Calls P f vs.toArray w fun en w' => (∃ v c', en = .returned v ∧ c'.w = w' ∧ RepV c' lv v) ∧ RowKit.Below w.heap.size w w' := by
  have hm : RepM ⟨w, fun _ => .none, fun _ => False⟩ Mem.none :=
    ⟨fun id => rfl, fun i i' be be' b h1 => by simp at h1, fun b ho => fun h => h, fun b h => h.elim⟩
  refine (h _ vs hm ha).mono ?_
  rintro en w' ⟨v, c', he, rfl, _, hv, hg⟩
  refine ⟨⟨v, c', he, rfl, hv⟩, hg.os, hg.tape, hg.output, hg.size, fun b hb => hg.keep b hb ?_⟩
  rintro ⟨id, be, h1, _⟩
  simp at h1
end Go.L
