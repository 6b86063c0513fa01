/- A logic over logical memory, part 23: an owned row is lent to a call; an owned row bears another name. -/
import Derived.Test.YtapnjifcfljmmaaLx
set_option linter.unusedVariables false
set_option linter.unusedSimpArgs false
namespace Go.L
mutual
/-- does the value not speak of memory that nobody owns? -/
def LV.nolst : LV → Bool
  | .lst _ _ => false
  | .sptr _ => false
  | .agg cs => LV.nolstL cs
  | .tup cs => LV.nolstL cs
  | .fn _ cs => LV.nolstL cs
  | .bfn _ cs => LV.nolstL cs
  | _ => true
def LV.nolstL : List LV → Bool
  | [] => true
  | x :: xs => x.nolst && LV.nolstL xs
end
theorem nolstL_iff : ∀ {xs : List LV}, LV.nolstL xs = true ↔ ∀ x ∈ xs, x.nolst = true
  | [] => by simp [LV.nolstL]
  | x :: xs => by simp [LV.nolstL, nolstL_iff (xs := xs)]
mutual
theorem RepV.keepN {c c' : Cx} : ∀ (x : LV) (v : Value), x.nolst = true → (∀ id, x.noref id = false → c'.B id = c.B id) → RepV c x v → RepV c' x v
  | .und, v, _, _, h => by simp only [RepV]
  | .int _ _, v, _, _, h => by simpa only [RepV] using h
  | .bool _, v, _, _, h => by simpa only [RepV] using h
  | .nil, v, _, _, h => by simpa only [RepV] using h
  | .slen _, v, _, _, h => by simpa only [RepV] using h
  | .nilf, v, _, _, h => by simpa only [RepV] using h
  | .nilp, v, _, _, h => by simpa only [RepV] using h
  | .lst _ _, v, hn, _, h => by simp [LV.nolst] at hn
  | .sptr _, v, hn, _, h => by simp [LV.nolst] at hn
  | .arr id n, v, _, hB, h => by simp only [RepV] at h ⊢; rw [hB id (by simp [LV.noref])]; exact h
  | .ptr id o, v, _, hB, h => by simp only [RepV] at h ⊢; rw [hB id (by simp [LV.noref])]; exact h
  | .eptr id n i o, v, _, hB, h => by simp only [RepV] at h ⊢; rw [hB id (by simp [LV.noref])]; exact h
  | .mp id, v, _, hB, h => by simp only [RepV] at h ⊢; rw [hB id (by simp [LV.noref])]; exact h
  | .agg cs, v, hn, hB, h => by
    simp only [RepV] at h ⊢
    obtain ⟨vs, h1, h2⟩ := h
    exact ⟨vs, h1, RepL.keepN cs vs (by simpa [LV.nolst] using hn) (fun id hid => hB id (by simpa [LV.noref] using hid)) h2⟩
  | .tup cs, v, hn, hB, h => by
    simp only [RepV] at h ⊢
    obtain ⟨vs, h1, h2⟩ := h
    exact ⟨vs, h1, RepL.keepN cs vs (by simpa [LV.nolst] using hn) (fun id hid => hB id (by simpa [LV.noref] using hid)) h2⟩
  | .fn f cs, v, hn, hB, h => by
    simp only [RepV] at h ⊢
    obtain ⟨vs, h1, h2⟩ := h
    exact ⟨vs, h1, RepL.keepN cs vs (by simpa [LV.nolst] using hn) (fun id hid => hB id (by simpa [LV.noref] using hid)) h2⟩
  | .bfn f cs, v, hn, hB, h => by
    simp only [RepV] at h ⊢
    obtain ⟨vs, h1, h2⟩ := h
    exact ⟨vs, h1, RepL.keepN cs vs (by simpa [LV.nolst] using hn) (fun id hid => hB id (by simpa [LV.noref] using hid)) h2⟩
theorem RepL.keepN {c c' : Cx} : ∀ (xs : List LV) (vs : List Value), LV.nolstL xs = true → (∀ id, LV.norefL id xs = false → c'.B id = c.B id) → RepL c xs vs → RepL c' xs vs
  | [], vs, _, _, h => by simpa only [RepL] using h
  | x :: xs, vs, hn, hB, h => by
    simp only [RepL] at h ⊢
    obtain ⟨v, vs', rfl, h1, h2⟩ := h
    simp only [LV.nolstL, Bool.and_eq_true] at hn
    exact ⟨v, vs', rfl, RepV.keepN x v hn.1 (fun id hid => hB id (by simp [LV.norefL, hid])) h1, RepL.keepN xs vs' hn.2 (fun id hid => hB id (by simp [LV.norefL, hid])) h2⟩
end
/-- a piece of memory that speaks neither of memory that nobody owns nor of id -/
def LE.plain (id : Nat) : LE → Prop
  | .box cs => LV.nolstL cs = true ∧ LV.norefL id cs = true
  | .arr _ _ xs => LV.nolstL xs = true
  | .map _ _ es => LV.nolstL (es.map (·.1)) = true ∧ LV.nolstL (es.map (·.2)) = true
  | .nest _ _ _ _ => False
  | .dead => True
theorem RepE.keepN {c c' : Cx} {id : Nat} (hw : c'.w = c.w) (hB : ∀ i, i ≠ id → c'.B i = c.B i) {x : LE} (hx : x.plain id) {y : Option BE} (h : RepE c (some x) y) : RepE c' (some x) y := by
  cases x with
  | box cs =>
    simp only [RepE] at h ⊢
    obtain ⟨b, vs, e, h1, h2, h3, h4⟩ := h
    exact ⟨b, vs, e, h1, by rw [hw]; exact h2, RepL.keepN cs vs hx.1 (fun i hi => hB i (fun he => by subst he; rw [hx.2] at hi; cases hi)) h3, h4⟩
  | arr e k xs =>
    simp only [RepE] at h ⊢
    obtain ⟨u, vs, h1, h0, h2, h3, h4, h5⟩ := h
    exact ⟨u, vs, h1, h0, by rw [hw]; exact h2, RepL.keepN xs vs hx (fun i hi => by rw [norefL_of_pureL xs h5] at hi; cases hi) h3, h4, h5⟩
  | nest e k os xs => exact hx.elim
  | dead => simpa only [RepE] using h
  | map kt vt es =>
    simp only [RepE] at h ⊢
    obtain ⟨b, es', ck, h1, h2, h3, h4, h5, h6, h7⟩ := h
    exact ⟨b, es', ck, h1, by rw [hw]; exact h2, RepL.keepN _ _ hx.1 (fun i hi => by rw [norefL_of_pureL _ h5] at hi; cases hi) h3, RepL.keepN _ _ hx.2 (fun i hi => by rw [norefL_of_pureL _ h6] at hi; cases hi) h4, h5, h6, h7⟩
/-- the arguments as the caller has them, and as the callee sees them -/
inductive LendL (id k : Nat) (xs : List LV) : List LV → List LV → Prop
  | nil : LendL id k xs [] []
  | row {n : Nat} {l l' : List LV} (hn : n = xs.length) (h : LendL id k xs l l') : LendL id k xs (.arr id n :: l) (.lst k xs :: l')
  | keep {x : LV} {l l' : List LV} (hx : x.noref id = true) (h : LendL id k xs l l') : LendL id k xs (x :: l) (x :: l')
theorem LendL.rep {id k : Nat} {xs : List LV} {c c' : Cx} (hV : ∀ x v, x.noref id = true → RepV c x v → RepV c' x v) (hR : ∀ v, RepV c (.arr id xs.length) v → RepV c' (.lst k xs) v) : ∀ {l l' : List LV} (h : LendL id k xs l l') {vs : List Value}, RepL c l vs → RepL c' l' vs
  | _, _, .nil, vs, hr => by simpa only [RepL] using hr
  | _, _, .row hn h, vs, hr => by
    subst hn
    simp only [RepL] at hr ⊢
    obtain ⟨v, vs', rfl, h1, h2⟩ := hr
    exact ⟨v, vs', rfl, hR v h1, h.rep hV hR h2⟩
  | _, _, .keep hx h, vs, hr => by
    simp only [RepL] at hr ⊢
    obtain ⟨v, vs', rfl, h1, h2⟩ := hr
    exact ⟨v, vs', rfl, hV _ v hx h1, h.rep hV hR h2⟩
def PlainM (id : Nat) (ml : List (Nat × LE)) : Prop := ∀ i le, Mem.of ml i = some le → le.plain id
theorem plN {id : Nat} : PlainM id [] := fun i le h => by simp [Mem.of] at h
theorem plC {id i : Nat} {le : LE} {ml : List (Nat × LE)} (h : le.plain id) (hr : PlainM id ml) : PlainM id ((i, le) :: ml) := fun j le' hj => by
  simp only [Mem.of] at hj
  split at hj
  · cases hj; exact h
  · exact hr j le' hj
theorem plA {α : Type} {f : α → LV} {id e k : Nat} {xs : List α} (h : ∀ z, (f z).nolst = true) : (LE.arr e k (xs.map f)).plain id := by
  show LV.nolstL (xs.map f) = true
  rw [nolstL_iff]; intro x hx
  obtain ⟨z, _, rfl⟩ := List.mem_map.1 hx
  exact h z
/-- AN OWNED ROW IS LENT TO A CALL, which sees a list, and is the caller's own again behind it, as it was. -/
theorem LCall.lend {P : Program} {f : Nat} {args args' : List LV} {ml ml' : List (Nat × LE)} {r : LV} (id e k : Nat) {xs : List LV} (h : LCall P f args' (Mem.of ml) r (Mem.of ml')) (ha : LendL id k xs args args')
    (h1 : Mem.of ml id = .none) (h2 : Mem.of ml' id = .none) (hfree : freeB id ml = true) (hr : r.nolst = true) (hrn : r.noref id = true) (hpl : PlainM id ml') :
    LCall P f args (Mem.of ((id, .arr e k xs) :: ml)) r (Mem.of ((id, .arr e k xs) :: ml')) := by
  intro c vs hm hargs
  have hid : Mem.of ((id, LE.arr e k xs) :: ml) id = some (.arr e k xs) := by simp [Mem.of]
  obtain ⟨u, us, hB, hk, hown, hl, hc, hp⟩ := cell_arr hm hid
  have hbox : ∀ i cs, i ≠ id → Mem.of ((id, LE.arr e k xs) :: ml) i = some (.box cs) → LV.norefL id cs = true := fun i cs hi hmi => by
    simp only [Mem.of, hi, if_false] at hmi
    exact freeB_of hfree i cs hi hmi
  obtain ⟨c1, hw, hO, hm1, hV, hown1, hX, hB1⟩ := hm.del id hbox
  have hdel : (Mem.of ((id, LE.arr e k xs) :: ml)).del id = Mem.of ml := by
    funext i
    unfold Mem.del
    by_cases hi : i = id
    · subst hi; simp [h1]
    · simp [hi, Mem.of]
  rw [hdel] at hm1
  have hle01 : c.Le c1 := ⟨by rw [hw]; exact Nat.le_refl _, fun b _ hx => ⟨by rw [hw], fun hx' => hx (hx'.imp (fun h => by rw [hO] at h; exact h) (hown1 b))⟩⟩
  have hR : ∀ v, RepV c (.arr id xs.length) v → RepV c1 (.lst k xs) v := by
    intro v hv
    obtain ⟨vs', hBb, hk', hown', hl', hc', hp'⟩ := arr_now hm hv hid rfl
    simp only [RepV]
    have hl'' := RepL.mono hle01 xs vs' (fun j hj => by rw [norefL_of_pureL xs hp'] at hj; cases hj) hl'
    rcases hown'.2 with ⟨rfl, h0⟩ | ⟨g, cap, cur, rfl, _, hg, hnc, _⟩
    · exact ⟨.none, 0, by rw [h0], by omega, fun _ => rfl, hp', .inl (List.eq_nil_of_length_eq_zero h0)⟩
    · refine ⟨some ⟨g, 0, .none⟩, cap, rfl, hnc, by simp, hp', .inr ⟨g, 0, vs', rfl, by rw [hw]; exact (Array.getElem?_eq_some_iff.1 hg).1, hX g _ hBb (.inl rfl), hl'', hc', ?_⟩⟩
      rw [hw]; exact rangeAt_own hown' rfl
  have hcall := h c1 vs hm1 (ha.rep hV hR hargs)
  rw [hw] at hcall
  refine hcall.mono ?_
  rintro en w' ⟨v, c2, rfl, rfl, hm2, hv2, hg⟩
  have hB2 : c2.B id = .none := hm2.fresh h2
  -- the block of the row
  have hblk : ∀ b, u.ownBlock = some b → b < c.w.heap.size ∧ c2.w.heap[b]? = c.w.heap[b]? ∧ ¬ c2.own b ∧ ¬ c2.O b := by
    intro b hb
    have hlt := (hm.ent id).lt hB (show (BE.arr u k xs.length []).has b from .inl hb)
    have hnx : ¬ c1.X b := hX b _ hB (.inl hb)
    have hno : ¬ c1.own b := fun ho => hnx (.inr ho)
    refine ⟨hlt, ?_, ?_, ?_⟩
    · have := hg.keep b (by rw [hw]; exact hlt) hno; rw [hw] at this; exact this
    · intro ho
      rcases hg.own b ho with h' | h'
      · exact hno h'
      · rw [hw] at h'; omega
    · rw [hg.O]; exact fun ho => hnx (.inl ho)
  let c3 : Cx := ⟨c2.w, fun i => if i = id then c.B id else c2.B i, c2.O⟩
  have hB3 : ∀ i, i ≠ id → c3.B i = c2.B i := fun i hi => by simp [c3, hi]
  have hB3i : c3.B id = c.B id := by simp [c3]
  have hown3 : ∀ b, c3.own b → c2.own b ∨ u.ownBlock = some b := by
    rintro b ⟨i, be, g1, g2⟩
    by_cases hi : i = id
    · subst hi; rw [hB3i, hB] at g1; cases g1; exact .inr (g2.elim (fun h => h) (fun h => by cases h))
    · rw [hB3 i hi] at g1; exact .inl ⟨i, be, g1, g2⟩
  have hO3 : c3.O = c.O := by show c2.O = c.O; rw [hg.O, hO]
  have hle03 : c.Le c3 := by
    refine ⟨by have := hg.size; rw [hw] at this; exact this, fun b hb hx => ⟨?_, ?_⟩⟩
    · have := hg.keep b (by rw [hw]; exact hb) (fun ho => hx (.inr (hown1 b ho))); rw [hw] at this; exact this
    · rintro (ho | ho)
      · rw [hO3] at ho; exact hx (.inl ho)
      · rcases hown3 b ho with h' | h'
        · rcases hg.own b h' with h'' | h''
          · exact hx (.inr (hown1 b h''))
          · rw [hw] at h''; omega
        · exact hx (.inr ⟨id, _, hB, .inl h'⟩)
  refine ⟨v, c3, rfl, rfl, ⟨fun i => ?_, ?_, ?_, ?_⟩, ?_, ?_⟩
  · by_cases hi : i = id
    · subst hi
      rw [hB3i, hB]
      simp only [Mem.of, if_true, RepE]
      exact ⟨u, us, rfl, hk, ownsRow_same hown (fun b hb => (hblk b hb).2.1), RepL.mono hle03 xs us (fun j hj => by rw [norefL_of_pureL xs hp] at hj; cases hj) hl, hc, hp⟩
    · rw [hB3 i hi]
      simp only [Mem.of, hi, if_false]
      have he := hm2.ent i
      cases hmi : Mem.of ml' i with
      | none => rw [hmi] at he; simpa only [RepE] using he
      | some le => rw [hmi] at he; exact RepE.keepN (c := c2) (c' := c3) rfl hB3 (hpl i le hmi) he
  · intro i j be be' b g1 g2 g3 g4
    by_cases hi : i = id
    · by_cases hj : j = id
      · rw [hi, hj]
      · subst hi
        rw [hB3i, hB] at g1; cases g1
        rw [hB3 j hj] at g2
        exact absurd ⟨j, be', g2, g4⟩ (hblk b (g3.elim (fun h => h) (fun h => by cases h))).2.2.1
    · by_cases hj : j = id
      · subst hj
        rw [hB3i, hB] at g2; cases g2
        rw [hB3 i hi] at g1
        exact absurd ⟨i, be, g1, g3⟩ (hblk b (g4.elim (fun h => h) (fun h => by cases h))).2.2.1
      · rw [hB3 i hi] at g1; rw [hB3 j hj] at g2
        exact hm2.inj i j be be' b g1 g2 g3 g4
  · intro b ho
    rcases hown3 b ho with h' | h'
    · exact hm2.notO b h'
    · exact (hblk b h').2.2.2
  · intro b ho; exact hm2.Olt b ho
  · exact RepV.keepN r v hr (fun i hi => hB3 i (fun he => by subst he; rw [hrn] at hi; cases hi)) hv2
  · refine ⟨hO3, ?_, ?_, ?_, ?_, ?_, ?_, ?_, ?_⟩
    · have := hg.os; rw [hw] at this; exact this
    · have := hg.tape; rw [hw] at this; exact this
    · have := hg.output; rw [hw] at this; exact this
    · have := hg.drawn; rw [hw] at this; exact this
    · have := hg.size; rw [hw] at this; exact this
    · intro b hb ho
      have := hg.keep b (by rw [hw]; exact hb) (fun ho' => ho (hown1 b ho')); rw [hw] at this; exact this
    · intro b ho
      rcases hown3 b ho with h' | h'
      · rcases hg.own b h' with h'' | h''
        · exact .inl (hown1 b h'')
        · rw [hw] at h''; exact .inr h''
      · exact .inl ⟨id, _, hB, .inl h'⟩
    · intro i be hpi hbi
      by_cases hi : i = id
      · subst hi; exact ⟨be, by rw [hB3i]; exact hbi, .refl be⟩
      · rw [hB3 i hi]
        have hb1 : c1.B i = some be := by rw [hB1 i hi]; exact hbi
        exact hg.prot i be (by simpa [Mem.of, hi] using hpi) hb1
mutual
/-- a value where the name i is j -/
def LV.ren (i j : Nat) : LV → LV
  | .arr id n => .arr (if id = i then j else id) n
  | .agg cs => .agg (LV.renL i j cs)
  | .tup cs => .tup (LV.renL i j cs)
  | x => x
def LV.renL (i j : Nat) : List LV → List LV
  | [] => []
  | x :: xs => x.ren i j :: LV.renL i j xs
end
mutual
theorem RepV.ren {c c' : Cx} {i j : Nat} (hle : c.Le c') (hB : c'.B j = c.B i) (hj : c.B j = .none) (hk : ∀ k, k ≠ i → k ≠ j → c'.B k = c.B k) : ∀ (x : LV) (v : Value), (x.ren i j).noref i = true → RepV c x v → RepV c' (x.ren i j) v
  | .arr id n, v, hn, h => by
    simp only [LV.ren, RepV] at h ⊢
    by_cases hi : id = i
    · simp only [hi, if_true, hB]; rw [hi] at h; exact h
    · simp only [hi, if_false]
      have hij : id ≠ j := fun he => by rw [he, hj] at h; obtain ⟨_, _, _, _, _, h1, _⟩ := h; cases h1
      rw [hk id hi hij]; exact h
  | .agg cs, v, hn, h => by
    simp only [LV.ren, RepV] at h ⊢
    obtain ⟨vs, h1, h2⟩ := h
    exact ⟨vs, h1, RepL.ren hle hB hj hk cs vs (by simpa [LV.ren, LV.noref] using hn) h2⟩
  | .tup cs, v, hn, h => by
    simp only [LV.ren, RepV] at h ⊢
    obtain ⟨vs, h1, h2⟩ := h
    exact ⟨vs, h1, RepL.ren hle hB hj hk cs vs (by simpa [LV.ren, LV.noref] using hn) h2⟩
  | .und, v, hn, h => by simp only [LV.ren, RepV]
  | .int k n, v, hn, h => by simpa only [LV.ren, RepV] using h
  | .bool b, v, hn, h => by simpa only [LV.ren, RepV] using h
  | .nil, v, hn, h => by simpa only [LV.ren, RepV] using h
  | .slen _, v, hn, h => by simpa only [LV.ren, RepV] using h
  | .nilf, v, hn, h => by simpa only [LV.ren, RepV] using h
  | .nilp, v, hn, h => by simpa only [LV.ren, RepV] using h
  | .lst k xs, v, hn, h => by simp only [LV.ren] at hn ⊢; exact RepV.mono hle _ v (fun id hid => by simp [LV.noref] at hid) h
  | .sptr cs, v, hn, h => by
    simp only [LV.ren, LV.noref] at hn ⊢
    refine RepV.mono hle _ v (fun k hk' => ?_) h
    by_cases hki : k = i
    · subst hki; simp only [LV.noref] at hk'; rw [hn] at hk'; cases hk'
    · by_cases hij : k = j
      · rw [hij, hj]; trivial
      · rw [hk k hki hij]; exact BLe.refl _
  | .ptr id o, v, hn, h => by
    simp only [LV.ren, LV.noref, bne_iff_ne] at hn ⊢
    refine RepV.mono hle _ v (fun k hk' => ?_) h
    simp only [LV.noref, bne_eq_false_iff_eq] at hk'
    subst hk'
    by_cases hij : id = j
    · rw [hij, hj]; trivial
    · rw [hk id hn hij]; exact BLe.refl _
  | .eptr id n q o, v, hn, h => by
    simp only [LV.ren, LV.noref, bne_iff_ne] at hn ⊢
    refine RepV.mono hle _ v (fun k hk' => ?_) h
    simp only [LV.noref, bne_eq_false_iff_eq] at hk'
    subst hk'
    by_cases hij : id = j
    · rw [hij, hj]; trivial
    · rw [hk id hn hij]; exact BLe.refl _
  | .mp id, v, hn, h => by
    simp only [LV.ren, LV.noref, bne_iff_ne] at hn ⊢
    refine RepV.mono hle _ v (fun k hk' => ?_) h
    simp only [LV.noref, bne_eq_false_iff_eq] at hk'
    subst hk'
    by_cases hij : id = j
    · rw [hij, hj]; trivial
    · rw [hk id hn hij]; exact BLe.refl _
  | .fn f cs, v, hn, h => by
    simp only [LV.ren, LV.noref] at hn ⊢
    refine RepV.mono hle _ v (fun k hk' => ?_) h
    by_cases hki : k = i
    · subst hki; simp only [LV.noref] at hk'; rw [hn] at hk'; cases hk'
    · by_cases hij : k = j
      · rw [hij, hj]; trivial
      · rw [hk k hki hij]; exact BLe.refl _
  | .bfn f cs, v, hn, h => by
    simp only [LV.ren, LV.noref] at hn ⊢
    refine RepV.mono hle _ v (fun k hk' => ?_) h
    by_cases hki : k = i
    · subst hki; simp only [LV.noref] at hk'; rw [hn] at hk'; cases hk'
    · by_cases hij : k = j
      · rw [hij, hj]; trivial
      · rw [hk k hki hij]; exact BLe.refl _
theorem RepL.ren {c c' : Cx} {i j : Nat} (hle : c.Le c') (hB : c'.B j = c.B i) (hj : c.B j = .none) (hk : ∀ k, k ≠ i → k ≠ j → c'.B k = c.B k) : ∀ (xs : List LV) (vs : List Value), LV.norefL i (LV.renL i j xs) = true → RepL c xs vs → RepL c' (LV.renL i j xs) vs
  | [], vs, hn, h => by simpa only [LV.renL, RepL] using h
  | x :: xs, vs, hn, h => by
    simp only [LV.renL, RepL] at h ⊢
    obtain ⟨v, vs', rfl, h1, h2⟩ := h
    simp only [LV.renL, LV.norefL, Bool.and_eq_true] at hn
    exact ⟨v, vs', rfl, RepV.ren hle hB hj hk x v hn.1 h1, RepL.ren hle hB hj hk xs vs' hn.2 h2⟩
end
/-- the memory where the row i is named j -/
theorem RepM.ren {c : Cx} {ml : List (Nat × LE)} {i j e k : Nat} {xs : List LV} (hij : i ≠ j) (h : RepM c (Mem.of ml)) (hi : Mem.of ml i = some (.arr e k xs)) (hj : Mem.of ml j = .none) (hfree : freeB i ml = true) :
    ∃ c' : Cx, c'.w = c.w ∧ c'.O = c.O ∧ RepM c' (Mem.of ((j, .arr e k xs) :: ml.filter fun q => q.1 != i)) ∧ c.Le c' ∧ c'.B j = c.B i ∧ (∀ q, q ≠ i → q ≠ j → c'.B q = c.B q) ∧ ∀ b, c'.own b ↔ c.own b := by
  have hBj := h.fresh hj
  let c' : Cx := ⟨c.w, fun q => if q = j then c.B i else if q = i then .none else c.B q, c.O⟩
  have e1 : c'.B j = c.B i := by simp [c']
  have e2 : c'.B i = .none := by simp [c', hij]
  have e3 : ∀ q, q ≠ i → q ≠ j → c'.B q = c.B q := fun q h1 h2 => by simp [c', h1, h2]
  have hown : ∀ b, c'.own b ↔ c.own b := by
    intro b
    constructor
    · rintro ⟨q, be, g1, g2⟩
      by_cases hq : q = j
      · subst hq; rw [e1] at g1; exact ⟨i, be, g1, g2⟩
      · by_cases hq' : q = i
        · subst hq'; rw [e2] at g1; cases g1
        · rw [e3 q hq' hq] at g1; exact ⟨q, be, g1, g2⟩
    · rintro ⟨q, be, g1, g2⟩
      by_cases hq : q = j
      · subst hq; rw [hBj] at g1; cases g1
      · by_cases hq' : q = i
        · subst hq'; exact ⟨j, be, by rw [e1]; exact g1, g2⟩
        · exact ⟨q, be, by rw [e3 q hq' hq]; exact g1, g2⟩
  have hle : c.Le c' := ⟨Nat.le_refl _, fun b _ hx => ⟨rfl, fun hx' => hx (hx'.imp (fun h => h) (hown b).1)⟩⟩
  refine ⟨c', rfl, rfl, ⟨fun q => ?_, ?_, fun b ho => h.notO b ((hown b).1 ho), h.Olt⟩, hle, e1, e3, hown⟩
  · rw [show Mem.of ((j, LE.arr e k xs) :: ml.filter fun q => q.1 != i) q = if q = j then some (LE.arr e k xs) else Mem.of (ml.filter fun q => q.1 != i) q from rfl, ← Mem.of_del]
    by_cases hq : q = j
    · subst hq
      rw [e1]
      have he := h.ent i
      rw [hi] at he
      simp only [if_true, RepE] at he ⊢
      obtain ⟨u, vs, h1, h0, h2, h3, h4, h5⟩ := he
      exact ⟨u, vs, h1, h0, h2, RepL.mono hle xs vs (fun z hz => by rw [norefL_of_pureL xs h5] at hz; cases hz) h3, h4, h5⟩
    · simp only [hq, if_false]
      by_cases hq' : q = i
      · subst hq'; rw [e2]; simp [Mem.del, RepE]
      · rw [e3 q hq' hq]
        have he := h.ent q
        simp only [Mem.del, hq', if_false]
        cases hmq : Mem.of ml q with
        | none => rw [hmq] at he; simpa only [RepE] using he
        | some le =>
          rw [hmq] at he
          have hBk : ∀ z, z ≠ i → BLe (c.B z) (c'.B z) := fun z hz => by
            by_cases hzj : z = j
            · subst hzj; rw [hBj]; trivial
            · rw [e3 z hz hzj]; exact BLe.refl _
          cases le with
          | box cs =>
            simp only [RepE] at he ⊢
            obtain ⟨b, vs, e', h1, h2, h3, h4⟩ := he
            exact ⟨b, vs, e', h1, h2, RepL.mono hle cs vs (fun z hz => hBk z (fun hc => by subst hc; rw [freeB_of hfree q cs hq' hmq] at hz; cases hz)) h3, h4⟩
          | arr e' k' xs' =>
            simp only [RepE] at he ⊢
            obtain ⟨u, vs, h1, h0, h2, h3, h4, h5⟩ := he
            exact ⟨u, vs, h1, h0, h2, RepL.mono hle xs' vs (fun z hz => by rw [norefL_of_pureL xs' h5] at hz; cases hz) h3, h4, h5⟩
          | nest e' k' os xs' =>
            simp only [RepE] at he ⊢
            obtain ⟨u, vs, bs, h1, h0, h2, h3, h4⟩ := he
            exact ⟨u, vs, bs, h1, h0, h2, h3.mono hle (fun b _ => rfl), h4⟩
          | dead => simpa only [RepE] using he
          | map kt vt es =>
            simp only [RepE] at he ⊢
            obtain ⟨b, es', ck, h1, h2, h3, h4, h5, h6, h7⟩ := he
            exact ⟨b, es', ck, h1, h2, RepL.mono hle _ _ (fun z hz => by rw [norefL_of_pureL _ h5] at hz; cases hz) h3, RepL.mono hle _ _ (fun z hz => by rw [norefL_of_pureL _ h6] at hz; cases hz) h4, h5, h6, h7⟩
  · intro q q' be be' b g1 g2 g3 g4
    have key : ∀ q be, c'.B q = some be → ∃ p, c.B p = some be ∧ (q = j ∧ p = i ∨ q ≠ j ∧ q ≠ i ∧ p = q) := fun q be g => by
      by_cases hq : q = j
      · subst hq; rw [e1] at g; exact ⟨i, g, .inl ⟨rfl, rfl⟩⟩
      · by_cases hq' : q = i
        · subst hq'; rw [e2] at g; cases g
        · rw [e3 q hq' hq] at g; exact ⟨q, g, .inr ⟨hq, hq', rfl⟩⟩
    obtain ⟨p, p1, p2⟩ := key q be g1
    obtain ⟨p', p1', p2'⟩ := key q' be' g2
    have := h.inj p p' be be' b p1 p1' g3 g4
    rcases p2 with ⟨a1, a2⟩ | ⟨a1, a2, a3⟩ <;> rcases p2' with ⟨b1, b2⟩ | ⟨b1, b2, b3⟩
    · rw [a1, b1]
    · exact absurd (this.symm.trans a2 |>.symm.trans b3 |>.symm) b2
    · exact absurd (a3.symm.trans (this.trans b2)) a2
    · rw [← a3, ← b3]; exact this
theorem Env.of_ren (i j : Nat) : ∀ (el : List (Nat × LV)) (q : Nat), Env.of (el.map fun p => (p.1, p.2.ren i j)) q = (Env.of el q).ren i j
  | [], q => rfl
  | (d, v) :: r, q => by
    simp only [List.map_cons, Env.of]
    split
    · rfl
    · exact Env.of_ren i j r q
def renOk (i j : Nat) (el : List (Nat × LV)) : Bool := el.all fun p => (p.2.ren i j).noref i
theorem renOk_of {i j : Nat} : ∀ {el : List (Nat × LV)}, renOk i j el = true → ∀ q, ((Env.of el q).ren i j).noref i = true
  | [], _, q => rfl
  | (d, v) :: r, h, q => by
    simp only [renOk, List.all_cons, Bool.and_eq_true] at h
    simp only [Env.of]
    split
    · exact h.1
    · exact renOk_of h.2 q
/-- AN OWNED ROW BEARS ANOTHER NAME. -/
theorem Wk.ren {pr : Nat → Prop} {el : List (Nat × LV)} {ml : List (Nat × LE)} (i j : Nat) {e k : Nat} {xs : List LV} (hij : (i == j) = false) (hi : Mem.of ml i = some (.arr e k xs)) (hj : Mem.of ml j = .none) (hfree : freeB i ml = true) (hel : renOk i j el = true) (hpr : ¬ pr i) :
    Wk pr (Env.of el) (Mem.of ml) (Env.of (el.map fun p => (p.1, p.2.ren i j))) (Mem.of ((j, .arr e k xs) :: ml.filter fun q => q.1 != i)) := by
  intro N c a hrep
  obtain ⟨c', hw, hO, hm', hle, e1, e3, hown⟩ := hrep.mem.ren (by simpa using hij) hi hj hfree
  have hBj := hrep.mem.fresh hj
  refine ⟨c', hw, ⟨fun q => ?_, hm', hrep.size, hrep.defers⟩, ?_⟩
  · rw [Env.of_ren]
    exact RepV.ren hle e1 hBj e3 _ _ (renOk_of hel q) (hrep.env q)
  · refine ⟨hO, by rw [hw], by rw [hw], by rw [hw], by rw [hw]; exact Nat.le_refl _, by rw [hw]; exact Nat.le_refl _, fun b _ _ => by rw [hw], fun b ho => .inl ((hown b).1 ho), fun q be hp hb => ?_⟩
    by_cases hq : q = j
    · subst hq; rw [hBj] at hb; cases hb
    · exact ⟨be, by rw [e3 q (fun hc => hpr (hc ▸ hp)) hq]; exact hb, .refl be⟩
/-- the result's own row under another name -/
theorem LCall.renT {P : Program} {f : Nat} {args : List LV} {i e k : Nat} {xs : List LV} {r : LV} (j : Nat) (hij : (i == j) = false) (hr : (r.ren i j).noref i = true) (h : LCall P f args (Mem.of []) r (Mem.of [(i, .arr e k xs)])) : LCall P f args (Mem.of []) (r.ren i j) (Mem.of [(j, .arr e k xs)]) := by
  intro c vs hm ha
  refine (h c vs hm ha).mono ?_
  rintro en w' ⟨v, c1, rfl, rfl, hm1, hv1, hg⟩
  have hij' : ¬ i = j := by simpa using hij
  have hj : Mem.of [(i, LE.arr e k xs)] j = .none := by simp [Mem.of, Ne.symm hij']
  obtain ⟨c2, hw, hO, hm2, hle, e1, e3, hown⟩ := hm1.ren (e := e) (k := k) (xs := xs) hij' (by simp [Mem.of]) hj (by simp [freeB])
  refine ⟨v, c2, rfl, hw, by simpa using hm2, RepV.ren hle e1 (hm1.fresh hj) e3 r v hr hv1, ⟨by rw [hO, hg.O], by rw [hw]; exact hg.os, by rw [hw]; exact hg.tape, by rw [hw]; exact hg.output, by rw [hw]; exact hg.drawn, by rw [hw]; exact hg.size, fun b hb ho => by rw [hw]; exact hg.keep b hb ho, fun b ho => hg.own b ((hown b).1 ho), fun id be hp => absurd rfl hp⟩⟩
end Go.L
