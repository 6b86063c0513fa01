/- A logic over logical memory, part 21: an argument of any plain type that came in (ints, bools, structs, slices of them). -/
import Derived.Test.YtapnjifcfljmmaaLr
import Derived.Deep.Slices
set_option linter.unusedVariables false
set_option linter.unusedSimpArgs false
namespace Go.L
/-- cells that read as the type t stand for a plain value -/
def Opens (P : Program) (t : TypeId) (k : Nat) {α : Type} (f : α → LV) : Prop :=
  ∀ {H : Type} {enc : TypeId × Value → H} {W : World} {base : Nat} {sp : Nat → Bool} {hd : Bool} {fuel : Nat} {cs : List Value} {x : DataW H × List MemPlace}, DataW.trod enc P W base sp hd fuel t cs = some x →
    ∃ z : α, cs.length = k ∧ RepL (cx0 W) (f z).cells cs ∧ ∀ v ∈ cs, v.oneCell' = true
theorem opens_int {P : Program} {t : TypeId} {k : IntKind} (ht : P.underlying t = some (.int k)) : Opens P t 1 (LV.int k) := by
  intro H enc W base sp hd fuel cs x h
  obtain ⟨n, rfl, _, _⟩ := DataW.trod_int ht h
  exact ⟨n, rfl, rpC rpI rpN, fun v hv => by simp at hv; subst hv; rfl⟩
theorem opens_bool {P : Program} {t : TypeId} (ht : P.underlying t = some .bool) : Opens P t 1 LV.bool := by
  intro H enc W base sp hd fuel cs x h
  obtain ⟨b, rfl, _⟩ := DataW.trod_bool ht h
  exact ⟨b, rfl, rpC rpB rpN, fun v hv => by simp at hv; subst hv; rfl⟩
/-- a value out of its cells -/
theorem open_el {c : Cx} {x : LV} {cs : List Value} (hx : (∃ l, x = .agg l) ∨ x.scalar = true) (h : RepL c x.cells cs) (h1 : ∀ v ∈ cs, v.oneCell' = true) : ∃ u, RepV c x u ∧ u.cells.toList = cs := by
  rcases hx with ⟨l, rfl⟩ | hs
  · exact ⟨.agg cs.toArray, by simp only [RepV]; exact ⟨cs, rfl, h⟩, by simp [Value.cells]⟩
  · have hc : x.cells = [x] := by cases x <;> first | rfl | simp [LV.scalar] at hs
    rw [hc] at h
    simp only [RepL] at h
    obtain ⟨v, vs, rfl, hv, rfl⟩ := h
    refine ⟨v, hv, ?_⟩
    have := h1 v (by simp)
    cases v <;> first | rfl | simp [Value.oneCell'] at this
theorem flat_len {k : Nat} : ∀ {vs : List Value}, (∀ u ∈ vs, u.cells.size = k) → (flat vs).length = vs.length * k
  | [], _ => by simp [flat]
  | v :: vs, h => by
    have h1 := h v (by simp)
    have h2 := flat_len (k := k) (vs := vs) fun u hu => h u (by simp [hu])
    simp only [flat, List.flatMap_cons, List.length_append, List.length_cons, Array.length_toList] at h2 ⊢
    rw [h1, h2, Nat.add_mul]; omega
theorem flat_snoc (vs : List Value) (u : Value) : flat (vs ++ [u]) = flat vs ++ u.cells.toList := by simp [flat]
theorem opens_slice {P : Program} {t e : TypeId} {k : Nat} {α : Type} {f : α → LV} (ht : P.underlying t = some (.slice e)) (hc : P.cellsOf e = k) (hk : 0 < k) (hok : OkF k f) (hel : ∀ z, (∃ l, f z = .agg l) ∨ (f z).scalar = true) (he : Opens P e k f) : Opens P t 1 (lvl k f) := by
  intro H enc W base sp hd fuel cs x h
  rcases Deep.open_slice ht h with ⟨rfl, _⟩ | ⟨a, len, cap, m, n, D, Pl, rfl, hb, hl, hm, hmm, rfl, hx⟩
  · refine ⟨[], rfl, rpC ?_ rpN, fun v hv => by simp at hv; subst hv; rfl⟩
    simp only [RepV, lvl]
    exact ⟨.none, 0, rfl, Nat.le_refl _, fun _ => rfl, rfl, .inl rfl⟩
  · have hlm : len ≤ m := by rw [hmm]; split <;> omega
    -- the first n elements
    have key : ∀ n, n ≤ len → ∃ (zs : List α) (vs : List Value), zs.length = n ∧ vs.length = n ∧ RepL (cx0 W) (zs.map f) vs ∧ (∀ u ∈ vs, u.cells.size = k ∧ ∀ y ∈ u.cells, y.oneCell' = true) ∧ ∀ j v, (flat vs)[j]? = some v → W.cell? (a.add j) = some v := by
      intro n
      induction n with
      | zero => intro _; exact ⟨[], [], rfl, rfl, rpN, by simp, fun j v hv => by simp [flat] at hv⟩
      | succ n ih =>
        intro hn
        obtain ⟨zs, vs, h1, h2, h3, h4, h5⟩ := ih (by omega)
        obtain ⟨cs', g1, g2⟩ := hx n (by omega)
        obtain ⟨z, z1, z2, z3⟩ := he g2
        obtain ⟨u, u1, u2⟩ := open_el (hel z) z2 z3
        rw [hc] at g1
        obtain ⟨_, g3, g4⟩ := World.cells?_some g1
        have hus : u.cells.size = k := by rw [← Array.length_toList, u2, z1]
        refine ⟨zs ++ [z], vs ++ [u], by simp [h1], by simp [h2], ?_, ?_, ?_⟩
        · rw [List.map_append]; exact RepL.append h3 (rpC u1 rpN)
        · intro y hy
          rcases List.mem_append.1 hy with hy | hy
          · exact h4 y hy
          · simp at hy; subst hy
            exact ⟨hus, fun q hq => z3 q (by rw [← u2]; exact hq.val)⟩
        · intro j v hv
          rw [flat_snoc] at hv
          have hfl := flat_len (k := k) (vs := vs) fun u hu => (h4 u hu).1
          rw [h2] at hfl
          by_cases hj : j < (flat vs).length
          · rw [List.getElem?_append_left hj] at hv; exact h5 j v hv
          · rw [List.getElem?_append_right (by omega), u2] at hv
            have hjk : j - (flat vs).length < k := by
              have := (List.getElem?_eq_some_iff.1 hv).1; omega
            have := g4 (j - (flat vs).length) hjk
            rw [Deep.add_add, hv] at this
            rw [← this]; congr 2; omega
    obtain ⟨zs, vs, h1, h2, h3, h4, h5⟩ := key len (Nat.le_refl _)
    refine ⟨zs, rfl, rpC ?_ rpN, fun v hv => by simp at hv; subst hv; rfl⟩
    simp only [RepV, lvl]
    refine ⟨some a, cap, by simp [h1], by simpa [h1] using hl, (fun h => by cases h), hok.pureL zs, ?_⟩
    by_cases h0 : len = 0
    · left; rw [h0] at h1; simp [List.eq_nil_of_length_eq_zero h1]
    · right
      have hpos : 0 < (flat vs).length := by
        rw [flat_len (k := k) fun u hu => (h4 u hu).1, h2]; exact Nat.mul_pos (by omega) hk
      have hc0 := h5 0 (flat vs)[0] (by simp [hpos])
      obtain ⟨b, off, spot⟩ := a
      have hspot : spot = .none := by simpa [Addr.add] using World.cell?_spot hc0
      subst hspot
      refine ⟨b, off, vs, rfl, ?_, noX W b, h3, h4, ?_⟩
      · by_cases hlt : b < W.heap.size
        · exact hlt
        · have : W.heap[b]? = .none := by simp; omega
          simp [World.cell?, Addr.add, this] at hc0
      · intro j v hv
        have := h5 j v hv
        rwa [Addr.add_mid] at this
theorem spl {α : Type} {cs : List α} {o a o' : Nat} (h : o + a = o') : cs.drop o = (cs.drop o).take a ++ cs.drop o' := by
  subst h; rw [← List.drop_drop]; exact (List.take_append_drop a (cs.drop o)).symm
theorem splE {α : Type} {cs : List α} {o a : Nat} (h : cs.length ≤ o + a) : cs.drop o = (cs.drop o).take a := (List.take_of_length_le (by simp; omega)).symm
theorem opens_val {P : Program} {t : TypeId} {α : Type} {f : α → LV} (h : Opens P t 1 f) (hs : ∀ z, (f z).scalar = true) {H : Type} {enc : TypeId × Value → H} {W : World} {base : Nat} {sp : Nat → Bool} {hd : Bool} {v : Value} (hv : v.oneCell' = true) {d : DataW H} {p : List MemPlace} (ht : DataW.Trod enc P W base sp hd t v d p) : ∃ z : α, RepV (cx0 W) (f z) v := by
  obtain ⟨fuel, hf⟩ := ht
  obtain ⟨z, _, h2, _⟩ := h hf
  have hc : (f z).cells = [f z] := by have := hs z; cases hz : f z <;> rw [hz] at this <;> first | rfl | simp [LV.scalar] at this
  have hcv : v.cells.toList = [v] := by cases v <;> first | rfl | simp [Value.oneCell'] at hv
  rw [hc, hcv] at h2
  simp only [RepL] at h2
  obtain ⟨u, us, hu, h3, rfl⟩ := h2
  cases hu
  exact ⟨z, h3⟩
end Go.L
