/- Plain laws, part 2: sorted lists; the events that count; stamp.Canonical and its reference. -/
import Derived.Test.YtapnjifcfljmmaaPa
set_option linter.unusedVariables false
set_option linter.unusedSimpArgs false
namespace Go.Sh
open Go.L

/-- two strictly sorted lists with the same members are equal -/
theorem sorted_ext {α : Type} {R : α → α → Prop} (hi : ∀ a, ¬ R a a) (ht : ∀ a b c, R a b → R b c → R a c) : ∀ {xs ys : List α}, xs.Pairwise R → ys.Pairwise R → (∀ a, a ∈ xs ↔ a ∈ ys) → xs = ys
  | [], [], _, _, _ => rfl
  | [], y :: ys, _, _, h => by have := (h y).2 (by simp); simp at this
  | x :: xs, [], _, _, h => by have := (h x).1 (by simp); simp at this
  | x :: xs, y :: ys, hx, hy, h => by
    rw [List.pairwise_cons] at hx hy
    have hxy : x = y := by
      rcases List.mem_cons.1 ((h x).1 (by simp)) with h1 | h1
      · exact h1
      · rcases List.mem_cons.1 ((h y).2 (by simp)) with h2 | h2
        · exact h2.symm
        · exact absurd (ht _ _ _ (hx.1 y h2) (hy.1 x h1)) (hi x)
    subst hxy
    congr 1
    refine sorted_ext hi ht hx.2 hy.2 fun a => ?_
    have := h a
    simp only [List.mem_cons] at this
    constructor
    · intro ha
      rcases this.1 (.inr ha) with h1 | h1
      · subst h1; exact absurd (hx.1 a ha) (hi a)
      · exact h1
    · intro ha
      rcases this.2 (.inr ha) with h1 | h1
      · subst h1; exact absurd (hy.1 a ha) (hi a)
      · exact h1
/-- .. where the relation is only known on the members -/
theorem sorted_ext' {α : Type} {R : α → α → Prop} {xs ys : List α} (hi : ∀ a ∈ xs, ¬ R a a) (ht : ∀ a ∈ xs, ∀ b ∈ xs, ∀ c ∈ xs, R a b → R b c → R a c) (hx : xs.Pairwise R) (hy : ys.Pairwise R) (h : ∀ a, a ∈ xs ↔ a ∈ ys) : xs = ys := by
  refine sorted_ext (R := fun a b => a ∈ xs ∧ b ∈ xs ∧ R a b) (fun a ⟨h1, _, h2⟩ => hi a h1 h2) (fun a b c ⟨h1, h2, h3⟩ ⟨_, h5, h6⟩ => ⟨h1, h5, ht a h1 b h2 c h5 h3 h6⟩) ?_ ?_ h
  · exact List.Pairwise.imp_of_mem (fun ha hb hr => ⟨ha, hb, hr⟩) hx
  · exact List.Pairwise.imp_of_mem (fun ha hb hr => ⟨(h _).2 ha, (h _).2 hb, hr⟩) hy
/-- insertion by a relation that decides -/
def insS {α : Type} (lt : α → α → Bool) (x : α) : List α → List α
  | [] => [x]
  | y :: r => if lt x y then x :: y :: r else y :: insS lt x r
theorem mem_insS {α : Type} {lt : α → α → Bool} {x a : α} : ∀ {l : List α}, a ∈ insS lt x l ↔ a = x ∨ a ∈ l
  | [] => by simp [insS]
  | y :: r => by
    simp only [insS]
    split
    · simp
    · simp only [List.mem_cons, mem_insS (l := r)]
      constructor
      · rintro (h | h | h) <;> simp [h]
      · rintro (h | h | h) <;> simp [h]
theorem perm_insS {α : Type} {lt : α → α → Bool} {x : α} : ∀ {l : List α}, (insS lt x l).Perm (x :: l)
  | [] => .refl _
  | y :: r => by
    simp only [insS]
    split
    · exact .refl _
    · exact (perm_insS.cons y).trans (List.Perm.swap x y r)
theorem sorted_insS {α : Type} {lt : α → α → Bool} {x : α} : ∀ {l : List α}, (∀ a ∈ x :: l, ∀ b ∈ x :: l, ∀ c ∈ x :: l, lt a b = true → lt b c = true → lt a c = true) → (∀ y ∈ l, lt x y = true ∨ lt y x = true) → l.Pairwise (fun a b => lt a b = true) → (insS lt x l).Pairwise fun a b => lt a b = true
  | [], _, _, _ => by simp [insS]
  | y :: r, ht, htot, hp => by
    rw [List.pairwise_cons] at hp
    simp only [insS]
    split
    · rename_i hxy
      rw [List.pairwise_cons]
      refine ⟨fun a ha => ?_, List.pairwise_cons.2 hp⟩
      rcases List.mem_cons.1 ha with rfl | ha'
      · exact hxy
      · exact ht x (by simp) y (by simp) a (by simp [ha']) hxy (hp.1 a ha')
    · rename_i hxy
      have hyx : lt y x = true := (htot y (by simp)).resolve_left hxy
      rw [List.pairwise_cons]
      have hm2 : ∀ a, a ∈ x :: r → a ∈ x :: y :: r := fun a ha => by rcases List.mem_cons.1 ha with h | h <;> simp [h]
      refine ⟨fun a ha => ?_, sorted_insS (fun a ha b hb c hc => ht a (hm2 a ha) b (hm2 b hb) c (hm2 c hc)) (fun z hz => htot z (by simp [hz])) hp.2⟩
      rcases mem_insS.1 ha with rfl | ha
      · exact hyx
      · exact hp.1 a ha
def isort {α : Type} (lt : α → α → Bool) : List α → List α
  | [] => []
  | x :: r => insS lt x (isort lt r)
theorem perm_isort {α : Type} {lt : α → α → Bool} : ∀ {l : List α}, (isort lt l).Perm l
  | [] => .refl _
  | x :: r => perm_insS.trans (perm_isort.cons x)
theorem sorted_isort {α : Type} {lt : α → α → Bool} : ∀ {l : List α}, (∀ a ∈ l, ∀ b ∈ l, ∀ c ∈ l, lt a b = true → lt b c = true → lt a c = true) → l.Pairwise (fun a b => lt a b = true ∨ lt b a = true) → (isort lt l).Pairwise fun a b => lt a b = true
  | [], _, _ => by simp [isort]
  | x :: r, ht, hp => by
    rw [List.pairwise_cons] at hp
    simp only [isort]
    have hm : ∀ a, a ∈ x :: isort lt r → a ∈ x :: r := fun a ha => by
      rcases List.mem_cons.1 ha with h | h
      · simp [h]
      · simp [perm_isort.mem_iff.1 h]
    exact sorted_insS (fun a ha b hb c hc => ht a (hm a ha) b (hm b hb) c (hm c hc)) (fun y hy => hp.1 y (perm_isort.mem_iff.1 hy)) (sorted_isort (fun a ha b hb c hc => ht a (by simp [ha]) b (by simp [hb]) c (by simp [hc])) hp.2)
/-- slices.SortFunc by a strict order -/
theorem sortF_by {α : Type} {c : α → α → Option Int} {xs : List α} (cf : α → α → Int) (hlen : xs.length < 1000000) (hc : ∀ x ∈ xs, ∀ y ∈ xs, c x y = some (cf x y)) (hi : ∀ x ∈ xs, ¬ cf x x < 0) (ht : ∀ x ∈ xs, ∀ y ∈ xs, ∀ z ∈ xs, cf x y < 0 → cf y z < 0 → cf x z < 0)
    (hn : ∀ x ∈ xs, ∀ y ∈ xs, ∀ z ∈ xs, ¬ cf x y < 0 → ¬ cf y z < 0 → ¬ cf x z < 0) (hd : xs.Pairwise fun a b => cf a b < 0 ∨ cf b a < 0) : ∃ ys, sortF c xs = some ys ∧ ys.Perm xs ∧ ys.Pairwise fun a b => cf a b < 0 := by
  have hs := sorted_isort (lt := fun a b => decide (cf a b < 0)) (l := xs) (fun a ha b hb c hc => by simpa using ht a ha b hb c hc) (by simpa using hd)
  have hs' : (isort (fun a b => decide (cf a b < 0)) xs).Pairwise fun a b => cf a b < 0 := by simpa using hs
  exact ⟨_, sortF_eq ⟨perm_isort, hlen, cf, hc, hi, ht, hn, hs'⟩, perm_isort, hs'⟩

/- the events that count -/
def sid (x y : GStamp) : Prop := x.Source = y.Source ∧ x.Seq = y.Seq
instance (x y : GStamp) : Decidable (sid x y) := by unfold sid; infer_instance
/-- the event i of the list -/
def okAt (l : List GStamp) (i : Nat) : Prop := ∃ x, l[i]? = some x ∧ x.good = true
def disp (l : List GStamp) (cl : List Int) (i k : Nat) : Prop := ∃ x y c d, l[i]? = some x ∧ l[k]? = some y ∧ cl[i]? = some c ∧ cl[k]? = some d ∧ sid x y ∧ (x.Time ≠ y.Time ∨ c ≠ d)
def counts (l : List GStamp) (cl : List Int) (i : Nat) : Prop := okAt l i ∧ ∀ k, okAt l k → ¬ disp l cl i k ∧ (k < i → l[k]? ≠ l[i]?)
def ltAt (l : List GStamp) (a b : Int) : Prop := ∃ x y, l[a.toNat]? = some x ∧ l[b.toNat]? = some y ∧ cmpSt x y < 0
/-- the counting events in order: what Canonical is to find -/
structure IsCanon (l : List GStamp) (cl : List Int) (a : List Int) : Prop where
  sorted : a.Pairwise (ltAt l)
  mem : ∀ i, i ∈ a ↔ 0 ≤ i ∧ counts l cl i.toNat
theorem ltAt_irr (l : List GStamp) (a : Int) : ¬ ltAt l a a := by
  rintro ⟨x, y, h1, h2, h3⟩
  rw [h1] at h2; cases h2
  rw [cmpSt_lt] at h3; omega
theorem ltAt_trans (l : List GStamp) (a b c : Int) (h : ltAt l a b) (h' : ltAt l b c) : ltAt l a c := by
  obtain ⟨x, y, h1, h2, h3⟩ := h
  obtain ⟨y', z, h4, h5, h6⟩ := h'
  rw [h2] at h4; cases h4
  refine ⟨x, z, h1, h5, ?_⟩
  rw [cmpSt_lt] at *; omega
theorem IsCanon.unique {l : List GStamp} {cl : List Int} {a b : List Int} (h : IsCanon l cl a) (h' : IsCanon l cl b) : a = b :=
  sorted_ext (ltAt_irr l) (ltAt_trans l) h.sorted h'.sorted fun i => by rw [h.mem, h'.mem]
/-- what a list of events comes to -/
def Canon (l : List GStamp) (cl : List Int) (r : List Int × Int) : Prop :=
  if l.length ≠ cl.length then r = ([], 1) else ∃ a, IsCanon l cl a ∧ r = if 300 < a.length then ([], 3) else (a, 0)
theorem Canon.unique {l : List GStamp} {cl : List Int} {r s : List Int × Int} (h : Canon l cl r) (h' : Canon l cl s) : r = s := by
  unfold Canon at *
  split at h
  · rename_i hl; rw [if_pos hl] at h'; rw [h, h']
  · rename_i hl; rw [if_neg hl] at h'
    obtain ⟨a, h1, rfl⟩ := h
    obtain ⟨b, h2, rfl⟩ := h'
    rw [h1.unique h2]
end Go.Sh
