/- A logic over logical memory, part 15: sorting as a plain function. -/
import Derived.Test.YtapnjifcfljmmaaLt
set_option linter.unusedVariables false
set_option linter.unusedSimpArgs false
namespace Go.L
theorem sorted_eq' {α : Type} {cf : α → α → Int} {ys zs : List α} (hp : zs.Perm ys) (hy : ys.Pairwise fun a b => cf a b < 0) (hz : zs.Pairwise fun a b => ¬ cf b a < 0) : zs = ys := by
  induction ys generalizing zs with
  | nil => exact hp.eq_nil
  | cons y ys ih =>
    obtain ⟨hy1, hy2⟩ := List.pairwise_cons.1 hy
    cases zs with
    | nil => exact absurd hp.symm.eq_nil (by simp)
    | cons z zs =>
      obtain ⟨hz1, hz2⟩ := List.pairwise_cons.1 hz
      have hzy : z = y := by
        rcases List.mem_cons.1 (hp.mem_iff.1 (List.mem_cons_self)) with h | h
        · exact h
        · have h1 := hy1 z h
          rcases List.mem_cons.1 (hp.mem_iff.2 (List.mem_cons_self : y ∈ y :: ys)) with h2 | h2
          · exact h2.symm
          · exact absurd h1 (hz1 y h2)
      subst hzy
      rw [ih (List.Perm.cons_inv hp) hy2 hz2]
/-- ys is xs in the strict order of c, which is an order on the members of xs -/
def SortTo {α : Type} (c : α → α → Option Int) (xs ys : List α) : Prop :=
  ys.Perm xs ∧ xs.length < 1000000 ∧ ∃ cf : α → α → Int, (∀ x ∈ xs, ∀ y ∈ xs, c x y = some (cf x y)) ∧ (∀ x ∈ xs, ¬ cf x x < 0) ∧ (∀ x ∈ xs, ∀ y ∈ xs, ∀ z ∈ xs, cf x y < 0 → cf y z < 0 → cf x z < 0) ∧
    (∀ x ∈ xs, ∀ y ∈ xs, ∀ z ∈ xs, ¬ cf x y < 0 → ¬ cf y z < 0 → ¬ cf x z < 0) ∧ ys.Pairwise fun a b => cf a b < 0
theorem SortTo.unique {α : Type} {c : α → α → Option Int} {xs ys zs : List α} (h : SortTo c xs ys) (h' : SortTo c xs zs) : ys = zs := by
  obtain ⟨hp, _, cf, hc, _, ht, _, hs⟩ := h
  obtain ⟨hp', _, cf', hc', hi', _, _, hs'⟩ := h'
  refine sorted_eq' (cf := cf') (hp.trans hp'.symm) hs' ?_
  refine List.Pairwise.imp_of_mem ?_ hs
  intro a b ha hb hab hba
  have ma := hp.mem_iff.1 ha
  have mb := hp.mem_iff.1 hb
  have h1 : cf' b a = cf b a := by have := hc b mb a ma; rw [hc' b mb a ma] at this; exact Option.some.inj this
  have h2 : cf' a a = cf a a := by have := hc a ma a ma; rw [hc' a ma a ma] at this; exact Option.some.inj this
  rw [h1] at hba
  exact hi' a ma (by rw [h2]; exact ht a ma b mb a ma hab hba)
open Classical in
noncomputable def sortF {α : Type} (c : α → α → Option Int) (xs : List α) : Option (List α) := if h : ∃ ys, SortTo c xs ys then some h.choose else .none
theorem sortF_eq {α : Type} {c : α → α → Option Int} {xs ys : List α} (h : SortTo c xs ys) : sortF c xs = some ys := by
  have hx : ∃ ys, SortTo c xs ys := ⟨ys, h⟩
  unfold sortF
  rw [dif_pos hx]
  exact congrArg some (hx.choose_spec.unique h)
theorem sortF_to {α : Type} {c : α → α → Option Int} {xs ys : List α} (h : sortF c xs = some ys) : SortTo c xs ys := by
  unfold sortF at h
  split at h
  · rename_i hx; cases h; exact hx.choose_spec
  · cases h
theorem sortF_len {α : Type} {c : α → α → Option Int} {xs ys : List α} (h : sortF c xs = some ys) : xs.length = ys.length := (sortF_to h).1.length_eq.symm
end Go.L
