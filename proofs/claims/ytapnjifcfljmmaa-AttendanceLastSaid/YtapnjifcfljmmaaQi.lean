/- Plain laws, part 9: the tape's orders. -/
import Derived.Test.YtapnjifcfljmmaaQh
set_option linter.unusedVariables false
set_option linter.unusedSimpArgs false
namespace Go.Sh
open Go.L

theorem torder_s {F : Nat} {t : GTape} (ht : Tp t) {m : Nat} (hm : m ≤ 1000) (hF : m < F) : ∃ o t', GTape_Order F t m = some (o, t') ∧ Tp t' ∧ o.length = m ∧ ∀ x, x ∈ o ↔ 0 ≤ x ∧ x < m := by
  have key : ∀ n (l1 : List Int) (k : Int) (L : List Int) (A : Int), (∃ j : Nat, k = j ∧ j ≤ m ∧ Tp (GTape.mk L A) ∧ l1.length = j ∧ ∀ x, x ∈ l1 ↔ 0 ≤ x ∧ x < j) → (m - k.toNat) < n → ∃ r, GTape_Order_L1 m n l1 k L A = some r ∧ (Tp r.2 ∧ r.1.length = m ∧ ∀ x, x ∈ r.1 ↔ 0 ≤ x ∧ x < m) := by
    refine loop4 (L := GTape_Order_L1 m) (B := GTape_Order_L1_B m) (fun _ => rfl) _ (fun (_ : List Int) (k : Int) (_ : List Int) (_ : Int) => m - k.toNat) _ ?_
    rintro rec l1 k L A ⟨j, rfl, hj, ht, hl, hx⟩ hrec
    unfold GTape_Order_L1_B
    by_cases hlt : j < m
    · have d1 : decide ((j : Int) < (m : Int)) = true := by simp; exact hlt
      have hw : i64 ((j : Int) + 1) = ((j + 1 : Nat) : Int) := by rw [i64_of (by omega) (by omega)]; omega
      obtain ⟨q, t1, h1, h2, h3, h4, _⟩ := next_s ht ((j + 1 : Nat) : Int) (by omega)
      have := h4 (by omega)
      obtain ⟨p, rfl⟩ : ∃ p : Nat, q = p := ⟨q.toNat, by omega⟩
      simp only [d1, if_true, hw, h1, Option.bind_some]
      rw [slc_take (by omega), slc_drop (by omega)]
      simp only [Option.bind_some]
      rw [app_of (by simp; omega)]
      simp only [Option.bind_some, List.nil_append]
      rw [app_of (by simp; omega)]
      simp only [Option.bind_some]
      rw [app_of (by simp; omega)]
      simp only [Option.bind_some]
      refine hrec _ _ _ _ ⟨j + 1, rfl, by omega, h2, by simp; omega, fun x => ?_⟩ (by simp; omega)
      have hsplit : x ∈ l1 ↔ x ∈ l1.take p ∨ x ∈ l1.drop p := by rw [← List.mem_append, List.take_append_drop]
      simp only [List.mem_append, List.mem_singleton]
      rw [hx] at hsplit
      constructor
      · rintro ((h | h) | h)
        · have := hsplit.2 (.inl h); omega
        · omega
        · have := hsplit.2 (.inr h); omega
      · rintro ⟨a1, a2⟩
        by_cases he : x = (j : Int)
        · exact .inl (.inr he)
        · rcases hsplit.1 ⟨a1, by omega⟩ with h | h
          · exact .inl (.inl h)
          · exact .inr h
    · have d1 : decide ((j : Int) < (m : Int)) = false := by simp; omega
      have : j = m := by omega
      subst this
      simp only [d1, Bool.false_eq_true, if_false]
      exact ⟨_, rfl, ht, hl, hx⟩
  obtain ⟨⟨o, t'⟩, h1, h2⟩ := key F [] 0 t.L t.At ⟨0, rfl, by omega, ht, rfl, fun x => by simp only [List.not_mem_nil, false_iff]; omega⟩ (by simpa using hF)
  exact ⟨o, t', h1, h2⟩
theorem mixed_s {F : Nat} {t : GTape} (ht : Tp t) {m : Nat} (hm : m ≤ 1000) (hF : m < F) (hF2 : 10 ≤ F) : ∃ o t', GTape_Mixed F t m = some (o, t') ∧ Tp t' ∧ o.length ≤ m + 3 ∧ ∀ x, x ∈ o ↔ 0 ≤ x ∧ x < m := by
  have key : ∀ n (l3 : List Int) (k : Int) (L : List Int) (A : Int), (0 ≤ k ∧ Tp (GTape.mk L A) ∧ (l3.length : Int) + k ≤ m + 3 ∧ ∀ x, x ∈ l3 ↔ 0 ≤ x ∧ x < m) → k.toNat < n → ∃ r, GTape_Mixed_L1 m n l3 k L A = some r ∧ (Tp r.2 ∧ r.1.length ≤ m + 3 ∧ ∀ x, x ∈ r.1 ↔ 0 ≤ x ∧ x < m) := by
    refine loop4 (L := GTape_Mixed_L1 m) (B := GTape_Mixed_L1_B m) (fun _ => rfl) _ (fun (_ : List Int) (k : Int) (_ : List Int) (_ : Int) => k.toNat) _ ?_
    rintro rec l3 k L A ⟨hk, ht, hl, hx⟩ hrec
    unfold GTape_Mixed_L1_B
    by_cases hgo : k > 0 ∧ (m : Int) > 0
    · have d1 : (decide (k > 0) && decide ((m : Int) > 0)) = true := by simp only [hgo.1, hgo.2, decide_true, Bool.and_self]
      have hw : i64 ((l3.length : Int) + 1) = ((l3.length + 1 : Nat) : Int) := by rw [i64_of (by omega) (by omega)]; omega
      obtain ⟨q, t1, h1, h2, h3, h4, _⟩ := next_s ht ((l3.length + 1 : Nat) : Int) (by omega)
      have := h4 (by omega)
      obtain ⟨p, rfl⟩ : ∃ p : Nat, q = p := ⟨q.toNat, by omega⟩
      obtain ⟨y, t2, h5, h6, h7, h8, _⟩ := next_s h2 (m : Int) (by omega)
      have := h8 (by omega)
      simp only [d1, if_true, hw, h1, h5, Option.bind_some]
      rw [slc_take (by omega), slc_drop (by omega)]
      simp only [Option.bind_some]
      rw [app_of (by simp; omega)]
      simp only [Option.bind_some, List.nil_append]
      rw [app_of (by simp; omega)]
      simp only [Option.bind_some]
      rw [app_of (by simp; omega)]
      simp only [Option.bind_some]
      rw [i64_of (by omega) (by omega)]
      refine hrec _ _ _ _ ⟨by omega, h6, by simp; omega, fun x => ?_⟩ (by omega)
      have hsplit : x ∈ l3 ↔ x ∈ l3.take p ∨ x ∈ l3.drop p := by rw [← List.mem_append, List.take_append_drop]
      simp only [List.mem_append, List.mem_singleton]
      rw [hx] at hsplit
      constructor
      · rintro ((h | h) | h)
        · exact hsplit.2 (.inl h)
        · omega
        · exact hsplit.2 (.inr h)
      · intro h
        rcases hsplit.1 h with h | h
        · exact .inl (.inl h)
        · exact .inr h
    · have d1 : (decide (k > 0) && decide ((m : Int) > 0)) = false := by
        rw [Bool.and_eq_false_iff, decide_eq_false_iff_not, decide_eq_false_iff_not]; omega
      simp only [d1, Bool.false_eq_true, if_false]
      exact ⟨_, rfl, ht, by simp only; omega, hx⟩
  obtain ⟨o, t1, h1, h2, h3, h4⟩ := torder_s (F := F) ht hm hF
  obtain ⟨q, t2, h5, h6, h7, h8, _⟩ := next_s h2 4 (by omega)
  have := h8 (by omega)
  obtain ⟨⟨o', t'⟩, h9, h10⟩ := key F o q t2.L t2.At ⟨h7, h6, by omega, h4⟩ (by omega)
  exact ⟨o', t', by simp only [GTape_Mixed, h1, h5, Option.bind_some]; exact h9, h10⟩
end Go.Sh
