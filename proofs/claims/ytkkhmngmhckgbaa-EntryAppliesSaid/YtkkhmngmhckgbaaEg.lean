/- Plain laws of chapter 13, part 7: Apply. -/
import Derived.Test.YtkkhmngmhckgbaaEf
set_option linter.unusedVariables false
set_option linter.unusedSimpArgs false
namespace Go.Sh
open Go.L

theorem step_len (l : List GEnrolment) (d : GDeadlines) (e : GEntryEvent) : (stepS l d e).1.length ≤ l.length + 1 := by
  have hlen : (lo l e.Entry).length + (hi l e.Entry).length = l.length := by have := congrArg List.length (lo_hi l e.Entry); simpa using this
  unfold stepS
  repeat' split
  all_goals simp
  all_goals omega
theorem apply_len (l : List GEnrolment) (d : GDeadlines) (e : GEntryEvent) : (applyS l d e).1.length ≤ l.length + 1 := by
  unfold applyS
  split
  · exact step_len l d e
  · simp
theorem applies_loop {d : GDeadlines} {t1 : GTape} {l : List GEnrolment} (hl : l.length ≤ 301) {xs : List GEntryEvent} {t3 : GTape} (hx : xs.length ≤ 100) : ∀ (s p : List GEntryEvent) (n : Nat), xs = p ++ s → s.length < n → law13_EntryApplies_L2 2000 (d, t1) l (xs, t3) n (p.length : Int) = some true := by
  intro s
  induction s with
  | nil => intro p n hp hn; cases n with
    | zero => omega
    | succ n =>
      have : xs = p := by simpa using hp
      rw [← this]
      simp only [law13_EntryApplies_L2, law13_EntryApplies_L2_B, Int.lt_irrefl, decide_false, Bool.false_eq_true, if_false, Option.bind_some, eawake_s (Nat.le_refl 2000)]
  | cons e s ih => intro p n hp hn; cases n with
    | zero => omega
    | succ n =>
      have hlen : p.length < 1000000 := by have := congrArg List.length hp; simp at this; omega
      have e1 : decide ((p.length : Int) < (xs.length : Int)) = true := by rw [hp]; exact dlt p e s
      have i1 : idx xs (p.length : Int) = some e := by rw [hp]; exact idx_at p e s
      have hrec := ih (p ++ [e]) n (by rw [hp]; simp) (by simpa using hn)
      have ha := apply_len l d e
      simp only [law13_EntryApplies_L2, law13_EntryApplies_L2_B, e1, if_true, i1, Option.bind_some]
      rw [apply_s (by omega) (by omega) (by omega), refApply_s (by omega) (by omega) (by omega)]
      simp only [Option.bind_some]
      rw [same_s (by omega) (by omega)]
      simp only [Option.bind_some, Bool.not_true, Bool.false_eq_true, if_false, bne_self_eq_false]
      rw [nxt p e (by omega)]
      exact hrec
theorem law_EntryApplies (t : List Int) : ∃ F, law13_EntryApplies F t = some true := by
  refine ⟨2000, ?_⟩
  obtain ⟨t0, a1, a2⟩ := new_s t
  obtain ⟨d, t1, b1, b2, b3⟩ := deadlines_s a2 10 (by omega)
  obtain ⟨ev, t2, c1, c2, c3⟩ := entryEvents_s (F := 2000) b2 8 0 (by omega) (by omega) (by omega)
  unfold law13_EntryApplies
  rw [a1]; simp only [Option.bind_some]
  rw [b1]; simp only [Option.bind_some]
  rw [show (8 : Int) = ((8 : Nat) : Int) from rfl, c1]; simp only [Option.bind_some]
  rw [rfold_s (Nat.le_refl 2000) (by omega)]; simp only [Option.bind_some]
  have hV : VL (foldE ev (GDeadlines.mk 20 24) 24).1 := foldE_vl
  revert hV
  generalize foldE ev (GDeadlines.mk 20 24) 24 = A
  intro hV
  have hl := hV.len
  have fin : ∀ (l : List GEnrolment) (L : List Int) (At : Int), l.length ≤ 301 → Tp (GTape.mk L At) → law13_EntryApplies_J1 2000 (d, t1) l L At = some true := fun l L At h1 h2 => by
    obtain ⟨xs, t3, d1, d2, d3⟩ := entryEvents_s (F := 2000) h2 4 2 (by omega) (by omega) (by omega)
    unfold law13_EntryApplies_J1
    rw [show (4 : Int) = ((4 : Nat) : Int) from rfl, d1]; simp only [Option.bind_some]
    exact applies_loop h1 (by omega) xs [] 2000 rfl (by omega)
  have key : ∃ (b : Bool) (L : List Int) (At : Int), (if (decide ((A.1.length : Int) > 0)) = true then (GTape_One t2 10).bind fun r26 => some (r26.1, r26.2.L, r26.2.At) else some (false, t2.L, t2.At)) = some (b, L, At) ∧ Tp (GTape.mk L At) ∧ (b = true → 0 < A.1.length) := by
    by_cases h0 : A.1.length > 0
    · have h0' : decide ((A.1.length : Int) > 0) = true := by rw [decide_eq_true_eq]; omega
      obtain ⟨x, t3, e1, e2⟩ := one_s c2 10 (by omega)
      exact ⟨x, t3.L, t3.At, by simp only [h0', if_true, e1, Option.bind_some], e2, fun _ => h0⟩
    · have h0' : decide ((A.1.length : Int) > 0) = false := by rw [decide_eq_false_iff_not]; omega
      exact ⟨false, t2.L, t2.At, by simp only [h0', Bool.false_eq_true, if_false], c2, fun h => by cases h⟩
  obtain ⟨b, L, At, k1, k2, k3⟩ := key
  rw [k1]
  simp only [Option.bind_some]
  cases b with
  | false => exact fin A.1 L At (by omega) k2
  | true =>
    have h0 := k3 rfl
    obtain ⟨y, t3, e1, e2, e3, e4, _⟩ := next_s k2 (A.1.length : Int) (by omega)
    have e5 := e4 (by omega)
    have hix : idx A.1 y = some A.1[y.toNat] := by rw [idx_some]; exact ⟨e3, by simp⟩
    simp only [if_true, e1, hix, Option.bind_some]
    rw [app_of (by simp; omega)]
    simp only [Option.bind_some]
    exact fin _ _ _ (by simp; omega) e2
end Go.Sh
