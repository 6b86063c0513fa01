/- Plain laws of chapter 13, part 6: what an event changes. -/
import Derived.Test.YtkkhmngmhckgbaaEe
set_option linter.unusedVariables false
set_option linter.unusedSimpArgs false
namespace Go.Sh
open Go.L

/-- not among them -/
def outB (m : List GEnrolment) (z : GEnrolment) : Bool := decide (z ∉ m)
theorem find_out {m : List GEnrolment} (hs : SortE m) (z : GEnrolment) : (if (!(findS m z.Entry.Candidate z.Entry.Paper).2) = true then some true else some (!(decide ((findS m z.Entry.Candidate z.Entry.Paper).1 = z)))) = some (outB m z) := by
  by_cases h : z ∈ m
  · rw [find_sorted hs h]; simp [outB, h]
  · have ho : outB m z = true := by simp [outB, h]
    rw [ho]
    unfold findS
    cases hf : m.find? (isE z.Entry.Candidate z.Entry.Paper) with
    | none => simp
    | some x =>
      have hx : x ∈ m := List.mem_of_find?_eq_some hf
      have : ¬ x = z := fun he => h (he ▸ hx)
      simp [this]
theorem countP_zero {α : Type} {p : α → Bool} {l : List α} (h : ∀ x ∈ l, p x = false) : l.countP p = 0 := by
  rw [List.countP_eq_zero]; intro x hx; simp [h x hx]
theorem sort_ne {a b : List GEnrolment} {x y : GEnrolment} (hs : SortE (a ++ x :: b)) (hk : eqE y.Entry x.Entry = true) : y ∉ a ∧ y ∉ b := by
  unfold SortE at hs
  rw [List.pairwise_append, List.pairwise_cons] at hs
  rw [eqE_iff] at hk
  constructor
  · intro h
    have := hs.2.2 y h x (by simp)
    rw [ltE_iff] at this; omega
  · intro h
    have := hs.2.1.1 y h
    rw [ltE_iff] at this; omega
theorem eqE_refl (x : GEntry) : eqE x x = true := by rw [eqE_iff]; exact ⟨rfl, rfl⟩
/-- an event that is applied changes exactly one, at its own centre -/
theorem own_counts {l : List GEnrolment} {d : GDeadlines} {e : GEntryEvent} (hV : VL l) (h0 : (stepS l d e).2 = 0) :
    (1 ≤ e.Kind ∧ e.Kind ≤ 3) ∧ (l.countP (outB (stepS l d e).1) = if e.Kind = 1 then 0 else 1) ∧ ((stepS l d e).1.countP (outB l) = if e.Kind = 2 then 0 else 1) ∧ ∀ z ∈ l, outB (stepS l d e).1 z = true → e.Stamp.Source = 0 ∨ e.Stamp.Source = z.Entry.Centre := by
  have hVm := hV.step h0
  have hlh := lo_hi l e.Entry
  unfold stepS at h0 hVm ⊢
  by_cases hv : vEvent e = false
  · rw [if_pos hv] at h0; simp at h0
  · rw [if_neg hv] at h0 hVm ⊢
    have hv' : vEvent e = true := by simpa using hv
    have hk : 1 ≤ e.Kind ∧ e.Kind ≤ 3 := by
      unfold vEvent at hv'; simp only [Bool.and_eq_true, Bool.or_eq_true, beq_iff_eq, decide_eq_true_eq, bne_iff_ne] at hv'; omega
    by_cases g1 : e.Stamp.Source ≠ 0 ∧ e.Stamp.Source ≠ e.Entry.Centre
    · rw [if_pos g1] at h0; simp at h0
    · rw [if_neg g1] at h0 hVm ⊢
      by_cases g2 : d.Late < e.Stamp.Time
      · rw [if_pos g2] at h0; simp at h0
      · rw [if_neg g2] at h0 hVm ⊢
        refine ⟨hk, ?_⟩
        cases hat : atE l e.Entry with
        | none =>
          rw [hat] at h0 hVm
          simp only at h0 hVm ⊢
          by_cases k1 : e.Kind = 1
          · rw [if_pos k1] at h0 hVm ⊢
            by_cases k2 : 300 ≤ l.length
            · rw [if_pos k2] at h0; simp at h0
            · rw [if_neg k2] at h0 hVm ⊢
              simp only at hVm ⊢
              have hin : ∀ z ∈ l, outB (lo l e.Entry ++ ⟨e.Entry, decide (d.Close < e.Stamp.Time)⟩ :: hi l e.Entry) z = false := fun z hz => by
                have := (mem_lh (x := e.Entry)).1 hz
                simp only [outB, decide_eq_false_iff_not, Classical.not_not, List.mem_append, List.mem_cons]
                rcases this with h | h
                · exact .inl h
                · exact .inr (.inr h)
              refine ⟨?_, ?_, fun z hz ho => by rw [hin z hz] at ho; cases ho⟩
              · rw [if_pos k1]; exact countP_zero hin
              · have k3 : ¬ e.Kind = 2 := by omega
                have hnew : outB l ⟨e.Entry, decide (d.Close < e.Stamp.Time)⟩ = true := by
                  obtain ⟨q1, q2⟩ := sort_ne (y := ⟨e.Entry, decide (d.Close < e.Stamp.Time)⟩) hVm.sort (eqE_refl _)
                  simp only [outB, decide_eq_true_eq]
                  intro hc
                  rcases (mem_lh (x := e.Entry)).1 hc with h | h
                  · exact q1 h
                  · exact q2 h
                rw [if_neg k3, List.countP_append, List.countP_cons, hnew, countP_zero (l := lo l e.Entry), countP_zero (l := hi l e.Entry)]
                · rfl
                · intro x hx; simp only [outB, decide_eq_false_iff_not, Classical.not_not]; exact mem_lh.2 (.inr hx)
                · intro x hx; simp only [outB, decide_eq_false_iff_not, Classical.not_not]; exact mem_lh.2 (.inl hx)
          · rw [if_neg k1] at h0; simp at h0
        | some y =>
          rw [hat] at h0 hVm
          simp only at h0 hVm ⊢
          obtain ⟨hh, heq⟩ := atE_some hat
          have hl : l = lo l e.Entry ++ y :: (hi l e.Entry).drop 1 := by rw [← hh, hlh]
          by_cases k1 : e.Kind = 1
          · rw [if_pos k1] at h0
            split at h0 <;> simp at h0
          · rw [if_neg k1] at h0 hVm ⊢
            by_cases k2 : y.Entry.Centre ≠ e.Entry.Centre
            · rw [if_pos k2] at h0; simp at h0
            · rw [if_neg k2] at h0 hVm ⊢
              have k2' : y.Entry.Centre = e.Entry.Centre := by simpa using k2
              have hsl : SortE (lo l e.Entry ++ y :: (hi l e.Entry).drop 1) := by rw [← hl]; exact hV.sort
              obtain ⟨n1, n2⟩ := sort_ne (y := y) hsl (eqE_refl _)
              have inlo : ∀ z ∈ lo l e.Entry, z ∈ l := fun z hz => mem_lh.2 (.inl hz)
              have inhi : ∀ z ∈ (hi l e.Entry).drop 1, z ∈ l := fun z hz => mem_lh.2 (.inr (List.mem_of_mem_drop hz))
              have hsrc : e.Stamp.Source = 0 ∨ e.Stamp.Source = y.Entry.Centre := by rw [k2']; omega
              by_cases k3 : e.Kind = 2
              · rw [if_pos k3] at h0 hVm ⊢
                simp only at hVm ⊢
                have hall : ∀ z ∈ l, outB (lo l e.Entry ++ (hi l e.Entry).drop 1) z = true → z = y := fun z hz ho => by
                  simp only [outB, decide_eq_true_eq, List.mem_append] at ho
                  rw [hl, List.mem_append, List.mem_cons] at hz
                  rcases hz with h | h | h
                  · exact absurd (.inl h) ho
                  · exact h
                  · exact absurd (.inr h) ho
                refine ⟨?_, ?_, fun z hz ho => by rw [hall z hz ho]; exact hsrc⟩
                · rw [if_neg k1]
                  have hy : outB (lo l e.Entry ++ (hi l e.Entry).drop 1) y = true := by
                    simp only [outB, decide_eq_true_eq, List.mem_append]
                    rintro (h | h)
                    · exact n1 h
                    · exact n2 h
                  have : l.countP (outB (lo l e.Entry ++ (hi l e.Entry).drop 1)) = (lo l e.Entry ++ y :: (hi l e.Entry).drop 1).countP (outB (lo l e.Entry ++ (hi l e.Entry).drop 1)) := by rw [← hl]
                  rw [this, List.countP_append, List.countP_cons, hy, countP_zero (l := lo l e.Entry), countP_zero (l := (hi l e.Entry).drop 1)]
                  · rfl
                  · intro x hx; simp only [outB, decide_eq_false_iff_not, Classical.not_not, List.mem_append]; exact .inr hx
                  · intro x hx; simp only [outB, decide_eq_false_iff_not, Classical.not_not, List.mem_append]; exact .inl hx
                · rw [if_pos k3]
                  refine countP_zero fun x hx => ?_
                  simp only [outB, decide_eq_false_iff_not, Classical.not_not]
                  rcases List.mem_append.1 hx with h | h
                  · exact inlo x h
                  · exact inhi x h
              · rw [if_neg k3] at h0 hVm ⊢
                simp only at hVm ⊢
                have hTo : ¬ e.To = e.Entry.Centre := by
                  unfold vEvent at hv'; simp only [Bool.and_eq_true, Bool.or_eq_true, beq_iff_eq, decide_eq_true_eq, bne_iff_ne] at hv'; omega
                have hne : (⟨⟨y.Entry.Candidate, e.To, y.Entry.Paper⟩, y.Late⟩ : GEnrolment) ≠ y := fun hc => hTo (by have := congrArg (fun z : GEnrolment => z.Entry.Centre) hc; simp only at this; rw [this, k2'])
                have hy : outB (lo l e.Entry ++ ⟨⟨y.Entry.Candidate, e.To, y.Entry.Paper⟩, y.Late⟩ :: (hi l e.Entry).drop 1) y = true := by
                  simp only [outB, decide_eq_true_eq, List.mem_append, List.mem_cons]
                  rintro (h | h | h)
                  · exact n1 h
                  · exact hne h.symm
                  · exact n2 h
                have hall : ∀ z ∈ l, outB (lo l e.Entry ++ ⟨⟨y.Entry.Candidate, e.To, y.Entry.Paper⟩, y.Late⟩ :: (hi l e.Entry).drop 1) z = true → z = y := fun z hz ho => by
                  simp only [outB, decide_eq_true_eq, List.mem_append, List.mem_cons] at ho
                  rw [hl, List.mem_append, List.mem_cons] at hz
                  rcases hz with h | h | h
                  · exact absurd (.inl h) ho
                  · exact h
                  · exact absurd (.inr (.inr h)) ho
                refine ⟨?_, ?_, fun z hz ho => by rw [hall z hz ho]; exact hsrc⟩
                · rw [if_neg k1]
                  have : l.countP (outB (lo l e.Entry ++ ⟨⟨y.Entry.Candidate, e.To, y.Entry.Paper⟩, y.Late⟩ :: (hi l e.Entry).drop 1)) = (lo l e.Entry ++ y :: (hi l e.Entry).drop 1).countP (outB (lo l e.Entry ++ ⟨⟨y.Entry.Candidate, e.To, y.Entry.Paper⟩, y.Late⟩ :: (hi l e.Entry).drop 1)) := by rw [← hl]
                  rw [this, List.countP_append, List.countP_cons, hy, countP_zero (l := lo l e.Entry), countP_zero (l := (hi l e.Entry).drop 1)]
                  · rfl
                  · intro x hx; simp only [outB, decide_eq_false_iff_not, Classical.not_not, List.mem_append, List.mem_cons]; exact .inr (.inr hx)
                  · intro x hx; simp only [outB, decide_eq_false_iff_not, Classical.not_not, List.mem_append]; exact .inl hx
                · have hnew : outB l ⟨⟨y.Entry.Candidate, e.To, y.Entry.Paper⟩, y.Late⟩ = true := by
                    obtain ⟨q1, q2⟩ := sort_ne (y := ⟨⟨y.Entry.Candidate, e.To, y.Entry.Paper⟩, y.Late⟩) hsl (by rw [eqE_iff]; exact ⟨rfl, rfl⟩)
                    simp only [outB, decide_eq_true_eq]
                    intro hc
                    rw [hl, List.mem_append, List.mem_cons] at hc
                    rcases hc with h | h | h
                    · exact q1 h
                    · exact hne h
                    · exact q2 h
                  rw [if_neg k3, List.countP_append, List.countP_cons, hnew, countP_zero (l := lo l e.Entry), countP_zero (l := (hi l e.Entry).drop 1)]
                  · rfl
                  · intro x hx; simp only [outB, decide_eq_false_iff_not, Classical.not_not]; exact inhi x hx
                  · intro x hx; simp only [outB, decide_eq_false_iff_not, Classical.not_not]; exact inlo x hx
theorem countP_snoc {α : Type} (p : α → Bool) (l : List α) (x : α) : (l ++ [x]).countP p = l.countP p + (if p x = true then 1 else 0) := by
  rw [List.countP_append]; simp [List.countP_cons]
theorem law_EntryOwn (t : List Int) : ∃ F, law13_EntryOwn F t = some true := by
  refine ⟨2000, ?_⟩
  obtain ⟨t0, a1, a2⟩ := new_s t
  obtain ⟨d, t1, b1, b2, b3⟩ := deadlines_s a2 0 (by omega)
  obtain ⟨ev, t2, c1, c2, c3⟩ := entryEvents_s (F := 2000) b2 10 0 (by omega) (by omega) (by omega)
  obtain ⟨xs, t3, d1, d2, d3⟩ := entryEvents_s (F := 2000) c2 3 5 (by omega) (by omega) (by omega)
  have hd := (b3 rfl).1
  unfold law13_EntryOwn
  rw [a1]; simp only [Option.bind_some]
  rw [b1]; simp only [Option.bind_some]
  rw [show (10 : Int) = ((10 : Nat) : Int) from rfl, c1]; simp only [Option.bind_some]
  rw [efold_s (Nat.le_refl 2000) (by omega)]; simp only [Option.bind_some]
  rw [show (3 : Int) = ((3 : Nat) : Int) from rfl, d1]; simp only [Option.bind_some]
  have hV : VL (foldE ev d 1000000).1 := foldE_vl
  revert hV
  generalize foldE ev d 1000000 = A
  intro hV
  have hl := hV.len
  have key : ∀ (s p : List GEntryEvent) (n : Nat), xs = p ++ s → s.length < n → law13_EntryOwn_L1 2000 (d, t1) A (xs, t3) n (p.length : Int) = some true := by
    intro s
    induction s with
    | nil => intro p n hp hn; cases n with
      | zero => omega
      | succ n =>
        have : xs = p := by simpa using hp
        rw [← this]
        simp only [law13_EntryOwn_L1, law13_EntryOwn_L1_B, Int.lt_irrefl, decide_false, Bool.false_eq_true, if_false, Option.bind_some, eawake_s (Nat.le_refl 2000)]
    | cons e s ih => intro p n hp hn; cases n with
      | zero => omega
      | succ n =>
        have hlen : p.length < 1000000 := by have := congrArg List.length hp; simp at this; omega
        have e1 : decide ((p.length : Int) < (xs.length : Int)) = true := by rw [hp]; exact dlt p e s
        have i1 : idx xs (p.length : Int) = some e := by rw [hp]; exact idx_at p e s
        have hrec := ih (p ++ [e]) n (by rw [hp]; simp) (by simpa using hn)
        have hap : applyS A.1 d e = stepS A.1 d e := by unfold applyS; rw [if_pos ⟨validB_iff.2 hV, hd⟩]
        simp only [law13_EntryOwn_L1, law13_EntryOwn_L1_B, e1, if_true, i1, Option.bind_some]
        rw [apply_s (by omega) (by omega) (by omega), hap]
        simp only [Option.bind_some, bne_iff_ne]
        rw [nxt p e (by omega)]
        by_cases h0 : (stepS A.1 d e).2 = 0
        · simp only [h0, ne_eq, not_true_eq_false, if_false]
          obtain ⟨hk, hg, hc, hsrc⟩ := own_counts hV h0
          have hVm := hV.step h0
          have hlm := hVm.len
          revert hg hc hsrc hVm hlm
          generalize stepS A.1 d e = M
          intro hg hc hsrc hVm hlm
          -- the second loop
          have k3 : ∀ (s q : List GEnrolment) (n' : Nat), M.1 = q ++ s → s.length < n' → law13_EntryOwn_L3 (law13_EntryOwn_L1 2000 (d, t1) A (xs, t3) n) 2000 A (xs, t3) (p.length : Int) M ((A.1.countP (outB M.1) : Nat) : Int) n' ((q.countP (outB A.1) : Nat) : Int) (q.length : Int) = some true := by
            intro s
            induction s with
            | nil => intro q n' hq hn'; cases n' with
              | zero => omega
              | succ n' =>
                have : M.1 = q := by simpa using hq
                rw [← this]
                simp only [law13_EntryOwn_L3, law13_EntryOwn_L3_B, Int.lt_irrefl, decide_false, Bool.false_eq_true, if_false, i1, Option.bind_some, hg, hc]
                have f1 : decide (e.Kind < 1) = false := by rw [decide_eq_false_iff_not]; omega
                have f2 : decide (e.Kind > 3) = false := by rw [decide_eq_false_iff_not]; omega
                simp only [f1, f2, Bool.false_eq_true, if_false]
                rw [nxt p e (by omega), hrec]
                have hcase : e.Kind = 1 ∨ e.Kind = 2 ∨ e.Kind = 3 := by omega
                rcases hcase with hk | hk | hk <;> rw [hk] <;> rfl
            | cons z s ih3 => intro q n' hq hn'; cases n' with
              | zero => omega
              | succ n' =>
                have hql : q.length < 1000000 := by have := congrArg List.length hq; simp at this; omega
                have g1 : decide ((q.length : Int) < (M.1.length : Int)) = true := by rw [hq]; exact dlt q z s
                have j1 : idx M.1 (q.length : Int) = some z := by rw [hq]; exact idx_at q z s
                have hr3 := ih3 (q ++ [z]) n' (by rw [hq]; simp) (by simpa using hn')
                rw [countP_snoc] at hr3
                have hcq : q.countP (outB A.1) ≤ q.length := List.countP_le_length
                simp only [law13_EntryOwn_L3, law13_EntryOwn_L3_B, g1, if_true, j1, Option.bind_some]
                rw [find_s (by omega) (by omega)]
                simp only [Option.bind_some]
                rw [find_out hV.sort z]
                simp only [Option.bind_some]
                rw [nxt q z (by omega)]
                cases ho : outB A.1 z with
                | true =>
                  rw [ho] at hr3
                  simp only [if_true] at hr3 ⊢
                  rw [nxtN (by omega)]; exact hr3
                | false =>
                  rw [ho] at hr3
                  simp only [Bool.false_eq_true, if_false, Nat.add_zero] at hr3 ⊢
                  exact hr3
          have k2 : ∀ (s q : List GEnrolment) (n' : Nat), A.1 = q ++ s → s.length < n' → law13_EntryOwn_L2 (law13_EntryOwn_L1 2000 (d, t1) A (xs, t3) n) 2000 A (xs, t3) (p.length : Int) M n' ((q.countP (outB M.1) : Nat) : Int) (q.length : Int) = some true := by
            intro s
            induction s with
            | nil => intro q n' hq hn'; cases n' with
              | zero => omega
              | succ n' =>
                have : A.1 = q := by simpa using hq
                rw [← this]
                simp only [law13_EntryOwn_L2, law13_EntryOwn_L2_B, Int.lt_irrefl, decide_false, Bool.false_eq_true, if_false]
                exact k3 M.1 [] 2000 rfl (by omega)
            | cons z s ih2 => intro q n' hq hn'; cases n' with
              | zero => omega
              | succ n' =>
                have hql : q.length < 1000000 := by have := congrArg List.length hq; simp at this; omega
                have hz : z ∈ A.1 := by rw [hq]; simp
                have g1 : decide ((q.length : Int) < (A.1.length : Int)) = true := by rw [hq]; exact dlt q z s
                have j1 : idx A.1 (q.length : Int) = some z := by rw [hq]; exact idx_at q z s
                have hr2 := ih2 (q ++ [z]) n' (by rw [hq]; simp) (by simpa using hn')
                rw [countP_snoc] at hr2
                have hcq : q.countP (outB M.1) ≤ q.length := List.countP_le_length
                simp only [law13_EntryOwn_L2, law13_EntryOwn_L2_B, g1, if_true, j1, i1, Option.bind_some]
                rw [find_s (by omega) (by omega)]
                simp only [Option.bind_some]
                rw [find_out hVm.sort z]
                simp only [Option.bind_some]
                rw [nxt q z (by omega)]
                cases ho : outB M.1 z with
                | true =>
                  rw [ho] at hr2
                  simp only [if_true] at hr2 ⊢
                  rw [nxtN (by omega)]
                  have hs := hsrc z hz ho
                  have hw : (if (e.Stamp.Source != 0) = true then some (e.Stamp.Source != z.Entry.Centre) else some false) = some false := by
                    by_cases h0 : e.Stamp.Source = 0
                    · simp [h0]
                    · have h1 := hs.resolve_left h0
                      simp [h1]
                  rw [hw]
                  simp only [Option.bind_some, Bool.false_eq_true, if_false]
                  exact hr2
                | false =>
                  rw [ho] at hr2
                  simp only [Bool.false_eq_true, if_false, Nat.add_zero] at hr2 ⊢
                  exact hr2
          exact k2 A.1 [] 2000 rfl (by omega)
        · simp only [h0, ne_eq, not_false_eq_true, if_true]
          exact hrec
  exact key xs [] 2000 rfl (by omega)
end Go.Sh
