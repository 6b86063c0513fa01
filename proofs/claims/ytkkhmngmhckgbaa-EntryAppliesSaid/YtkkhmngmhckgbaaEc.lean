/- Plain laws of chapter 13, part 3: the fold and its reference; what a fold keeps. -/
import Derived.Test.YtkkhmngmhckgbaaEb
set_option linter.unusedVariables false
set_option linter.unusedSimpArgs false
namespace Go.Sh
open Go.L

theorem ltE_of_not {a b : GEntry} (h1 : ¬ ltE a b = true) (h2 : eqE a b = false) : ltE b a = true := by
  have h3 : ¬ eqE a b = true := by simp [h2]
  rw [ltE_iff] at *; rw [eqE_iff] at h3; omega
theorem hi_gt {l : List GEnrolment} {x : GEntry} (hs : SortE l) (h : atE l x = .none) {y : GEnrolment} (hy : y ∈ hi l x) : ltE x y.Entry = true :=
  ltE_of_not (hi_ge hs hy) (hi_none hs h y hy)
theorem hi_tail {l : List GEnrolment} {x : GEntry} (hs : SortE l) {y : GEnrolment} (h : atE l x = some y) : SortE (lo l x ++ (hi l x).drop 1) ∧ (∀ z ∈ lo l x, ltE z.Entry y.Entry = true) ∧ ∀ z ∈ (hi l x).drop 1, ltE y.Entry z.Entry = true := by
  obtain ⟨h1, h2⟩ := atE_some h
  have hs' : SortE (lo l x ++ y :: (hi l x).drop 1) := by rw [← h1, lo_hi]; exact hs
  unfold SortE at *
  rw [List.pairwise_append, List.pairwise_cons] at hs'
  refine ⟨?_, fun z hz => hs'.2.2 z hz y (by simp), hs'.2.1.1⟩
  rw [List.pairwise_append]
  exact ⟨hs'.1, hs'.2.1.2, fun a ha b hb => hs'.2.2 a ha b (List.mem_cons_of_mem _ hb)⟩
theorem mem_lh {l : List GEnrolment} {x : GEntry} {y : GEnrolment} : y ∈ l ↔ y ∈ lo l x ∨ y ∈ hi l x := by
  rw [← List.mem_append, lo_hi]
/-- the changed lists are valid -/
theorem VL.step {l : List GEnrolment} {d : GDeadlines} {e : GEntryEvent} (h : VL l) (h0 : (stepS l d e).2 = 0) : VL (stepS l d e).1 := by
  have hlh := lo_hi l e.Entry
  have hlen : (lo l e.Entry).length + (hi l e.Entry).length = l.length := by have := congrArg List.length hlh; simpa using this
  have hl := h.len
  unfold stepS at h0 ⊢
  by_cases hv : vEvent e = false
  · simp [hv] at h0
  · have hv' : vEvent e = true := by simpa using hv
    have hvE : vEntry e.Entry = true := by unfold vEvent at hv'; simp only [Bool.and_eq_true] at hv'; exact hv'.1
    rw [if_neg hv] at h0 ⊢
    split at h0
    · simp at h0
    · split at h0
      · simp at h0
      · rename_i g1 g2
        rw [if_neg g1, if_neg g2]
        cases hat : atE l e.Entry with
        | none =>
          rw [hat] at h0
          simp only at h0 ⊢
          split at h0
          · rename_i k1
            rw [if_pos k1]
            split at h0
            · simp at h0
            · rename_i k2
              rw [if_neg k2]
              have hs := h.sort
              refine ⟨by simp; omega, fun x hx => ?_, ?_⟩
              · simp only [List.mem_append, List.mem_cons] at hx
                rcases hx with hx | rfl | hx
                · exact h.ok x (mem_lh.2 (.inl hx))
                · exact hvE
                · exact h.ok x (mem_lh.2 (.inr hx))
              · rw [← hlh] at hs
                unfold SortE at hs ⊢
                rw [List.pairwise_append] at hs ⊢
                rw [List.pairwise_cons]
                refine ⟨hs.1, ⟨fun a ha => hi_gt h.sort hat ha, hs.2.1⟩, fun a ha b hb => ?_⟩
                rcases List.mem_cons.1 hb with rfl | hb
                · exact lo_lt ha
                · exact hs.2.2 a ha b hb
          · simp at h0
        | some y =>
          rw [hat] at h0
          simp only at h0 ⊢
          obtain ⟨q1, q2, q3⟩ := hi_tail h.sort hat
          obtain ⟨hh, heq⟩ := atE_some hat
          have hln : (lo l e.Entry).length + ((hi l e.Entry).drop 1).length + 1 = l.length := by rw [hh] at hlen; simp at hlen ⊢; omega
          split at h0
          · split at h0 <;> simp at h0
          · rename_i k1
            rw [if_neg k1]
            split at h0
            · simp at h0
            · rename_i k2
              rw [if_neg k2]
              split at h0
              · rename_i k3
                rw [if_pos k3]
                refine ⟨by simp at hln ⊢; omega, fun x hx => ?_, q1⟩
                rcases List.mem_append.1 hx with hx | hx
                · exact h.ok x (mem_lh.2 (.inl hx))
                · exact h.ok x (mem_lh.2 (.inr (List.mem_of_mem_drop hx)))
              · rename_i k3
                rw [if_neg k3]
                have hy := h.ok y (mem_lh.2 (.inr (by rw [hh]; simp)))
                have hTo : e.To ≥ 1 ∧ e.To ≤ 99 := by
                  unfold vEvent at hv'
                  simp only [Bool.and_eq_true, Bool.or_eq_true, beq_iff_eq, decide_eq_true_eq, bne_iff_ne] at hv'
                  omega
                refine ⟨by simp at hln ⊢; omega, fun x hx => ?_, ?_⟩
                · simp only [List.mem_append, List.mem_cons] at hx
                  rcases hx with hx | rfl | hx
                  · exact h.ok x (mem_lh.2 (.inl hx))
                  · unfold vEntry at hy ⊢; simp only [Bool.and_eq_true, decide_eq_true_eq] at hy ⊢; omega
                  · exact h.ok x (mem_lh.2 (.inr (List.mem_of_mem_drop hx)))
                · unfold SortE at q1 ⊢
                  rw [List.pairwise_append] at q1 ⊢
                  rw [List.pairwise_cons]
                  refine ⟨q1.1, ⟨fun a ha => q3 a ha, q1.2.1⟩, fun a ha b hb => ?_⟩
                  rcases List.mem_cons.1 hb with rfl | hb
                  · exact q2 a ha
                  · exact q1.2.2 a ha b hb
/-- the fold over canonical events until a time -/
def foldS (d : GDeadlines) (u : Int) : List GEntryEvent → List GEnrolment → List GRefusal → List GEnrolment × List GRefusal × Int
  | [], l, r => (l, r, 0)
  | e :: s, l, r => if u < e.Stamp.Time then foldS d u s l r else
    if (stepS l d e).2 ≠ 0 then foldS d u s l (r ++ [⟨⟨e.Stamp.Source, e.Stamp.Seq⟩, (stepS l d e).2⟩]) else foldS d u s (stepS l d e).1 r
def foldE (l : List GEntryEvent) (d : GDeadlines) (u : Int) : List GEnrolment × List GRefusal × Int :=
  if dOk d = false then ([], [], 1) else if (canonEv (·.Stamp) l).2 ≠ 0 then ([], [], (canonEv (·.Stamp) l).2) else foldS d u (canonEv (·.Stamp) l).1 [] []
theorem foldS_over {d : GDeadlines} {u : Int} : ∀ {s : List GEntryEvent} {l : List GEnrolment} {r : List GRefusal}, (∀ e ∈ s, u < e.Stamp.Time) → foldS d u s l r = (l, r, 0)
  | [], _, _, _ => rfl
  | e :: s, l, r, h => by
    have := h e (by simp)
    simp only [foldS, this, if_true]
    exact foldS_over fun x hx => h x (by simp [hx])
theorem efold_loop {F : Nat} (hF : 2000 ≤ F) {d : GDeadlines} {u c : Int} {ev : List GEntryEvent} (hb : ev.length < 1000000) (hs : ev.Pairwise fun a b => cmpSt a.Stamp b.Stamp < 0) : ∀ (s p : List GEntryEvent) (n : Nat) (l : List GEnrolment) (r : List GRefusal), ev = p ++ s → s.length < n → VL l → r.length ≤ p.length →
    entry_Fold_L1 F d u (ev, c) n l (p.length : Int) r = some (foldS d u s l r) := by
  intro s
  induction s with
  | nil => intro p n l r hp hn hV hr; cases n with
    | zero => omega
    | succ n =>
      have : ev = p := by simpa using hp
      subst this
      simp only [entry_Fold_L1, entry_Fold_L1_B, Int.lt_irrefl, decide_false, Bool.false_eq_true, if_false, foldS]
  | cons e s ih => intro p n l r hp hn hV hr; cases n with
    | zero => omega
    | succ n =>
      have hlen : p.length < 1000000 := by rw [hp] at hb; simp at hb; omega
      have hl := hV.len
      have d1 : decide ((p.length : Int) < (ev.length : Int)) = true := by rw [hp]; exact dlt p e s
      have i1 : idx ev (p.length : Int) = some e := by rw [hp]; exact idx_at p e s
      have hp' : ev = (p ++ [e]) ++ s := by rw [hp]; simp
      simp only [entry_Fold_L1, entry_Fold_L1_B, d1, if_true, i1, Option.bind_some, foldS, gt_iff_lt]
      by_cases hu : u < e.Stamp.Time
      · simp only [hu, decide_true, if_true]
        rw [foldS_over]
        intro x hx
        rw [hp, List.pairwise_append, List.pairwise_cons] at hs
        have := hs.2.1.1 x hx
        rw [cmpSt_lt] at this; omega
      · simp only [hu, decide_false, Bool.false_eq_true, if_false, step_s (show 10 ≤ F by omega) hV.sort (show l.length < 1000000 by omega) (show l.length < F by omega), Option.bind_some, bne_iff_ne]
        rw [nxt p e (by omega)]
        by_cases h0 : (stepS l d e).2 = 0
        · simp only [h0, ne_eq, not_true_eq_false, if_false]
          exact ih (p ++ [e]) n _ r hp' (by simpa using hn) (hV.step h0) (by simp; omega)
        · simp only [h0, ne_eq, not_false_eq_true, if_true]
          rw [app_of (by simp; omega)]
          simp only [Option.bind_some]
          exact ih (p ++ [e]) n l _ hp' (by simpa using hn) hV (by simp; omega)
theorem vl_nil : VL [] := ⟨by simp, by simp, by simp [SortE]⟩
theorem canonEv_sorted {E : Type} [DecidableEq E] (st : E → GStamp) (l : List E) : (canonEv st l).1.Pairwise fun a b => cmpSt (st a) (st b) < 0 := by
  unfold canonEv
  split
  · simp
  · exact (evL_is st l).sorted
theorem canonEv_le {E : Type} [DecidableEq E] (st : E → GStamp) (l : List E) : (canonEv st l).1.length ≤ l.length := by
  unfold canonEv
  split
  · simp
  · exact evL_le st l
theorem efold_s {F : Nat} (hF : 2000 ≤ F) {l : List GEntryEvent} {d : GDeadlines} {u : Int} (hl : l.length ≤ 1000) : entry_Fold F l d u = some (foldE l d u) := by
  have hd : entry_validDeadlines d = some (dOk d) := rfl
  have hle := canonEv_le (·.Stamp) l
  unfold entry_Fold foldE
  simp only [hd, Option.bind_some]
  cases hdd : dOk d with
  | false => simp
  | true =>
    simp only [Bool.not_true, Bool.false_eq_true, if_false, Bool.true_eq_false, canonicalP_s (show 10 ≤ F by omega) (show l.length < 1000000 by omega) (show l.length < F by omega), Option.bind_some, bne_iff_ne, ne_eq]
    have hso := canonEv_sorted (fun x : GEntryEvent => x.Stamp) l
    revert hle hso
    generalize canonEv (fun x : GEntryEvent => x.Stamp) l = ce
    intro hle hso
    by_cases h0 : ce.2 = 0
    · simp only [h0, not_true_eq_false, if_false]
      have b1 : ce.1.length < 1000000 := by omega
      have b2 : ce.1.length < F := by omega
      exact efold_loop hF (c := ce.2) b1 hso ce.1 [] F [] [] rfl b2 vl_nil (by simp)
    · simp only [h0, not_false_eq_true, if_true]
theorem rfold_loop {F : Nat} (hF : 2000 ≤ F) {d : GDeadlines} {u c : Int} {ev : List GEntryEvent} (hd : dOk d = true) (hb : ev.length < 1000000) : ∀ (s p : List GEntryEvent) (n : Nat) (l : List GEnrolment) (r : List GRefusal), ev = p ++ s → s.length < n → VL l → r.length ≤ p.length →
    ref13_Fold_L1 F d u (ev, c) n (p.length : Int) r l = some (foldS d u s l r) := by
  intro s
  induction s with
  | nil => intro p n l r hp hn hV hr; cases n with
    | zero => omega
    | succ n =>
      have : ev = p := by simpa using hp
      subst this
      simp only [ref13_Fold_L1, ref13_Fold_L1_B, Int.lt_irrefl, decide_false, Bool.false_eq_true, if_false, foldS]
  | cons e s ih => intro p n l r hp hn hV hr; cases n with
    | zero => omega
    | succ n =>
      have hlen : p.length < 1000000 := by rw [hp] at hb; simp at hb; omega
      have hl := hV.len
      have d1 : decide ((p.length : Int) < (ev.length : Int)) = true := by rw [hp]; exact dlt p e s
      have i1 : idx ev (p.length : Int) = some e := by rw [hp]; exact idx_at p e s
      have hp' : ev = (p ++ [e]) ++ s := by rw [hp]; simp
      have hap : applyS l d e = stepS l d e := by unfold applyS; rw [if_pos ⟨validB_iff.2 hV, hd⟩]
      simp only [ref13_Fold_L1, ref13_Fold_L1_B, d1, if_true, i1, Option.bind_some, foldS, gt_iff_lt]
      rw [nxt p e (by omega)]
      by_cases hu : u < e.Stamp.Time
      · simp only [hu, decide_true, if_true]
        exact ih (p ++ [e]) n l r hp' (by simpa using hn) hV (by simp; omega)
      · simp only [hu, decide_false, Bool.false_eq_true, if_false, refApply_s (show 10 ≤ F by omega) (show l.length < 1000000 by omega) (show l.length < F by omega), hap, Option.bind_some, bne_iff_ne]
        by_cases h0 : (stepS l d e).2 = 0
        · simp only [h0, ne_eq, not_true_eq_false, if_false]
          exact ih (p ++ [e]) n _ r hp' (by simpa using hn) (hV.step h0) (by simp; omega)
        · simp only [h0, ne_eq, not_false_eq_true, if_true]
          rw [app_of (by simp; omega)]
          simp only [Option.bind_some]
          exact ih (p ++ [e]) n l _ hp' (by simpa using hn) hV (by simp; omega)
theorem rfold_s {F : Nat} (hF : 2000 ≤ F) {l : List GEntryEvent} {d : GDeadlines} {u : Int} (hl : l.length ≤ 1000) : ref13_Fold F l d u = some (foldE l d u) := by
  have hd : ref13_Deadlines d = some (dOk d) := rfl
  have hle := canonEv_le (·.Stamp) l
  unfold ref13_Fold foldE
  simp only [hd, Option.bind_some]
  cases hdd : dOk d with
  | false => simp
  | true =>
    simp only [Bool.not_true, Bool.false_eq_true, if_false, Bool.true_eq_false, canonicalR_s (show l.length < 1000000 by omega) (show l.length < F by omega), Option.bind_some, bne_iff_ne, ne_eq]
    revert hle
    generalize canonEv (fun x : GEntryEvent => x.Stamp) l = ce
    intro hle
    by_cases h0 : ce.2 = 0
    · simp only [h0, not_true_eq_false, if_false]
      have b1 : ce.1.length < 1000000 := by omega
      have b2 : ce.1.length < F := by omega
      exact rfold_loop hF hdd (c := ce.2) b1 ce.1 [] F [] [] rfl b2 vl_nil (by simp)
    · simp only [h0, not_false_eq_true, if_true]
/-- a property that each step keeps holds of the fold -/
theorem foldS_inv {d : GDeadlines} {u : Int} {I : List GEnrolment → Prop} : ∀ {s : List GEntryEvent} {l : List GEnrolment} {r : List GRefusal}, I l → (∀ e ∈ s, e.Stamp.Time ≤ u → ∀ l, I l → (stepS l d e).2 = 0 → I (stepS l d e).1) → I (foldS d u s l r).1
  | [], _, _, h, _ => h
  | e :: s, l, r, h, hs => by
    simp only [foldS]
    split
    · exact foldS_inv h fun x hx => hs x (by simp [hx])
    · rename_i hu
      split
      · exact foldS_inv h fun x hx => hs x (by simp [hx])
      · rename_i h0
        exact foldS_inv (hs e (by simp) (by omega) l h (Classical.not_not.1 h0)) fun x hx => hs x (by simp [hx])
theorem foldS_code {d : GDeadlines} {u : Int} : ∀ {s : List GEntryEvent} {l : List GEnrolment} {r : List GRefusal}, (foldS d u s l r).2.2 = 0
  | [], _, _ => rfl
  | e :: s, l, r => by
    simp only [foldS]
    split
    · exact foldS_code
    · split <;> exact foldS_code
theorem foldS_refs {d : GDeadlines} {u : Int} : ∀ {s : List GEntryEvent} {l : List GEnrolment} {r : List GRefusal}, (foldS d u s l r).2.1.length ≤ r.length + s.length
  | [], _, _ => by simp [foldS]
  | e :: s, l, r => by
    simp only [foldS]
    split
    · have := foldS_refs (d := d) (u := u) (s := s) (l := l) (r := r); simp; omega
    · split
      · have := foldS_refs (d := d) (u := u) (s := s) (l := l) (r := r ++ [⟨⟨e.Stamp.Source, e.Stamp.Seq⟩, (stepS l d e).2⟩]); simp at this ⊢; omega
      · have := foldS_refs (d := d) (u := u) (s := s) (l := (stepS l d e).1) (r := r); simp; omega
theorem foldE_vl {l : List GEntryEvent} {d : GDeadlines} {u : Int} : VL (foldE l d u).1 := by
  unfold foldE
  split
  · exact vl_nil
  · split
    · exact vl_nil
    · exact foldS_inv vl_nil fun e _ _ l hl h0 => hl.step h0
theorem foldE_refs {l : List GEntryEvent} {d : GDeadlines} {u : Int} : (foldE l d u).2.1.length ≤ l.length := by
  unfold foldE
  split
  · simp
  · split
    · simp
    · have := foldS_refs (d := d) (u := u) (s := (canonEv (·.Stamp) l).1) (l := []) (r := [])
      have := canonEv_le (·.Stamp) l
      simp at *; omega
theorem foldE_small {l : List GEntryEvent} {d : GDeadlines} {u : Int} (hl : l.length ≤ 300) (hd : dOk d = true) : foldE l d u = foldS d u (evL (·.Stamp) l) [] [] := by
  unfold foldE
  rw [canonEv_small hl]; simp [hd]
/- same, refusals, awake -/
theorem same_loop (a : List GEnrolment) (hb : a.length < 1000000) : ∀ (s p : List GEnrolment) (n : Nat), a = p ++ s → s.length < n → law13_same_L1 a a n (p.length : Int) = some true := by
  intro s
  induction s with
  | nil => intro p n hp hn; cases n with
    | zero => omega
    | succ n =>
      have : a = p := by simpa using hp
      subst this
      simp only [law13_same_L1, law13_same_L1_B, Int.lt_irrefl, decide_false, Bool.false_eq_true, if_false]
  | cons e s ih => intro p n hp hn; cases n with
    | zero => omega
    | succ n =>
      have hlen : p.length < 1000000 := by rw [hp] at hb; simp at hb; omega
      have d1 : decide ((p.length : Int) < (a.length : Int)) = true := by rw [hp]; exact dlt p e s
      have i1 : idx a (p.length : Int) = some e := by rw [hp]; exact idx_at p e s
      simp only [law13_same_L1, law13_same_L1_B, d1, if_true, i1, Option.bind_some, decide_true, Bool.not_true, Bool.false_eq_true, if_false]
      rw [nxt p e (by omega)]
      exact ih (p ++ [e]) n (by rw [hp]; simp) (by simpa using hn)
theorem same_s {F : Nat} {a : List GEnrolment} (hb : a.length < 1000000) (hF : a.length < F) : law13_same F a a = some true := by
  unfold law13_same
  simp only [bne_self_eq_false, Bool.false_eq_true, if_false]
  exact same_loop a hb a [] F rfl hF
theorem refs_loop (a : List GRefusal) (hb : a.length < 1000000) : ∀ (s p : List GRefusal) (n : Nat), a = p ++ s → s.length < n → law13_refusals_L1 a a n (p.length : Int) = some true := by
  intro s
  induction s with
  | nil => intro p n hp hn; cases n with
    | zero => omega
    | succ n =>
      have : a = p := by simpa using hp
      subst this
      simp only [law13_refusals_L1, law13_refusals_L1_B, Int.lt_irrefl, decide_false, Bool.false_eq_true, if_false]
  | cons e s ih => intro p n hp hn; cases n with
    | zero => omega
    | succ n =>
      have hlen : p.length < 1000000 := by rw [hp] at hb; simp at hb; omega
      have d1 : decide ((p.length : Int) < (a.length : Int)) = true := by rw [hp]; exact dlt p e s
      have i1 : idx a (p.length : Int) = some e := by rw [hp]; exact idx_at p e s
      simp only [law13_refusals_L1, law13_refusals_L1_B, d1, if_true, i1, Option.bind_some, decide_true, Bool.not_true, Bool.false_eq_true, if_false]
      rw [nxt p e (by omega)]
      exact ih (p ++ [e]) n (by rw [hp]; simp) (by simpa using hn)
theorem refs_s {F : Nat} {a : List GRefusal} (hb : a.length < 1000000) (hF : a.length < F) : law13_refusals F a a = some true := by
  unfold law13_refusals
  simp only [bne_self_eq_false, Bool.false_eq_true, if_false]
  exact refs_loop a hb a [] F rfl hF
theorem eawake_s {F : Nat} (hF : 2000 ≤ F) : law13_awake F = some true := by
  unfold law13_awake
  rw [efold_s hF (by simp)]
  have : foldE [(GEntryEvent.mk (GStamp.mk 16 7 2) 1 (GEntry.mk 5 7 1) 0), (GEntryEvent.mk (GStamp.mk 8 7 0) 1 (GEntry.mk 5 7 1) 0), (GEntryEvent.mk (GStamp.mk 15 7 1) 3 (GEntry.mk 5 7 1) 9)] (GDeadlines.mk 10 20) 100 = ([GEnrolment.mk (GEntry.mk 5 9 1) false], [GRefusal.mk (GIdentity.mk 7 2) 9], 0) := by decide
  rw [this]
  rfl
end Go.Sh
