/- Plain laws of chapter 13, part 1: enrolments in order; the step and the fold as plain functions. -/
import Derived.Test.YtkkhmngmhckgbaaQh
set_option linter.unusedVariables false
set_option linter.unusedSimpArgs false
namespace Go.Sh
open Go.L

def ltE (a b : GEntry) : Bool := (decide (a.Candidate < b.Candidate)) || ((a.Candidate == b.Candidate) && (decide (a.Paper < b.Paper)))
def eqE (a b : GEntry) : Bool := (a.Candidate == b.Candidate) && (a.Paper == b.Paper)
def cmpE (a b : GEntry) : Int := if cmpS a.Candidate b.Candidate ≠ 0 then cmpS a.Candidate b.Candidate else cmpS a.Paper b.Paper
theorem ltE_iff {a b : GEntry} : ltE a b = true ↔ a.Candidate < b.Candidate ∨ a.Candidate = b.Candidate ∧ a.Paper < b.Paper := by unfold ltE; simp
theorem eqE_iff {a b : GEntry} : eqE a b = true ↔ a.Candidate = b.Candidate ∧ a.Paper = b.Paper := by unfold eqE; simp
theorem cmpE_lt {a b : GEntry} : cmpE a b < 0 ↔ ltE a b = true := by
  rw [ltE_iff]; unfold cmpE; have := @cmpS_zero a.Candidate b.Candidate; split
  · rw [cmpS_lt]; simp_all
  · rw [cmpS_lt]; simp_all
theorem cmpE_zero {a b : GEntry} : cmpE a b = 0 ↔ eqE a b = true := by
  rw [eqE_iff]; unfold cmpE; have := @cmpS_zero a.Candidate b.Candidate; have := @cmpS_zero a.Paper b.Paper; split <;> simp_all
theorem ecompare_s {F : Nat} (hF : 10 ≤ F) (x : GEnrolment) (y : GEntry) : entry_compare F x y = some (cmpE x.Entry y) := by
  simp only [entry_compare, compare_s, Option.bind_some]
  rw [or_s (by simp) (by simp; omega)]
  simp only [Option.bind_some, orS, cmpE]
  repeat' split
  all_goals simp_all
theorem ltE_trans {a b c : GEntry} (h : ltE a b = true) (h' : ltE b c = true) : ltE a c = true := by rw [ltE_iff] at *; omega
theorem ltE_irr {a : GEntry} : ¬ ltE a a = true := by rw [ltE_iff]; omega
def vEntry (p0 : GEntry) : Bool := ((decide (p0.Candidate ≥ 0)) && ((decide (p0.Candidate ≤ 9999)) && ((decide (p0.Centre ≥ 1)) && ((decide (p0.Centre ≤ 99)) && ((decide (p0.Paper ≥ 0)) && (decide (p0.Paper ≤ 31)))))))
theorem refEntry_s (x : GEntry) : ref13_Entry x = some (vEntry x) := rfl
theorem validEntry_s (x : GEntry) : entry_validEntry x = some (vEntry x) := by
  simp only [entry_validEntry, entry_isCentre, vEntry, Option.bind_some]
  cases decide (x.Candidate ≥ 0) <;> cases decide (x.Candidate ≤ 9999) <;> cases decide (x.Centre ≥ 1) <;> cases decide (x.Centre ≤ 99) <;> cases decide (x.Paper ≥ 0) <;> simp
def vEvent (e : GEntryEvent) : Bool := vEntry e.Entry && ((e.Kind == 1) || ((e.Kind == 2) || ((e.Kind == 3) && ((decide (e.To ≥ 1)) && ((decide (e.To ≤ 99)) && (e.To != e.Entry.Centre))))))
theorem validEvent_s (e : GEntryEvent) : entry_validEvent e = some (vEvent e) := by
  simp only [entry_validEvent, entry_validEvent_J1, validEntry_s, entry_isCentre, vEvent, Option.bind_some]
  by_cases h1 : e.Kind = 1
  · simp [h1]
  · by_cases h2 : e.Kind = 2
    · simp [h2]
    · by_cases h3 : e.Kind = 3
      · cases vEntry e.Entry <;> cases h4 : decide (e.To ≥ 1) <;> cases h5 : decide (e.To ≤ 99) <;> simp_all
      · simp [h1, h2, h3]
/- the middle of two places -/
theorem mid_s {a b : Nat} (h : a + b < 1000000000) : i64 (shrI .u64 (IntKind.u64.wrap (i64 ((a : Int) + b))) 1) = (((a + b) / 2 : Nat) : Int) := by
  rw [i64_of (n := (a : Int) + b) (by omega) (by omega)]
  have h1 : IntKind.u64.wrap ((a : Int) + b) = (a : Int) + b := by
    unfold IntKind.wrap
    simp only [IntKind.bits, IntKind.signed]
    first | omega | (simp; omega)
  rw [h1]
  have h2 : shrI .u64 ((a : Int) + b) 1 = ((a : Int) + b) / 2 := by
    unfold shrI
    simp only [IntKind.bits]
    rw [show (2 : Int) ^ min (1 : Int).toNat 64 = 2 from rfl]
    rw [Int.fdiv_eq_ediv_of_nonneg _ (by omega)]
  rw [h2, i64_of (by omega) (by omega)]
  omega
theorem bsearch_loop {l : List GEnrolment} {x : GEntry} {p2 : GEnrolment → GEntry → Option Int} {f : GEnrolment → Int} {k : Nat} (hb : l.length < 1000000) (hk : k ≤ l.length) (hf : ∀ y ∈ l, p2 y x = some (f y)) (h : ∀ q (hq : q < l.length), q < k ↔ f l[q] < 0) :
    ∀ n (a b : Nat), a ≤ k → k ≤ b → b ≤ l.length → b - a < n → slices_BinarySearchFunc_Enrolment_Enrolment_Entry_L1 l x p2 n a b = some ((k : Int), match l[k]? with | some y => f y == 0 | .none => false) := by
  intro n
  induction n with
  | zero => intro a b _ _ _ h; omega
  | succ n ih =>
    intro a b ha hkb hbl hn
    simp only [slices_BinarySearchFunc_Enrolment_Enrolment_Entry_L1, slices_BinarySearchFunc_Enrolment_Enrolment_Entry_L1_B]
    by_cases hab : a < b
    · have d : decide ((a : Int) < (b : Int)) = true := by simp; exact hab
      have hm : (a + b) / 2 < l.length := by omega
      simp only [d, if_true, mid_s (show a + b < 1000000000 by omega), idx_lt hm, Option.bind_some, hf _ (List.getElem_mem hm)]
      by_cases hlt : f l[(a + b) / 2] < 0
      · have := (h _ hm).2 hlt
        simp only [hlt, decide_true, if_true, nxtN (show (a + b) / 2 < 1000000000 by omega)]
        exact ih _ _ (by omega) hkb hbl (by omega)
      · have : ¬ (a + b) / 2 < k := fun hc => hlt ((h _ hm).1 hc)
        simp only [hlt, decide_false, Bool.false_eq_true, if_false]
        exact ih _ _ ha (by omega) (by omega) (by omega)
    · have d : decide ((a : Int) < (b : Int)) = false := by simp; omega
      have hak : a = k := by omega
      subst hak
      simp only [d, Bool.false_eq_true, if_false]
      by_cases hal : a < l.length
      · have d2 : decide ((a : Int) < (l.length : Int)) = true := by simp; exact hal
        simp only [d2, if_true, idx_lt hal, Option.bind_some, hf _ (List.getElem_mem hal), List.getElem?_eq_getElem hal]
      · have d2 : decide ((a : Int) < (l.length : Int)) = false := by simp; omega
        simp only [d2, Bool.false_eq_true, if_false, Option.bind_some, List.getElem?_eq_none (show l.length ≤ a by omega)]
def lo (l : List GEnrolment) (x : GEntry) : List GEnrolment := l.takeWhile fun y => ltE y.Entry x
def hi (l : List GEnrolment) (x : GEntry) : List GEnrolment := l.dropWhile fun y => ltE y.Entry x
theorem lo_hi (l : List GEnrolment) (x : GEntry) : lo l x ++ hi l x = l := List.takeWhile_append_dropWhile
def SortE (l : List GEnrolment) : Prop := l.Pairwise fun a b => ltE a.Entry b.Entry = true
theorem lo_lt {l : List GEnrolment} {x : GEntry} {y : GEnrolment} (h : y ∈ lo l x) : ltE y.Entry x = true := by
  have := List.all_takeWhile (p := fun y : GEnrolment => ltE y.Entry x) (l := l)
  rw [List.all_eq_true] at this
  exact this y h
theorem take_lo (l : List GEnrolment) (x : GEntry) : l.take (lo l x).length = lo l x := by
  have := List.take_left (l₁ := lo l x) (l₂ := hi l x)
  rwa [lo_hi] at this
theorem drop_lo (l : List GEnrolment) (x : GEntry) : l.drop (lo l x).length = hi l x := by
  have := List.drop_left (l₁ := lo l x) (l₂ := hi l x)
  rwa [lo_hi] at this
theorem drop_lo1 (l : List GEnrolment) (x : GEntry) : l.drop ((lo l x).length + 1) = (hi l x).drop 1 := by
  rw [← drop_lo, List.drop_drop]
theorem hi_head {l : List GEnrolment} {x : GEntry} {y : GEnrolment} {r : List GEnrolment} (h : hi l x = y :: r) : ¬ ltE y.Entry x = true := by
  intro hc
  have := List.head?_dropWhile_not (fun y : GEnrolment => ltE y.Entry x) l
  unfold hi at h
  rw [h] at this
  simp [hc] at this
theorem hi_ge {l : List GEnrolment} {x : GEntry} (hs : SortE l) {y : GEnrolment} (h : y ∈ hi l x) : ¬ ltE y.Entry x = true := by
  cases hh : hi l x with
  | nil => rw [hh] at h; simp at h
  | cons z r =>
    have hz := hi_head hh
    rw [hh] at h
    rcases List.mem_cons.1 h with rfl | h
    · exact hz
    · intro hc
      have hs' : SortE (lo l x ++ z :: r) := by rw [← hh, lo_hi]; exact hs
      unfold SortE at hs'
      rw [List.pairwise_append, List.pairwise_cons] at hs'
      exact hz (ltE_trans (hs'.2.1.1 y h) hc)
/-- the first of the upper part, if it has the entry's candidate and paper -/
def atE (l : List GEnrolment) (x : GEntry) : Option GEnrolment := match hi l x with | y :: _ => if eqE y.Entry x then some y else .none | [] => .none
theorem bsearch_s {F : Nat} (hF : 10 ≤ F) {l : List GEnrolment} {x : GEntry} (hs : SortE l) (hb : l.length < 1000000) (hFl : l.length < F) :
    slices_BinarySearchFunc_Enrolment_Enrolment_Entry F l x (fun a0 a1 => entry_compare F a0 a1) = some (((lo l x).length : Int), (atE l x).isSome) := by
  have hlen : (lo l x).length ≤ l.length := by have := congrArg List.length (lo_hi l x); simp at this; omega
  unfold slices_BinarySearchFunc_Enrolment_Enrolment_Entry
  have := bsearch_loop (l := l) (x := x) (p2 := fun a0 a1 => entry_compare F a0 a1) (f := fun y => cmpE y.Entry x) (k := (lo l x).length) hb hlen (fun y _ => ecompare_s hF y x) (fun q hq => ?_) F 0 l.length (by omega) hlen (by omega) (by omega)
  · show slices_BinarySearchFunc_Enrolment_Enrolment_Entry_L1 l x _ F ((0 : Nat) : Int) _ = _
    rw [this]
    have hk : l[(lo l x).length]? = (hi l x).head? := by
      have e := lo_hi l x
      conv => lhs; rw [← e]
      rw [List.getElem?_append_right (by simp [lo_hi])]
      simp [lo_hi, List.head?_eq_getElem?]
    rw [hk]
    unfold atE
    cases hi l x with
    | nil => rfl
    | cons y r =>
      simp only [List.head?_cons]
      by_cases he : eqE y.Entry x = true
      · have := cmpE_zero.2 he; simp [he, this]
      · have : ¬ cmpE y.Entry x = 0 := fun h => he (cmpE_zero.1 h)
        simp [he, this]
  · rw [cmpE_lt]
    constructor
    · intro h
      have : l[q] = (lo l x)[q] := by
        have e := lo_hi l x
        have : l[q]? = (lo l x)[q]? := by
          conv => lhs; rw [← e]
          rw [List.getElem?_append_left h]
        simpa [hq, h] using this
      rw [this]; exact lo_lt (List.getElem_mem _)
    · intro h
      apply Classical.byContradiction
      intro hc
      have hm : l[q] ∈ hi l x := by
        have e := lo_hi l x
        have : l[q]? = (hi l x)[q - (lo l x).length]? := by
          conv => lhs; rw [← e]
          rw [List.getElem?_append_right (by omega)]
        rw [List.getElem?_eq_getElem hq] at this
        exact List.mem_of_getElem? this.symm
      exact hi_ge hs hm h
/-- the step -/
def stepS (l : List GEnrolment) (d : GDeadlines) (e : GEntryEvent) : List GEnrolment × Int :=
  if vEvent e = false then ([], 2) else
  if e.Stamp.Source ≠ 0 ∧ e.Stamp.Source ≠ e.Entry.Centre then ([], 28) else
  if d.Late < e.Stamp.Time then ([], 27) else
  match atE l e.Entry with
  | some y =>
    if e.Kind = 1 then (if y.Entry.Centre = e.Entry.Centre then ([], 5) else ([], 9))
    else if y.Entry.Centre ≠ e.Entry.Centre then ([], 4)
    else if e.Kind = 2 then (lo l e.Entry ++ (hi l e.Entry).drop 1, 0)
    else (lo l e.Entry ++ ⟨⟨y.Entry.Candidate, e.To, y.Entry.Paper⟩, y.Late⟩ :: (hi l e.Entry).drop 1, 0)
  | .none => if e.Kind = 1 then (if 300 ≤ l.length then ([], 3) else (lo l e.Entry ++ ⟨e.Entry, decide (d.Close < e.Stamp.Time)⟩ :: hi l e.Entry, 0)) else ([], 4)
theorem atE_some {l : List GEnrolment} {x : GEntry} {y : GEnrolment} (h : atE l x = some y) : hi l x = y :: (hi l x).drop 1 ∧ eqE y.Entry x = true := by
  unfold atE at h
  cases hh : hi l x with
  | nil => rw [hh] at h; cases h
  | cons z r =>
    rw [hh] at h
    simp only at h
    split at h
    · cases h; rename_i h2; exact ⟨rfl, h2⟩
    · cases h
theorem step_s {F : Nat} (hF : 10 ≤ F) {l : List GEnrolment} {d : GDeadlines} {e : GEntryEvent} (hs : SortE l) (hb : l.length < 1000000) (hFl : l.length < F) : entry_step F l d e = some (stepS l d e) := by
  unfold entry_step stepS
  simp only [validEvent_s, Option.bind_some]
  cases vEvent e with
  | false => simp
  | true =>
    simp only [Bool.not_true, Bool.false_eq_true, if_false, Bool.true_eq_false]
    by_cases h1 : e.Stamp.Source ≠ 0 ∧ e.Stamp.Source ≠ e.Entry.Centre
    · simp [h1]
    · have h1' : ((e.Stamp.Source != 0) && (e.Stamp.Source != e.Entry.Centre)) = false := by
        cases h : ((e.Stamp.Source != 0) && (e.Stamp.Source != e.Entry.Centre)) with
        | false => rfl
        | true => exact absurd (by simpa using h) h1
      simp only [h1', Bool.false_eq_true, if_false, h1]
      by_cases h2 : d.Late < e.Stamp.Time
      · simp [h2]
      · have h2' : decide (e.Stamp.Time > d.Late) = false := by simp; omega
        simp only [gt_iff_lt, h2, decide_false, Bool.false_eq_true, if_false, bsearch_s hF hs hb hFl, Option.bind_some]
        have hlh := lo_hi l e.Entry
        have hlen : (lo l e.Entry).length + (hi l e.Entry).length = l.length := by have := congrArg List.length hlh; simpa using this
        rw [app_of (by simp; omega)]
        simp only [Option.bind_some, List.nil_append]
        cases hat : atE l e.Entry with
        | none =>
          simp only [Option.isSome_none, Bool.false_eq_true, if_false, Option.bind_some]
          by_cases hk : e.Kind = 1
          · simp only [hk, beq_self_eq_true, if_true]
            by_cases h300 : 300 ≤ l.length
            · have : decide ((l.length : Int) ≥ 300) = true := by simp; omega
              simp [this, h300]
            · have : decide ((l.length : Int) ≥ 300) = false := by simp; omega
              simp only [this, Bool.false_eq_true, if_false, h300]
              unfold insF
              rw [if_pos (show 0 ≤ ((lo l e.Entry).length : Int) ∧ ((lo l e.Entry).length : Int) ≤ l.length ∧ l.length ≤ 1099511627775 from ⟨by omega, by omega, by omega⟩)]
              simp only [Option.bind_some, Int.toNat_natCast]
              rw [take_lo, drop_lo]
              simp
          · have hk' : (e.Kind == 1) = false := by simp [hk]
            simp [hk', hk]
        | some y =>
          obtain ⟨hh, heq⟩ := atE_some hat
          have hix : idx l ((lo l e.Entry).length : Int) = some y := by
            have e3 : l = lo l e.Entry ++ y :: (hi l e.Entry).drop 1 := by rw [← hh, hlh]
            have := idx_at (lo l e.Entry) y ((hi l e.Entry).drop 1)
            rw [← e3] at this; exact this
          simp only [Option.isSome_some, if_true, hix, Option.bind_some]
          by_cases hk : e.Kind = 1
          · simp only [hk, beq_self_eq_true, if_true]
            by_cases hc : y.Entry.Centre = e.Entry.Centre
            · simp [hc]
            · simp [hc]
          · have hk' : (e.Kind == 1) = false := by simp [hk]
            simp only [hk', Bool.false_eq_true, if_false, hk]
            by_cases hc : y.Entry.Centre = e.Entry.Centre
            · have hlo : (lo l e.Entry).length < l.length := by rw [hh] at hlen; simp at hlen; omega
              simp only [hc, beq_self_eq_true, Bool.not_true, Bool.false_eq_true, if_false, ne_eq, not_true_eq_false]
              have e1 := take_lo l e.Entry
              have e2 := drop_lo1 l e.Entry
              by_cases hk2 : e.Kind = 2
              · simp only [hk2, beq_self_eq_true, if_true, nxtN (show (lo l e.Entry).length < 1000000000 by omega)]
                unfold delF
                rw [if_pos (show 0 ≤ ((lo l e.Entry).length : Int) ∧ ((lo l e.Entry).length : Int) < (((lo l e.Entry).length + 1 : Nat) : Int) ∧ (((lo l e.Entry).length + 1 : Nat) : Int) ≤ l.length from ⟨by omega, by omega, by omega⟩)]
                simp only [Option.bind_some, Int.toNat_natCast, e1, e2]
              · have hk2' : (e.Kind == 2) = false := by simp [hk2]
                simp only [hk2', Bool.false_eq_true, if_false, hk2]
                have : l.set ((lo l e.Entry).length : Int).toNat ⟨⟨y.Entry.Candidate, e.To, y.Entry.Paper⟩, y.Late⟩ = lo l e.Entry ++ ⟨⟨y.Entry.Candidate, e.To, y.Entry.Paper⟩, y.Late⟩ :: (hi l e.Entry).drop 1 := by
                  rw [List.set_eq_take_append_cons_drop, if_pos (by simpa using hlo)]
                  simp only [Int.toNat_natCast, e1, e2]
                rw [this]
            · simp [hc]
end Go.Sh
