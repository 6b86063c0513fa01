/- Plain laws of chapter 16, part 1: the check of enrolments; the step and its reference. -/
import Derived.Test.YtapnjifcfljmmaaQh
set_option linter.unusedVariables false
set_option linter.unusedSimpArgs false
namespace Go.Sh
open Go.L

def badE (x : GEnrolment) : Bool := (decide (x.Entry.Candidate < 0)) || ((decide (x.Entry.Candidate > 9999)) || ((decide (x.Entry.Centre < 1)) || (decide (x.Entry.Centre > 99))))
def chkAdj : GEnrolment → List GEnrolment → Int
  | _, [] => 0
  | x, y :: s => if x.Entry.Candidate ≥ y.Entry.Candidate then 5 else chkAdj y s
def chk2 : List GEnrolment → Int
  | [] => 0
  | x :: s => chkAdj x s
def checkA (l : List GEnrolment) : Int := if 60 < l.length then 3 else if l.any badE = true then 2 else chk2 l
theorem adj_loop : ∀ (s p : List GEnrolment) (y : GEnrolment) (n : Nat), (p ++ y :: s).length < 1000000 → s.length < n → attendance_Check_L2 (p ++ y :: s) n ((p.length + 1 : Nat) : Int) = some (chkAdj y s) := by
  intro s
  induction s with
  | nil => intro p y n hb hn; cases n with
    | zero => omega
    | succ n =>
      have d : decide (((p.length + 1 : Nat) : Int) < ((p ++ [y]).length : Int)) = false := by simp
      simp only [attendance_Check_L2, attendance_Check_L2_B, d, Bool.false_eq_true, if_false, chkAdj]
  | cons z s ih => intro p y n hb hn; cases n with
    | zero => omega
    | succ n =>
      have hl : p.length < 1000000 := by simp at hb; omega
      have d : decide (((p.length + 1 : Nat) : Int) < ((p ++ y :: z :: s).length : Int)) = true := by simp; omega
      have i1 : idx (p ++ y :: z :: s) (i64 (((p.length + 1 : Nat) : Int) - 1)) = some y := by
        rw [i64_of (by omega) (by omega)]
        have : ((p.length + 1 : Nat) : Int) - 1 = (p.length : Int) := by omega
        rw [this]; exact idx_at p y (z :: s)
      have i2 : idx (p ++ y :: z :: s) ((p.length + 1 : Nat) : Int) = some z := by
        rw [snoc]; exact idx_mid (by simp)
      simp only [attendance_Check_L2, attendance_Check_L2_B, d, if_true, i1, i2, Option.bind_some, chkAdj, ge_iff_le, decide_eq_true_eq]
      rw [nxtN (by omega)]
      have hrec := ih (p ++ [y]) z n (by simpa using hb) (by simpa using hn)
      rw [List.length_append, List.length_singleton] at hrec
      rw [snoc, hrec]
      split <;> rfl
theorem bad_loop {F : Nat} (l : List GEnrolment) (hb : l.length < 1000000) : ∀ (s p : List GEnrolment) (n : Nat), l = p ++ s → s.length < n → attendance_Check_L1 F l n (p.length : Int) = if s.any badE = true then some 2 else attendance_Check_L2 l F 1 := by
  intro s
  induction s with
  | nil => intro p n hp hn; cases n with
    | zero => omega
    | succ n =>
      have : l = p := by simpa using hp
      subst this
      simp only [attendance_Check_L1, attendance_Check_L1_B, Int.lt_irrefl, decide_false, Bool.false_eq_true, if_false, List.any_nil]
  | cons x s ih => intro p n hp hn; cases n with
    | zero => omega
    | succ n =>
      have hl : p.length < 1000000 := by have := congrArg List.length hp; simp at this; omega
      have d1 : decide ((p.length : Int) < (l.length : Int)) = true := by rw [hp]; exact dlt p x s
      have i1 : idx l (p.length : Int) = some x := by rw [hp]; exact idx_at p x s
      simp only [attendance_Check_L1, attendance_Check_L1_B, d1, if_true, i1, Option.bind_some]
      rw [nxt p x (by omega), ih (p ++ [x]) n (by rw [hp]; simp) (by simpa using hn)]
      show (if badE x = true then _ else _) = _
      rw [List.any_cons]
      cases badE x <;> simp
theorem check_s {F : Nat} {l : List GEnrolment} (hb : l.length < 1000000) (hF : l.length < F) : attendance_Check F l = some (checkA l) := by
  unfold attendance_Check checkA
  by_cases h : 60 < l.length
  · have : decide ((l.length : Int) > 60) = true := by simp; omega
    simp [this, h]
  · have : decide ((l.length : Int) > 60) = false := by simp; omega
    simp only [this, Bool.false_eq_true, if_false, h]
    have hL := bad_loop (F := F) l hb l [] F rfl hF
    rw [List.length_nil] at hL
    rw [show (0 : Int) = ((0 : Nat) : Int) from rfl, hL]
    split
    · rfl
    · cases l with
      | nil =>
        cases F with
        | zero => simp at hF
        | succ n => simp [attendance_Check_L2, attendance_Check_L2_B, chk2]
      | cons x s =>
        have := adj_loop s [] x F (by simpa using hb) (by simp at hF; omega)
        simpa [chk2] using this
theorem rcheck_eq {F : Nat} {l : List GEnrolment} : ref16_Check F l = attendance_Check F l := by
  have h2 : ∀ n, ref16_Check_L2 l n = attendance_Check_L2 l n := fun n => by
    induction n with
    | zero => rfl
    | succ n ih => show ref16_Check_L2_B l (ref16_Check_L2 l n) = attendance_Check_L2_B l (attendance_Check_L2 l n); rw [ih]; rfl
  have h1 : ∀ n, ref16_Check_L1 F l n = attendance_Check_L1 F l n := fun n => by
    induction n with
    | zero => rfl
    | succ n ih =>
      show ref16_Check_L1_B F l (ref16_Check_L1 F l n) = attendance_Check_L1_B F l (attendance_Check_L1 F l n)
      rw [ih]; funext i; unfold ref16_Check_L1_B attendance_Check_L1_B; rw [h2]
  unfold ref16_Check attendance_Check; rw [h1]
def SortA (l : List GEnrolment) : Prop := l.Pairwise fun a b => a.Entry.Candidate < b.Entry.Candidate
theorem adj_sort : ∀ {s : List GEnrolment} {y : GEnrolment}, chkAdj y s = 0 → SortA (y :: s)
  | [], y, _ => by simp [SortA]
  | z :: s, y, h => by
    simp only [chkAdj] at h
    split at h
    · simp at h
    · rename_i hc
      have := adj_sort h
      unfold SortA at this ⊢
      rw [List.pairwise_cons]
      refine ⟨fun a ha => ?_, this⟩
      rcases List.mem_cons.1 ha with rfl | ha
      · omega
      · have := (List.pairwise_cons.1 this).1 a ha; omega
theorem check_sort {l : List GEnrolment} (h : checkA l = 0) : SortA l ∧ l.length ≤ 60 ∧ ∀ x ∈ l, badE x = false := by
  unfold checkA at h
  split at h
  · simp at h
  · rename_i h1
    split at h
    · simp at h
    · rename_i h2
      refine ⟨?_, by omega, ?_⟩
      · cases l with
        | nil => simp [SortA]
        | cons x s => exact adj_sort h
      · intro x hx
        cases hb : badE x with
        | false => rfl
        | true => exact absurd (List.any_eq_true.2 ⟨x, hx, hb⟩) h2
/- the search -/
theorem mid_s {a b : Nat} (h : a + b < 1000000000) : i64 (shrI .u64 (IntKind.u64.wrap (i64 ((a : Int) + b))) 1) = (((a + b) / 2 : Nat) : Int) := by
  rw [i64_of (n := (a : Int) + b) (by omega) (by omega)]
  have h1 : IntKind.u64.wrap ((a : Int) + b) = (a : Int) + b := by
    unfold IntKind.wrap
    simp only [IntKind.bits, IntKind.signed]
    first | omega | (simp; omega)
  rw [h1]
  have h2 : shrI .u64 ((a : Int) + b) 1 = ((a : Int) + b) / 2 := by
    unfold shrI
    simp only [IntKind.bits]
    rw [show (2 : Int) ^ min (1 : Int).toNat 64 = 2 from rfl]
    rw [Int.fdiv_eq_ediv_of_nonneg _ (by omega)]
  rw [h2, i64_of (by omega) (by omega)]
  omega
theorem bsearch_loop {l : List GEnrolment} {x : Int} {p2 : GEnrolment → Int → Option Int} {f : GEnrolment → Int} {k : Nat} (hb : l.length < 1000000) (hk : k ≤ l.length) (hf : ∀ y ∈ l, p2 y x = some (f y)) (h : ∀ q (hq : q < l.length), q < k ↔ f l[q] < 0) :
    ∀ n (a b : Nat), a ≤ k → k ≤ b → b ≤ l.length → b - a < n → slices_BinarySearchFunc_Enrolment_Enrolment_int_L1 l x p2 n a b = some ((k : Int), match l[k]? with | some y => f y == 0 | .none => false) := by
  intro n
  induction n with
  | zero => intro a b _ _ _ h; omega
  | succ n ih =>
    intro a b ha hkb hbl hn
    simp only [slices_BinarySearchFunc_Enrolment_Enrolment_int_L1, slices_BinarySearchFunc_Enrolment_Enrolment_int_L1_B]
    by_cases hab : a < b
    · have d : decide ((a : Int) < (b : Int)) = true := by simp; exact hab
      have hm : (a + b) / 2 < l.length := by omega
      simp only [d, if_true, mid_s (show a + b < 1000000000 by omega), idx_lt hm, Option.bind_some, hf _ (List.getElem_mem hm)]
      by_cases hlt : f l[(a + b) / 2] < 0
      · have := (h _ hm).2 hlt
        simp only [hlt, decide_true, if_true, nxtN (show (a + b) / 2 < 1000000000 by omega)]
        exact ih _ _ (by omega) hkb hbl (by omega)
      · have : ¬ (a + b) / 2 < k := fun hc => hlt ((h _ hm).1 hc)
        simp only [hlt, decide_false, Bool.false_eq_true, if_false]
        exact ih _ _ ha (by omega) (by omega) (by omega)
    · have d : decide ((a : Int) < (b : Int)) = false := by simp; omega
      have hak : a = k := by omega
      subst hak
      simp only [d, Bool.false_eq_true, if_false]
      by_cases hal : a < l.length
      · have d2 : decide ((a : Int) < (l.length : Int)) = true := by simp; exact hal
        simp only [d2, if_true, idx_lt hal, Option.bind_some, hf _ (List.getElem_mem hal), List.getElem?_eq_getElem hal]
      · have d2 : decide ((a : Int) < (l.length : Int)) = false := by simp; omega
        simp only [d2, Bool.false_eq_true, if_false, Option.bind_some, List.getElem?_eq_none (show l.length ≤ a by omega)]
def place (l : List GEnrolment) (c : Int) : Option Nat := l.findIdx? fun y => y.Entry.Candidate == c
theorem cutPlace {l : List GEnrolment} (hs : SortA l) (c : Int) : ∃ k, k ≤ l.length ∧ ∀ q (hq : q < l.length), q < k ↔ l[q].Entry.Candidate < c := by
  induction l with
  | nil => exact ⟨0, by simp, fun q hq => by simp at hq⟩
  | cons x s ih =>
    have hs' := List.pairwise_cons.1 hs
    by_cases hx : x.Entry.Candidate < c
    · obtain ⟨k, hk, h⟩ := ih hs'.2
      refine ⟨k + 1, by simp; omega, fun q hq => ?_⟩
      cases q with
      | zero => simp [hx]
      | succ q => have := h q (by simpa using hq); simp; exact this
    · refine ⟨0, by simp, fun q hq => ?_⟩
      cases q with
      | zero => simp; omega
      | succ q =>
        have hq' : q < s.length := by simpa using hq
        have := hs'.1 s[q] (List.getElem_mem _)
        simp; omega
theorem bs_s {F : Nat} {l : List GEnrolment} {c : Int} (hs : SortA l) (hb : l.length < 1000000) (hFl : l.length < F) :
    ∃ k : Nat, slices_BinarySearchFunc_Enrolment_Enrolment_int F l c (fun a0 a1 => attendance_step_1 a0 a1) = some ((k : Int), (place l c).isSome) ∧ ∀ j, place l c = some j → j = k := by
  obtain ⟨k, hk, h⟩ := cutPlace hs c
  have h1 : ∀ y ∈ l, attendance_step_1 y c = some (cmpS y.Entry.Candidate c) := fun y _ => by simp [attendance_step_1, compare_s]
  have hl := bsearch_loop (l := l) (x := c) (p2 := fun a0 a1 => attendance_step_1 a0 a1) (f := fun y => cmpS y.Entry.Candidate c) hb hk h1 (fun q hq => by rw [h q hq, cmpS_lt]) F 0 l.length (by omega) hk (by omega) (by omega)
  have hp : place l c = if (match l[k]? with | some y => cmpS y.Entry.Candidate c == 0 | .none => false) = true then some k else .none := by
    by_cases hkl : k < l.length
    · rw [List.getElem?_eq_getElem hkl]
      simp only [beq_iff_eq, cmpS_zero]
      split
      · rename_i hc
        unfold place
        rw [List.findIdx?_eq_some_iff_getElem]
        refine ⟨hkl, by simpa using hc, fun j hj => ?_⟩
        have := (h j (by omega)).1 hj
        simp; omega
      · rename_i hc
        unfold place
        rw [List.findIdx?_eq_none_iff]
        intro y hy
        obtain ⟨q, hq, rfl⟩ := List.getElem_of_mem hy
        have h2 := h q hq
        rcases Nat.lt_trichotomy q k with hqk | rfl | hqk
        · have := h2.1 hqk; simp; omega
        · simpa using hc
        · have h3 := List.pairwise_iff_getElem.1 hs k q hkl hq hqk
          have h4 := h k hkl
          simp; omega
    · rw [List.getElem?_eq_none (by omega)]
      simp only [Bool.false_eq_true, if_false]
      unfold place
      rw [List.findIdx?_eq_none_iff]
      intro y hy
      obtain ⟨q, hq, rfl⟩ := List.getElem_of_mem hy
      have := (h q hq).1 (by omega)
      simp; omega
  refine ⟨k, ?_, fun j hj => ?_⟩
  · unfold slices_BinarySearchFunc_Enrolment_Enrolment_int
    rw [show (0 : Int) = ((0 : Nat) : Int) from rfl, hl, hp]
    congr 2
    cases hc : (match l[k]? with | some y => cmpS y.Entry.Candidate c == 0 | .none => false) <;> simp
  · rw [hp] at hj
    by_cases hc : (match l[k]? with | some y => cmpS y.Entry.Candidate c == 0 | .none => false) = true
    · rw [if_pos hc] at hj; exact (Option.some.inj hj).symm
    · rw [if_neg hc] at hj; cases hj
/- the step -/
def badK (e : GRegisterEvent) : Bool := ((decide (e.Kind < 1)) || ((decide (e.Kind > 5)) || ((decide (e.Minutes < 0)) || (decide (e.Minutes > 600)))))
def handA (x : GAttendance) (e : GRegisterEvent) : Int × GAttendance :=
  if e.Kind = 1 then (0, ⟨x.Candidate, 1, -1, -1, x.Incidents⟩)
  else if e.Kind = 2 then (0, ⟨x.Candidate, 2, -1, -1, x.Incidents⟩)
  else if e.Kind = 3 then (0, ⟨x.Candidate, 1, e.Minutes, x.Left, x.Incidents⟩)
  else if e.Kind = 4 then (if x.State ≠ 1 then (8, x) else (0, ⟨x.Candidate, x.State, x.Late, e.Minutes, x.Incidents⟩))
  else (if 8 ≤ x.Incidents.length then (3, x) else (0, ⟨x.Candidate, x.State, x.Late, x.Left, x.Incidents ++ [e.Minutes]⟩))
def stepA (l : List GEnrolment) (all : List GAttendance) (e : GRegisterEvent) : Int × List GAttendance :=
  if badK e = true then (2, all) else
  match place l e.Candidate with
  | .none => (4, all)
  | some k => match l[k]?, all[k]? with
    | some y, some x => if e.Stamp.Source ≠ 0 ∧ e.Stamp.Source ≠ y.Entry.Centre then (28, all) else ((handA x e).1, all.set k (handA x e).2)
    | _, _ => (0, all)
theorem kinds {e : GRegisterEvent} (h : badK e = false) : (e.Kind = 1 ∨ e.Kind = 2 ∨ e.Kind = 3 ∨ e.Kind = 4 ∨ e.Kind = 5) ∧ 0 ≤ e.Minutes ∧ e.Minutes ≤ 600 := by
  unfold badK at h
  simp only [Bool.or_eq_false_iff, decide_eq_false_iff_not] at h
  omega
theorem hand_s {all : List GAttendance} {k : Nat} {x : GAttendance} {e : GRegisterEvent} (hx : all[k]? = some x) (hk : badK e = false) : attendance_register_handle all (k : Int) e = some ((handA x e).1, all.set k (handA x e).2) := by
  have ix : idx all (k : Int) = some x := by rw [idx_nat]; exact hx
  unfold attendance_register_handle handA
  rcases (kinds hk).1 with h | h | h | h | h
  · simp [h, attendance_register_present, ix]
  · simp [h, attendance_register_absent, ix]
  · simp [h, attendance_register_late, ix]
  · by_cases hs : x.State = 1
    · simp [h, attendance_register_left, ix, hs]
    · simp [h, attendance_register_left, ix, hs]
  · by_cases hs : 8 ≤ x.Incidents.length
    · have : (8 : Int) ≤ (x.Incidents.length : Int) := by omega
      simp [h, attendance_register_incident, ix, hs, this]
    · have : ¬ (8 : Int) ≤ (x.Incidents.length : Int) := by omega
      have ha : app x.Incidents [e.Minutes] = some (x.Incidents ++ [e.Minutes]) := app_of (by simp; omega)
      simp [h, attendance_register_incident, ix, hs, this, ha]
theorem step_s {F : Nat} {l : List GEnrolment} {all : List GAttendance} {e : GRegisterEvent} (hs : SortA l) (hl : all.length = l.length) (hb : l.length < 1000000) (hFl : l.length < F) : attendance_step F l all e = some (stepA l all e) := by
  unfold attendance_step stepA
  show (if badK e = true then _ else _) = _
  cases hk : badK e with
  | true => simp
  | false =>
    simp only [Bool.false_eq_true, if_false]
    obtain ⟨k, h1, h2⟩ := bs_s (F := F) (c := e.Candidate) hs hb hFl
    rw [h1]
    simp only [Option.bind_some]
    cases hp : place l e.Candidate with
    | none => simp
    | some j =>
      have := h2 j hp
      subst this
      have hj : j < l.length := by
        unfold place at hp
        rw [List.findIdx?_eq_some_iff_getElem] at hp
        exact hp.1
      have e1 : l[j]? = some l[j] := List.getElem?_eq_getElem hj
      have e2 : all[j]? = some all[j] := List.getElem?_eq_getElem (by omega)
      have i1 : idx l (j : Int) = some l[j] := by rw [idx_nat]; exact e1
      have i2 : idx all (j : Int) = some (all[j]'(by omega)) := by rw [idx_nat]; exact e2
      simp only [Option.isSome_some, Bool.not_true, Bool.false_eq_true, if_false, e1, e2, i1, i2, Option.bind_some, hand_s e2 hk]
      by_cases h0 : e.Stamp.Source = 0
      · simp [h0]
      · by_cases hc : e.Stamp.Source = l[j].Entry.Centre
        · have : (e.Stamp.Source != 0) = true := by simp [h0]
          simp [this, h0, hc]
        · have : (e.Stamp.Source != 0) = true := by simp [h0]
          simp [this, h0, hc]
/- the reference's step -/
theorem rindex_loop (c : Int) : ∀ (s p : List GAttendance) (n : Nat), (p ++ s).length < 1000000 → s.length < n → ref16_Index_L1 (p ++ s) c n (p.length : Int) = some (match s.findIdx? (fun y => y.Candidate == c) with | some i => ((p.length + i : Nat) : Int) | .none => -1) := by
  intro s
  induction s with
  | nil => intro p n hb hn; cases n with
    | zero => omega
    | succ n => simp only [ref16_Index_L1, ref16_Index_L1_B, dge, Bool.false_eq_true, if_false, List.findIdx?_nil]
  | cons x s ih => intro p n hb hn; cases n with
    | zero => omega
    | succ n =>
      have hl : p.length < 1000000 := by simp at hb; omega
      have hrec := ih (p ++ [x]) n (by simpa using hb) (by simpa using hn)
      simp only [ref16_Index_L1, ref16_Index_L1_B, dlt, idx_at, if_true, Option.bind_some]
      rw [nxt p x (by omega)]
      have hrec' := hrec
      rw [← snoc] at hrec'
      rw [hrec', List.findIdx?_cons]
      cases (x.Candidate == c) with
      | true => simp
      | false =>
        simp only [Bool.false_eq_true, if_false]
        cases s.findIdx? (fun y => y.Candidate == c) with
        | none => simp
        | some i =>
          simp only [Option.map_some]
          congr 1
          simp only [List.length_append, List.length_singleton]
          show (((p.length + 1) + i : Nat) : Int) = ((p.length + (i + 1) : Nat) : Int)
          congr 1
          omega
theorem rindex_s {F : Nat} {all : List GAttendance} (c : Int) (hb : all.length < 1000000) (hFl : all.length < F) : ref16_Index F all c = some (match all.findIdx? (fun y => y.Candidate == c) with | some i => (i : Int) | .none => -1) := by
  have := rindex_loop c all [] F (by simpa using hb) hFl
  simpa [ref16_Index] using this
/-- candidates as enrolled -/
def Cands (l : List GEnrolment) (all : List GAttendance) : Prop := all.map (·.Candidate) = l.map (·.Entry.Candidate)
theorem Cands.len {l : List GEnrolment} {all : List GAttendance} (h : Cands l all) : all.length = l.length := by have := congrArg List.length h; simpa using this
theorem Cands.place {l : List GEnrolment} {all : List GAttendance} (h : Cands l all) (c : Int) : all.findIdx? (fun y => y.Candidate == c) = place l c := by
  have h1 : all.findIdx? (fun y => y.Candidate == c) = (all.map (·.Candidate)).findIdx? (· == c) := by rw [List.findIdx?_map]; rfl
  have h2 : Go.Sh.place l c = (l.map (·.Entry.Candidate)).findIdx? (· == c) := by rw [List.findIdx?_map]; rfl
  rw [h1, h2, h]
theorem handA_cand (x : GAttendance) (e : GRegisterEvent) : (handA x e).2.Candidate = x.Candidate := by
  unfold handA; repeat' split
  all_goals rfl
theorem stepA_cands {l : List GEnrolment} {all : List GAttendance} (h : Cands l all) (e : GRegisterEvent) : Cands l (stepA l all e).2 := by
  unfold stepA
  cases badK e with
  | true => exact h
  | false =>
    simp only [Bool.false_eq_true, if_false]
    cases place l e.Candidate with
    | none => exact h
    | some k =>
      cases hy : l[k]? with
      | none => simp only [hy]; exact h
      | some y =>
        cases hx : all[k]? with
        | none => simp only [hy, hx]; exact h
        | some x =>
          simp only [hy, hx]
          split
          · exact h
          · unfold Cands at h ⊢
            rw [List.map_set, handA_cand, ← h]
            have : (all.map (·.Candidate))[k]? = some x.Candidate := by simp [hx]
            obtain ⟨g1, g2⟩ := List.getElem?_eq_some_iff.1 this
            rw [← g2, List.set_getElem_self]
theorem refuses_s {F : Nat} {l : List GEnrolment} {all : List GAttendance} {e : GRegisterEvent} (h : Cands l all) (hb : l.length < 1000000) (hFl : l.length < F) : ref16_refuses F l all e = some (stepA l all e).1 := by
  have hlen := h.len
  unfold ref16_refuses stepA
  show (if badK e = true then _ else _) = _
  cases hk : badK e with
  | true => simp
  | false =>
    simp only [Bool.false_eq_true, if_false, rindex_s e.Candidate (show all.length < 1000000 by omega) (show all.length < F by omega), h.place, Option.bind_some]
    cases hp : place l e.Candidate with
    | none => simp
    | some j =>
      have hj : j < l.length := by
        unfold place at hp
        rw [List.findIdx?_eq_some_iff_getElem] at hp
        exact hp.1
      have e1 : l[j]? = some l[j] := List.getElem?_eq_getElem hj
      have e2 : all[j]? = some all[j] := List.getElem?_eq_getElem (by omega)
      have i1 : idx l (j : Int) = some l[j] := by rw [idx_nat]; exact e1
      have i2 : idx all (j : Int) = some (all[j]'(by omega)) := by rw [idx_nat]; exact e2
      have g0 : decide ((j : Int) < 0) = false := by simp
      simp only [g0, Bool.false_eq_true, if_false, e1, e2, i1, i2, Option.bind_some]
      have hw : (if (e.Stamp.Source != 0) = true then some (e.Stamp.Source != l[j].Entry.Centre) else some false) = some (decide (e.Stamp.Source ≠ 0 ∧ e.Stamp.Source ≠ l[j].Entry.Centre)) := by
        by_cases h0 : e.Stamp.Source = 0
        · simp [h0]
        · by_cases hc : e.Stamp.Source = l[j].Entry.Centre
          · have : (e.Stamp.Source != 0) = true := by simp [h0]
            simp [this, h0, hc]
          · have : (e.Stamp.Source != 0) = true := by simp [h0]
            simp [this, h0, hc]
      rw [hw]
      simp only [Option.bind_some, decide_eq_true_eq]
      by_cases hq : e.Stamp.Source ≠ 0 ∧ e.Stamp.Source ≠ l[j].Entry.Centre
      · rw [if_pos hq, if_pos hq]
      · rw [if_neg hq, if_neg hq]
        simp only
        unfold handA
        rcases (kinds hk).1 with h | h | h | h | h
        · simp [h]
        · simp [h]
        · simp [h]
        · by_cases hs : (all[j]'(by omega)).State = 1
          · simp [h, hs]
          · simp [h, hs]
        · by_cases hs : 8 ≤ (all[j]'(by omega)).Incidents.length
          · have : (8 : Int) ≤ ((all[j]'(by omega)).Incidents.length : Int) := by omega
            simp [h, hs, this]
          · have : ¬ (8 : Int) ≤ ((all[j]'(by omega)).Incidents.length : Int) := by omega
            simp [h, hs, this]
theorem after_s {x : GAttendance} {e : GRegisterEvent} (hk : badK e = false) (h0 : (handA x e).1 = 0) : ref16_after x e = some (handA x e).2 := by
  unfold ref16_after
  unfold handA at h0 ⊢
  rcases (kinds hk).1 with h | h | h | h | h
  · simp [h]
  · simp [h]
  · simp [h]
  · by_cases hs : x.State = 1
    · simp [h, hs]
    · simp [h, hs] at h0
  · by_cases hs : 8 ≤ x.Incidents.length
    · simp [h, hs] at h0
    · have ha : app [] x.Incidents = some x.Incidents := by rw [app_of (by simp; omega)]; simp
      have hb : app x.Incidents [e.Minutes] = some (x.Incidents ++ [e.Minutes]) := app_of (by simp; omega)
      simp [h, hs, ha, hb]
/-- what is behind a step that is not refused -/
theorem stepA_zero {l : List GEnrolment} {all : List GAttendance} {e : GRegisterEvent} (h : Cands l all) (h0 : (stepA l all e).1 = 0) :
    badK e = false ∧ ∃ (k : Nat) (y : GEnrolment) (x : GAttendance), place l e.Candidate = some k ∧ l[k]? = some y ∧ all[k]? = some x ∧ (e.Stamp.Source = 0 ∨ e.Stamp.Source = y.Entry.Centre) ∧ (handA x e).1 = 0 ∧ (stepA l all e).2 = all.set k (handA x e).2 := by
  unfold stepA at h0 ⊢
  cases hk : badK e with
  | true => simp [hk] at h0
  | false =>
    refine ⟨rfl, ?_⟩
    simp only [hk, Bool.false_eq_true, if_false] at h0 ⊢
    cases hp : place l e.Candidate with
    | none => simp [hp] at h0
    | some j =>
      have hj : j < l.length := by
        unfold place at hp
        rw [List.findIdx?_eq_some_iff_getElem] at hp
        exact hp.1
      have e1 : l[j]? = some l[j] := List.getElem?_eq_getElem hj
      have e2 : all[j]? = some (all[j]'(by rw [h.len]; exact hj)) := List.getElem?_eq_getElem (by rw [h.len]; exact hj)
      simp only [hp, e1, e2] at h0 ⊢
      by_cases hq : e.Stamp.Source ≠ 0 ∧ e.Stamp.Source ≠ l[j].Entry.Centre
      · rw [if_pos hq] at h0; simp at h0
      · rw [if_neg hq] at h0 ⊢
        refine ⟨j, l[j], _, rfl, e1, e2, ?_, h0, rfl⟩
        by_cases hz : e.Stamp.Source = 0
        · exact .inl hz
        · exact .inr (Classical.byContradiction fun hc => hq ⟨hz, hc⟩)
end Go.Sh
