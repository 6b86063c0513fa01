/- Plain laws of chapter 16, part 2: the fold and its reference; what a fold keeps. -/
import Derived.Test.YtapnjifcfljmmaaAa
set_option linter.unusedVariables false
set_option linter.unusedSimpArgs false
namespace Go.Sh
open Go.L

def init (x : GEnrolment) : GAttendance := ⟨x.Entry.Candidate, 0, -1, -1, []⟩
def foldA (l : List GEnrolment) (u : Int) : List GRegisterEvent → List GAttendance → List GRefusal → List GAttendance × List GRefusal × Int
  | [], all, r => (all, r, 0)
  | e :: s, all, r => if u < e.Stamp.Time then foldA l u s all r else
    foldA l u s (stepA l all e).2 (if (stepA l all e).1 ≠ 0 then r ++ [⟨⟨e.Stamp.Source, e.Stamp.Seq⟩, (stepA l all e).1⟩] else r)
def foldE (l : List GEnrolment) (ev : List GRegisterEvent) (u : Int) : List GAttendance × List GRefusal × Int :=
  if checkA l ≠ 0 then ([], [], checkA l) else if (canonEv (·.Stamp) ev).2 ≠ 0 then ([], [], (canonEv (·.Stamp) ev).2) else foldA l u (canonEv (·.Stamp) ev).1 (l.map init) []
theorem foldA_over {l : List GEnrolment} {u : Int} : ∀ {s : List GRegisterEvent} {all : List GAttendance} {r : List GRefusal}, (∀ e ∈ s, u < e.Stamp.Time) → foldA l u s all r = (all, r, 0)
  | [], _, _, _ => rfl
  | e :: s, all, r, h => by
    have := h e (by simp)
    simp only [foldA, this, if_true]
    exact foldA_over fun x hx => h x (by simp [hx])
theorem init_cands (l : List GEnrolment) : Cands l (l.map init) := by unfold Cands; simp [init, Function.comp_def]
theorem fold2_loop {F : Nat} (hF : 2000 ≤ F) {l : List GEnrolment} {u c : Int} {ev : List GRegisterEvent} (hs : SortA l) (hl : l.length ≤ 60) (hb : ev.length < 1000000) (ho : ev.Pairwise fun a b => cmpSt a.Stamp b.Stamp < 0) : ∀ (s p : List GRegisterEvent) (n : Nat) (all : List GAttendance) (r : List GRefusal), ev = p ++ s → s.length < n → Cands l all → r.length ≤ p.length →
    attendance_Fold_L2 F l u (ev, c) n (p.length : Int) all r = some (foldA l u s all r) := by
  intro s
  induction s with
  | nil => intro p n all r hp hn hV hr; cases n with
    | zero => omega
    | succ n =>
      have : ev = p := by simpa using hp
      subst this
      simp only [attendance_Fold_L2, attendance_Fold_L2_B, Int.lt_irrefl, decide_false, Bool.false_eq_true, if_false, foldA]
  | cons e s ih => intro p n all r hp hn hV hr; cases n with
    | zero => omega
    | succ n =>
      have hlen : p.length < 1000000 := by rw [hp] at hb; simp at hb; omega
      have d1 : decide ((p.length : Int) < (ev.length : Int)) = true := by rw [hp]; exact dlt p e s
      have i1 : idx ev (p.length : Int) = some e := by rw [hp]; exact idx_at p e s
      have hp' : ev = (p ++ [e]) ++ s := by rw [hp]; simp
      simp only [attendance_Fold_L2, attendance_Fold_L2_B, d1, if_true, i1, Option.bind_some, foldA, gt_iff_lt]
      by_cases hu : u < e.Stamp.Time
      · simp only [hu, decide_true, if_true]
        rw [foldA_over]
        intro x hx
        rw [hp, List.pairwise_append, List.pairwise_cons] at ho
        have := ho.2.1.1 x hx
        rw [cmpSt_lt] at this; omega
      · simp only [hu, decide_false, Bool.false_eq_true, if_false, step_s hs hV.len (show l.length < 1000000 by omega) (show l.length < F by omega), Option.bind_some, bne_iff_ne]
        rw [nxt p e (by omega)]
        have hc := stepA_cands hV e
        by_cases h0 : (stepA l all e).1 = 0
        · simp only [h0, ne_eq, not_true_eq_false, if_false]
          exact ih (p ++ [e]) n _ r hp' (by simpa using hn) hc (by simp; omega)
        · simp only [h0, ne_eq, not_false_eq_true, if_true]
          rw [app_of (by simp; omega)]
          simp only [Option.bind_some]
          exact ih (p ++ [e]) n _ _ hp' (by simpa using hn) hc (by simp; omega)
theorem fold1_loop {F : Nat} {l : List GEnrolment} {u : Int} {r3 : List GRegisterEvent × Int} (hb : l.length < 1000000) (z : GAttendance) : ∀ (s p : List GEnrolment) (n : Nat), l = p ++ s → s.length < n →
    attendance_Fold_L1 F l u r3 n (p.length : Int) (p.map init ++ List.replicate s.length z) = attendance_Fold_L2 F l u r3 F 0 (l.map init) [] := by
  intro s
  induction s with
  | nil => intro p n hp hn; cases n with
    | zero => omega
    | succ n =>
      have : l = p := by simpa using hp
      subst this
      simp only [attendance_Fold_L1, attendance_Fold_L1_B, Int.lt_irrefl, decide_false, Bool.false_eq_true, if_false, List.length_nil, List.replicate_zero, List.append_nil]
  | cons x s ih => intro p n hp hn; cases n with
    | zero => omega
    | succ n =>
      have hlen : p.length < 1000000 := by rw [hp] at hb; simp at hb; omega
      have d1 : decide ((p.length : Int) < (l.length : Int)) = true := by rw [hp]; exact dlt p x s
      have i1 : idx l (p.length : Int) = some x := by rw [hp]; exact idx_at p x s
      simp only [attendance_Fold_L1, attendance_Fold_L1_B, d1, if_true, i1, Option.bind_some, List.length_cons, List.replicate_succ]
      rw [idx_mid (by simp), set_mid (by simp)]
      simp only [Option.bind_some]
      rw [nxt p x (by omega)]
      have e1 : p.map init ++ (GAttendance.mk x.Entry.Candidate 0 (-1) (-1) []) :: List.replicate s.length z = (p ++ [x]).map init ++ List.replicate s.length z := by simp [init]
      rw [e1]
      exact ih (p ++ [x]) n (by rw [hp]; simp) (by simpa using hn)
theorem canonEv_sorted {E : Type} [DecidableEq E] (st : E → GStamp) (l : List E) : (canonEv st l).1.Pairwise fun a b => cmpSt (st a) (st b) < 0 := by
  unfold canonEv
  split
  · simp
  · exact (evL_is st l).sorted
theorem canonEv_le {E : Type} [DecidableEq E] (st : E → GStamp) (l : List E) : (canonEv st l).1.length ≤ l.length := by
  unfold canonEv
  split
  · simp
  · exact evL_le st l
theorem fold_s {F : Nat} (hF : 2000 ≤ F) {l : List GEnrolment} {ev : List GRegisterEvent} {u : Int} (hl : l.length ≤ 1000) (he : ev.length ≤ 1000) : attendance_Fold F l ev u = some (foldE l ev u) := by
  have hle := canonEv_le (·.Stamp) ev
  unfold attendance_Fold foldE
  simp only [check_s (show l.length < 1000000 by omega) (show l.length < F by omega), Option.bind_some, bne_iff_ne]
  by_cases hc : checkA l = 0
  · obtain ⟨hs, h60, _⟩ := check_sort hc
    simp only [hc, ne_eq, not_true_eq_false, if_false, canonicalP_s (show 10 ≤ F by omega) (show ev.length < 1000000 by omega) (show ev.length < F by omega), Option.bind_some]
    have hso := canonEv_sorted (fun x : GRegisterEvent => x.Stamp) ev
    revert hle hso
    generalize canonEv (fun x : GRegisterEvent => x.Stamp) ev = ce
    intro hle hso
    by_cases h0 : ce.2 = 0
    · simp only [h0, not_true_eq_false, if_false]
      rw [mkl_of (by omega)]
      simp only [Option.bind_some]
      have h1 := fold1_loop (F := F) (u := u) (r3 := ce) (show l.length < 1000000 by omega) (GAttendance.mk 0 0 0 0 []) l [] F rfl (by omega)
      simp only [List.length_nil, List.map_nil, List.nil_append] at h1
      refine Eq.trans h1 ?_
      exact fold2_loop hF (c := ce.2) hs h60 (show ce.1.length < 1000000 by omega) hso ce.1 [] F _ [] rfl (by omega) (init_cands l) (by simp)
    · simp only [h0, not_false_eq_true, if_true]
  · simp only [hc, ne_eq, not_false_eq_true, if_true]
theorem rfold2_loop {F : Nat} (hF : 2000 ≤ F) {l : List GEnrolment} {u c : Int} {ev : List GRegisterEvent} (hl : l.length ≤ 60) (hb : ev.length < 1000000) : ∀ (s p : List GRegisterEvent) (n : Nat) (all : List GAttendance) (r : List GRefusal), ev = p ++ s → s.length < n → Cands l all → r.length ≤ p.length →
    ref16_Fold_L2 F l u (ev, c) n (p.length : Int) all r = some (foldA l u s all r) := by
  intro s
  induction s with
  | nil => intro p n all r hp hn hV hr; cases n with
    | zero => omega
    | succ n =>
      have : ev = p := by simpa using hp
      subst this
      simp only [ref16_Fold_L2, ref16_Fold_L2_B, Int.lt_irrefl, decide_false, Bool.false_eq_true, if_false, foldA]
  | cons e s ih => intro p n all r hp hn hV hr; cases n with
    | zero => omega
    | succ n =>
      have hlen : p.length < 1000000 := by rw [hp] at hb; simp at hb; omega
      have hal := hV.len
      have d1 : decide ((p.length : Int) < (ev.length : Int)) = true := by rw [hp]; exact dlt p e s
      have i1 : idx ev (p.length : Int) = some e := by rw [hp]; exact idx_at p e s
      have hp' : ev = (p ++ [e]) ++ s := by rw [hp]; simp
      simp only [ref16_Fold_L2, ref16_Fold_L2_B, d1, if_true, i1, Option.bind_some, foldA, gt_iff_lt]
      rw [nxt p e (by omega)]
      by_cases hu : u < e.Stamp.Time
      · simp only [hu, decide_true, if_true]
        exact ih (p ++ [e]) n all r hp' (by simpa using hn) hV (by simp; omega)
      · simp only [hu, decide_false, Bool.false_eq_true, if_false, refuses_s hV (show l.length < 1000000 by omega) (show l.length < F by omega), Option.bind_some, bne_iff_ne]
        have hc := stepA_cands hV e
        by_cases h0 : (stepA l all e).1 = 0
        · obtain ⟨hk, k, y, x, g1, g2, g3, g4, g5, g6⟩ := stepA_zero hV h0
          have ix : idx all (k : Int) = some x := by rw [idx_nat]; exact g3
          simp only [h0, ne_eq, not_true_eq_false, if_false, rindex_s e.Candidate (show all.length < 1000000 by omega) (show all.length < F by omega), hV.place, g1, ix, after_s hk g5, Option.bind_some, Int.toNat_natCast]
          rw [← g6]
          exact ih (p ++ [e]) n _ r hp' (by simpa using hn) hc (by simp; omega)
        · have hsame : (stepA l all e).2 = all := by
            unfold stepA at h0 ⊢
            cases hk : badK e with
            | true => rfl
            | false =>
              simp only [hk, Bool.false_eq_true, if_false] at h0 ⊢
              cases hpl : place l e.Candidate with
              | none => rfl
              | some k =>
                simp only [hpl] at h0 ⊢
                cases hy : l[k]? with
                | none => simp [hy] at h0
                | some y =>
                  cases hx : all[k]? with
                  | none => simp [hy, hx] at h0
                  | some x =>
                    simp only [hy, hx] at h0 ⊢
                    split
                    · rfl
                    · rename_i hq
                      rw [if_neg hq] at h0
                      have hsx : (handA x e).2 = x := by
                        unfold handA at h0 ⊢
                        rcases (kinds hk).1 with h | h | h | h | h
                        · simp [h] at h0
                        · simp [h] at h0
                        · simp [h] at h0
                        · by_cases hst : x.State = 1
                          · simp [h, hst] at h0
                          · simp [h, hst]
                        · by_cases hst : 8 ≤ x.Incidents.length
                          · simp [h, hst]
                          · simp [h, hst] at h0
                      simp only
                      rw [hsx]
                      obtain ⟨q1, q2⟩ := List.getElem?_eq_some_iff.1 hx
                      rw [← q2, List.set_getElem_self]
          simp only [h0, ne_eq, not_false_eq_true, if_true]
          rw [app_of (by simp; omega), hsame]
          simp only [Option.bind_some]
          exact ih (p ++ [e]) n _ _ hp' (by simpa using hn) hV (by simp; omega)
theorem rfold1_loop {F : Nat} {l : List GEnrolment} {u : Int} {r3 : List GRegisterEvent × Int} (hb : l.length < 1000000) : ∀ (s p : List GEnrolment) (n : Nat), l = p ++ s → s.length < n →
    ref16_Fold_L1 F l u r3 n (p.length : Int) (p.map init) = ref16_Fold_L2 F l u r3 F 0 (l.map init) [] := by
  intro s
  induction s with
  | nil => intro p n hp hn; cases n with
    | zero => omega
    | succ n =>
      have : l = p := by simpa using hp
      subst this
      simp only [ref16_Fold_L1, ref16_Fold_L1_B, Int.lt_irrefl, decide_false, Bool.false_eq_true, if_false]
  | cons x s ih => intro p n hp hn; cases n with
    | zero => omega
    | succ n =>
      have hlen : p.length < 1000000 := by rw [hp] at hb; simp at hb; omega
      have d1 : decide ((p.length : Int) < (l.length : Int)) = true := by rw [hp]; exact dlt p x s
      have i1 : idx l (p.length : Int) = some x := by rw [hp]; exact idx_at p x s
      simp only [ref16_Fold_L1, ref16_Fold_L1_B, d1, if_true, i1, Option.bind_some]
      rw [app_of (by simp; omega)]
      simp only [Option.bind_some]
      rw [nxt p x (by omega)]
      have e1 : p.map init ++ [GAttendance.mk x.Entry.Candidate 0 (-1) (-1) []] = (p ++ [x]).map init := by simp [init]
      rw [e1]
      exact ih (p ++ [x]) n (by rw [hp]; simp) (by simpa using hn)
theorem rfold_s {F : Nat} (hF : 2000 ≤ F) {l : List GEnrolment} {ev : List GRegisterEvent} {u : Int} (hl : l.length ≤ 1000) (he : ev.length ≤ 1000) : ref16_Fold F l ev u = some (foldE l ev u) := by
  have hle := canonEv_le (·.Stamp) ev
  unfold ref16_Fold foldE
  rw [rcheck_eq]
  simp only [check_s (show l.length < 1000000 by omega) (show l.length < F by omega), Option.bind_some, bne_iff_ne]
  by_cases hc : checkA l = 0
  · obtain ⟨hs, h60, _⟩ := check_sort hc
    simp only [hc, ne_eq, not_true_eq_false, if_false, canonicalR_s (show ev.length < 1000000 by omega) (show ev.length < F by omega), Option.bind_some]
    revert hle
    generalize canonEv (fun x : GRegisterEvent => x.Stamp) ev = ce
    intro hle
    by_cases h0 : ce.2 = 0
    · simp only [h0, not_true_eq_false, if_false]
      have h1 := rfold1_loop (F := F) (u := u) (r3 := ce) (show l.length < 1000000 by omega) l [] F rfl (by omega)
      simp only [List.length_nil, List.map_nil] at h1
      rw [show (0 : Int) = ((0 : Nat) : Int) from rfl, h1]
      exact rfold2_loop hF (c := ce.2) h60 (show ce.1.length < 1000000 by omega) ce.1 [] F _ [] rfl (by omega) (init_cands l) (by simp)
    · simp only [h0, not_false_eq_true, if_true]
  · simp only [hc, ne_eq, not_false_eq_true, if_true]
/- what a fold keeps -/
theorem foldA_inv {l : List GEnrolment} {u : Int} {I : List GAttendance → Prop} : ∀ {s : List GRegisterEvent} {all : List GAttendance} {r : List GRefusal}, I all → (∀ e ∈ s, e.Stamp.Time ≤ u → ∀ all, I all → I (stepA l all e).2) → I (foldA l u s all r).1
  | [], _, _, h, _ => h
  | e :: s, all, r, h, hs => by
    simp only [foldA]
    split
    · exact foldA_inv h fun x hx => hs x (by simp [hx])
    · rename_i hu
      exact foldA_inv (hs e (by simp) (by omega) all h) fun x hx => hs x (by simp [hx])
theorem foldA_code {l : List GEnrolment} {u : Int} : ∀ {s : List GRegisterEvent} {all : List GAttendance} {r : List GRefusal}, (foldA l u s all r).2.2 = 0
  | [], _, _ => rfl
  | e :: s, all, r => by
    simp only [foldA]
    split <;> exact foldA_code
theorem foldA_refs {l : List GEnrolment} {u : Int} : ∀ {s : List GRegisterEvent} {all : List GAttendance} {r : List GRefusal}, (foldA l u s all r).2.1.length ≤ r.length + s.length
  | [], _, _ => by simp [foldA]
  | e :: s, all, r => by
    simp only [foldA]
    split
    · have := foldA_refs (l := l) (u := u) (s := s) (all := all) (r := r); simp; omega
    · refine Nat.le_trans foldA_refs ?_
      split <;> simp <;> omega
theorem handA_inc {x : GAttendance} {e : GRegisterEvent} (h : x.Incidents.length ≤ 8) : (handA x e).2.Incidents.length ≤ 8 := by
  unfold handA
  repeat' split
  all_goals first | exact h | (simp; omega)
theorem stepA_mem {l : List GEnrolment} {all : List GAttendance} {e : GRegisterEvent} {z : GAttendance} (hz : z ∈ (stepA l all e).2) : z ∈ all ∨ ∃ x ∈ all, z = (handA x e).2 := by
  unfold stepA at hz
  cases hk : badK e with
  | true => rw [hk, if_pos rfl] at hz; exact .inl hz
  | false =>
    simp only [hk, Bool.false_eq_true, if_false] at hz
    cases hpl : place l e.Candidate with
    | none => rw [hpl] at hz; exact .inl hz
    | some k =>
      simp only [hpl] at hz
      cases hy : l[k]? with
      | none => simp only [hy] at hz; exact .inl hz
      | some y =>
        cases hx : all[k]? with
        | none => simp only [hy, hx] at hz; exact .inl hz
        | some x =>
          simp only [hy, hx] at hz
          split at hz
          · exact .inl hz
          · rcases List.mem_or_eq_of_mem_set hz with h | h
            · exact .inl h
            · exact .inr ⟨x, List.mem_of_getElem? hx, h⟩
theorem foldE_inc {l : List GEnrolment} {ev : List GRegisterEvent} {u : Int} : ∀ z ∈ (foldE l ev u).1, z.Incidents.length ≤ 8 := by
  unfold foldE
  split
  · simp
  · split
    · simp
    · refine foldA_inv (I := fun all => ∀ z ∈ all, z.Incidents.length ≤ 8) (by simp [init]) fun e _ _ all h z hz => ?_
      rcases stepA_mem hz with h1 | ⟨x, h1, rfl⟩
      · exact h z h1
      · exact handA_inc (h x h1)
theorem foldE_len {l : List GEnrolment} {ev : List GRegisterEvent} {u : Int} : (foldE l ev u).1.length ≤ l.length ∧ (foldE l ev u).2.1.length ≤ ev.length := by
  unfold foldE
  split
  · simp
  · split
    · simp
    · have h1 := foldA_inv (u := u) (I := Cands l) (s := (canonEv (·.Stamp) ev).1) (r := []) (init_cands l) fun e _ _ all h => stepA_cands h e
      have h2 := foldA_refs (l := l) (u := u) (s := (canonEv (·.Stamp) ev).1) (all := l.map init) (r := [])
      have h3 := canonEv_le (·.Stamp) ev
      rw [h1.len]
      simp at h2
      exact ⟨Nat.le_refl _, by omega⟩
theorem foldE_small {l : List GEnrolment} {ev : List GRegisterEvent} {u : Int} (hl : ev.length ≤ 300) (hc : checkA l = 0) : foldE l ev u = foldA l u (evL (·.Stamp) ev) (l.map init) [] := by
  unfold foldE
  rw [canonEv_small hl]; simp [hc]
/- same, refusals, awake -/
theorem ints_loop (a : List Int) (hb : a.length < 1000000) : ∀ (s p : List Int) (n : Nat), a = p ++ s → s.length < n → ref06_Ints_L1 a a n (p.length : Int) = some true := by
  intro s
  induction s with
  | nil => intro p n hp hn; cases n with
    | zero => omega
    | succ n =>
      have : a = p := by simpa using hp
      subst this
      simp only [ref06_Ints_L1, ref06_Ints_L1_B, Int.lt_irrefl, decide_false, Bool.false_eq_true, if_false]
  | cons e s ih => intro p n hp hn; cases n with
    | zero => omega
    | succ n =>
      have hlen : p.length < 1000000 := by rw [hp] at hb; simp at hb; omega
      have d1 : decide ((p.length : Int) < (a.length : Int)) = true := by rw [hp]; exact dlt p e s
      have i1 : idx a (p.length : Int) = some e := by rw [hp]; exact idx_at p e s
      simp only [ref06_Ints_L1, ref06_Ints_L1_B, d1, if_true, i1, Option.bind_some, bne_self_eq_false, Bool.false_eq_true, if_false]
      rw [nxt p e (by omega)]
      exact ih (p ++ [e]) n (by rw [hp]; simp) (by simpa using hn)
theorem ints_s {F : Nat} {a : List Int} (hb : a.length < 1000000) (hF : a.length < F) : ref06_Ints F a a = some true := by
  unfold ref06_Ints
  simp only [bne_self_eq_false, Bool.false_eq_true, if_false]
  exact ints_loop a hb a [] F rfl hF
theorem sameA_s {F : Nat} {x : GAttendance} (hb : x.Incidents.length < 1000000) (hF : x.Incidents.length < F) : ref16_Same F x x = some true := by
  unfold ref16_Same
  simp [ints_s hb hF]
theorem same_loop {F : Nat} (hF : 10 ≤ F) (a : List GAttendance) (hb : a.length < 1000000) (hi : ∀ z ∈ a, z.Incidents.length ≤ 8) : ∀ (s p : List GAttendance) (n : Nat), a = p ++ s → s.length < n → law16_same_L1 F a a n (p.length : Int) = some true := by
  intro s
  induction s with
  | nil => intro p n hp hn; cases n with
    | zero => omega
    | succ n =>
      have : a = p := by simpa using hp
      subst this
      simp only [law16_same_L1, law16_same_L1_B, Int.lt_irrefl, decide_false, Bool.false_eq_true, if_false]
  | cons e s ih => intro p n hp hn; cases n with
    | zero => omega
    | succ n =>
      have hlen : p.length < 1000000 := by rw [hp] at hb; simp at hb; omega
      have he := hi e (by rw [hp]; simp)
      have d1 : decide ((p.length : Int) < (a.length : Int)) = true := by rw [hp]; exact dlt p e s
      have i1 : idx a (p.length : Int) = some e := by rw [hp]; exact idx_at p e s
      simp only [law16_same_L1, law16_same_L1_B, d1, if_true, i1, Option.bind_some, sameA_s (F := F) (show e.Incidents.length < 1000000 by omega) (by omega), Bool.not_true, Bool.false_eq_true, if_false]
      rw [nxt p e (by omega)]
      exact ih (p ++ [e]) n (by rw [hp]; simp) (by simpa using hn)
theorem same_s {F : Nat} {a : List GAttendance} (h10 : 10 ≤ F) (hb : a.length < 1000000) (hF : a.length < F) (hi : ∀ z ∈ a, z.Incidents.length ≤ 8) : law16_same F a a = some true := by
  unfold law16_same
  simp only [bne_self_eq_false, Bool.false_eq_true, if_false]
  exact same_loop h10 a hb hi a [] F rfl hF
theorem refs_loop (a : List GRefusal) (hb : a.length < 1000000) : ∀ (s p : List GRefusal) (n : Nat), a = p ++ s → s.length < n → law16_refusals_L1 a a n (p.length : Int) = some true := by
  intro s
  induction s with
  | nil => intro p n hp hn; cases n with
    | zero => omega
    | succ n =>
      have : a = p := by simpa using hp
      subst this
      simp only [law16_refusals_L1, law16_refusals_L1_B, Int.lt_irrefl, decide_false, Bool.false_eq_true, if_false]
  | cons e s ih => intro p n hp hn; cases n with
    | zero => omega
    | succ n =>
      have hlen : p.length < 1000000 := by rw [hp] at hb; simp at hb; omega
      have d1 : decide ((p.length : Int) < (a.length : Int)) = true := by rw [hp]; exact dlt p e s
      have i1 : idx a (p.length : Int) = some e := by rw [hp]; exact idx_at p e s
      simp only [law16_refusals_L1, law16_refusals_L1_B, d1, if_true, i1, Option.bind_some, decide_true, Bool.not_true, Bool.false_eq_true, if_false]
      rw [nxt p e (by omega)]
      exact ih (p ++ [e]) n (by rw [hp]; simp) (by simpa using hn)
theorem refs_s {F : Nat} {a : List GRefusal} (hb : a.length < 1000000) (hF : a.length < F) : law16_refusals F a a = some true := by
  unfold law16_refusals
  simp only [bne_self_eq_false, Bool.false_eq_true, if_false]
  exact refs_loop a hb a [] F rfl hF
theorem awake_s {F : Nat} (hF : 2000 ≤ F) : law16_awake F = some true := by
  unfold law16_awake
  rw [fold_s hF (by simp) (by simp)]
  have : foldE [(GEnrolment.mk (GEntry.mk 5 7 0) false)] [(GRegisterEvent.mk (GStamp.mk 2 7 1) 3 5 12), (GRegisterEvent.mk (GStamp.mk 1 7 0) 2 5 0), (GRegisterEvent.mk (GStamp.mk 3 7 2) 4 5 60), (GRegisterEvent.mk (GStamp.mk 4 8 0) 2 5 0)] 9 = ([GAttendance.mk 5 1 12 60 []], [GRefusal.mk (GIdentity.mk 8 0) 28], 0) := by decide
  rw [this]
  simp only [Option.bind_some]
  have h : ref16_Same F (GAttendance.mk 5 1 12 60 []) (GAttendance.mk 5 1 12 60 []) = some true := sameA_s (by simp) (by simp; omega)
  simp [idx, h]
end Go.Sh
