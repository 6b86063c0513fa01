/- Plain laws of chapter 16, apart: the law Compares (a claim of its own, so that it stays small). -/
import Derived.Test.YtapnjifcfljmmaaAb
set_option linter.unusedVariables false
set_option linter.unusedSimpArgs false
namespace Go.Sh
open Go.L
section
variable {R : Type} {rec1 : Int → List Int → Int → List GRegisterEvent → Option (List GRegisterEvent × GTape)} {n2 : Int} {l5 : List GRegisterEvent} {Post : List GRegisterEvent × GTape → Prop}
theorem evJ2 (hl : l5.length ≤ 1000) (h : ∀ v t', Tp t' → v.length ≤ l5.length + 2 → ∃ r, rec1 (i64 (n2 - 1)) t'.L t'.At v = some r ∧ Post r) {a b c d e f : Int} {L : List Int} {A : Int} (ht : Tp (GTape.mk L A)) :
    ∃ r, GTape_RegisterEvents_J2 rec1 n2 l5 a b c d e f L A = some r ∧ Post r := by
  unfold GTape_RegisterEvents_J2
  rw [app_of (by simp; omega)]
  simp only [Option.bind_some]
  obtain ⟨x, t1, h1, h2⟩ := one_s ht 8 (by omega)
  simp only [h1, Option.bind_some]
  cases x with
  | false => exact h _ t1 h2 (by simp)
  | true =>
    simp only [if_true]
    obtain ⟨y, t2, h3, h4, h5, h6, _⟩ := next_s h2 ((l5 ++ [GRegisterEvent.mk (GStamp.mk a b c) d e f]).length : Int) (by simp; omega)
    have hy := h6 (by simp; omega)
    rw [h3]
    simp only [Option.bind_some]
    have hix : idx (l5 ++ [GRegisterEvent.mk (GStamp.mk a b c) d e f]) y = some (l5 ++ [GRegisterEvent.mk (GStamp.mk a b c) d e f])[y.toNat] := by
      rw [idx_some]; exact ⟨h5, by simp⟩
    rw [hix]
    simp only [Option.bind_some]
    rw [app_of (by simp; omega)]
    simp only [Option.bind_some]
    exact h _ t2 h4 (by simp)
end
theorem regEvents_s {F : Nat} {t : GTape} (h : Tp t) (most : Nat) (p : Int) (hp : p ≤ 1000000) (hm : most ≤ 100) (hF : most < F) : ∃ l t', GTape_RegisterEvents F t most p = some (l, t') ∧ Tp t' ∧ l.length ≤ 2 * most := by
  have key : ∀ n (k : Int) (L : List Int) (A : Int) (l : List GRegisterEvent), (0 ≤ k ∧ (l.length : Int) + 2 * k ≤ 2 * most ∧ Tp (GTape.mk L A)) → k.toNat < n → ∃ r, GTape_RegisterEvents_L1 p n k L A l = some r ∧ (Tp r.2 ∧ r.1.length ≤ 2 * most) := by
    refine loop4 (L := GTape_RegisterEvents_L1 p) (B := GTape_RegisterEvents_L1_B p) (fun _ => rfl) _ (fun (k : Int) (_ : List Int) (_ : Int) (_ : List GRegisterEvent) => k.toNat) _ ?_
    rintro rec k L A l ⟨hk, hl, ht⟩ hrec
    unfold GTape_RegisterEvents_L1_B
    by_cases hk0 : k > 0
    · obtain ⟨a, t1, a1, a2, _⟩ := range_s ht 0 24 (by omega) (by omega) (by omega)
      obtain ⟨b, t2, b1, b2, _⟩ := pick_s a2 [0, 0, 1, 2, 3] (by simp) (by simp)
      obtain ⟨c, t3, c1, c2, _⟩ := range_s b2 1 5 (by omega) (by omega) (by omega)
      obtain ⟨d, t4, d1, d2, _⟩ := next_s c2 5 (by omega)
      obtain ⟨e, t5, e1, e2, _⟩ := next_s d2 60 (by omega)
      simp only [hk0, decide_true, if_true, a1, b1, c1, d1, e1, Option.bind_some]
      have hgo : ∀ v t', Tp t' → v.length ≤ l.length + 2 → ∃ r, rec (i64 (k - 1)) t'.L t'.At v = some r ∧ (Tp r.2 ∧ r.1.length ≤ 2 * most) := fun v t' h1 h2 => by
        rw [i64_of (by omega) (by omega)]
        exact hrec _ _ _ _ ⟨by omega, by omega, h1⟩ (by omega)
      have key : ∃ (b : Bool) (L' : List Int) (A' : Int), (if (decide (p > 0)) = true then (GTape_One t5 p).bind fun r31 => some (r31.1, r31.2.L, r31.2.At) else some (false, t5.L, t5.At)) = some (b, L', A') ∧ Tp (GTape.mk L' A') := by
        by_cases hp0 : p > 0
        · obtain ⟨x, t1, h1, h2⟩ := one_s e2 p (by omega)
          exact ⟨x, t1.L, t1.At, by simp only [hp0, decide_true, if_true, h1, Option.bind_some], h2⟩
        · exact ⟨false, t5.L, t5.At, by simp [hp0], e2⟩
      obtain ⟨b, L', A', h1, h2⟩ := key
      rw [h1]
      simp only [Option.bind_some]
      cases b with
      | false => exact evJ2 (by omega) hgo h2
      | true =>
        simp only [if_true]
        obtain ⟨y, t6, h3, h4, _⟩ := next_s h2 4 (by omega)
        simp only [h3, Option.bind_some]
        by_cases y0 : y = 0
        · obtain ⟨z, t7, h5, h6, _⟩ := range_s h4 (-1) 7 (by omega) (by omega) (by omega)
          simp only [y0, beq_self_eq_true, if_true, h5, Option.bind_some]
          exact evJ2 (by omega) hgo (tp_mk h6)
        · by_cases y1 : y = 1
          · obtain ⟨z, t7, h5, h6⟩ := wild_s h4
            simp only [y1, show ((1 : Int) == 0) = false from rfl, Bool.false_eq_true, if_false, beq_self_eq_true, if_true, h5, Option.bind_some]
            exact evJ2 (by omega) hgo (tp_mk h6)
          · by_cases y2 : y = 2
            · obtain ⟨z, t7, h5, h6, _⟩ := pick_s h4 [-1, 600, 601] (by simp) (by simp)
              simp only [y2, show ((2 : Int) == 0) = false from rfl, show ((2 : Int) == 1) = false from rfl, Bool.false_eq_true, if_false, beq_self_eq_true, if_true, h5, Option.bind_some]
              exact evJ2 (by omega) hgo (tp_mk h6)
            · obtain ⟨z, t7, h5, h6⟩ := tstamp_s h4 4 (by omega)
              have b0 : (y == 0) = false := by simp [y0]
              have b1 : (y == 1) = false := by simp [y1]
              have b2 : (y == 2) = false := by simp [y2]
              simp only [b0, b1, b2, Bool.false_eq_true, if_false, h5, Option.bind_some]
              exact evJ2 (by omega) hgo (tp_mk h6)
    · simp only [hk0, decide_false, Bool.false_eq_true, if_false]
      exact ⟨_, rfl, ht, by simp only; omega⟩
  obtain ⟨a, t1, a1, a2, a3, a4⟩ := range_s h 0 most (by omega) (by omega) (by omega)
  obtain ⟨⟨l, t'⟩, h1, h2, h3⟩ := key F a t1.L t1.At [] ⟨a3, by simp; omega, a2⟩ (by omega)
  exact ⟨l, t', by simp only [GTape_RegisterEvents, a1, Option.bind_some]; exact h1, h2, h3⟩
theorem adj_of : ∀ {s : List GEnrolment} {y : GEnrolment}, SortA (y :: s) → chkAdj y s = 0
  | [], _, _ => rfl
  | z :: s, y, h => by
    have h' := List.pairwise_cons.1 h
    have := h'.1 z (by simp)
    simp only [chkAdj]
    rw [if_neg (by omega)]
    exact adj_of h'.2
theorem checkA_of {l : List GEnrolment} (hs : SortA l) (hl : l.length ≤ 60) (hb : ∀ x ∈ l, badE x = false) : checkA l = 0 := by
  unfold checkA
  rw [if_neg (by omega), if_neg]
  · cases l with
    | nil => rfl
    | cons x s => exact adj_of hs
  · intro h
    obtain ⟨x, hx, hb'⟩ := List.any_eq_true.1 h
    rw [hb x hx] at hb'; cases hb'
theorem enrolled_s {F : Nat} {t : GTape} (h : Tp t) (p : Int) (hp : p ≤ 1000000) (hF : 10 ≤ F) : ∃ l t', GTape_Enrolled F t p = some (l, t') ∧ Tp t' ∧ l.length ≤ 6 ∧ (p = 0 → checkA l = 0) := by
  have key : ∀ n (k : Int) (L : List Int) (A : Int) (l : List GEnrolment), (0 ≤ k ∧ k ≤ 5 ∧ (l.length : Int) ≤ k ∧ Tp (GTape.mk L A) ∧ SortA l ∧ ∀ x ∈ l, x.Entry.Candidate < k ∧ badE x = false) → (5 - k).toNat < n → ∃ r, GTape_Enrolled_L1 p n k L A l = some r ∧ (Tp r.2 ∧ r.1.length ≤ 6 ∧ (p = 0 → checkA r.1 = 0)) := by
    refine loop4 (L := GTape_Enrolled_L1 p) (B := GTape_Enrolled_L1_B p) (fun _ => rfl) _ (fun (k : Int) (_ : List Int) (_ : Int) (_ : List GEnrolment) => (5 - k).toNat) _ ?_
    rintro rec k L A l ⟨hk, hk5, hl, ht, hs, hx⟩ hrec
    unfold GTape_Enrolled_L1_B
    by_cases hk0 : k < 5
    · obtain ⟨a, t1, a1, a2, _⟩ := next_s ht 4 (by omega)
      have hki : i64 (k + 1) = k + 1 := i64_of (by omega) (by omega)
      simp only [hk0, decide_true, if_true, a1, Option.bind_some, hki]
      by_cases ha : a > 0
      · obtain ⟨b, t2, b1, b2, b3, b4⟩ := range_s a2 1 3 (by omega) (by omega) (by omega)
        simp only [ha, decide_true, if_true, b1, Option.bind_some]
        rw [app_of (by simp; omega)]
        simp only [Option.bind_some]
        refine hrec _ _ _ _ ⟨by omega, by omega, by simp; omega, b2, ?_, ?_⟩ (by omega)
        · unfold SortA at hs ⊢
          rw [List.pairwise_append]
          refine ⟨hs, by simp, fun x hx' y hy => ?_⟩
          have := (hx x hx').1
          simp at hy; subst hy; exact this
        · intro x hx'
          rcases List.mem_append.1 hx' with hx' | hx'
          · have := hx x hx'; exact ⟨by omega, this.2⟩
          · simp at hx'; subst hx'
            refine ⟨by simp only; omega, ?_⟩
            unfold badE; simp only [Bool.or_eq_false_iff, decide_eq_false_iff_not]; omega
      · simp only [ha, decide_false, Bool.false_eq_true, if_false]
        exact hrec _ _ _ _ ⟨by omega, by omega, by omega, a2, hs, fun x hx' => ⟨by have := (hx x hx').1; omega, (hx x hx').2⟩⟩ (by omega)
    · simp only [hk0, decide_false, Bool.false_eq_true, if_false]
      have hk2 : k = 5 := by omega
      have hcheck : checkA l = 0 := checkA_of hs (by omega) fun x hx' => (hx x hx').2
      by_cases hp0 : p > 0
      · obtain ⟨x, t1, h1, h2⟩ := one_s ht p (by omega)
        simp only [hp0, decide_true, if_true, h1, Option.bind_some]
        cases x with
        | false => exact ⟨_, rfl, h2, by simp only; omega, fun hz => by omega⟩
        | true =>
          simp only [if_true]
          obtain ⟨y, t2, h3, h4, _⟩ := pick_s (tp_mk h2) [0, 5, 9999, 10000, (-1)] (by simp) (by simp)
          obtain ⟨z, t3, h5, h6, _⟩ := pick_s h4 [0, 1, 99, 100] (by simp) (by simp)
          simp only [h3, h5, Option.bind_some]
          rw [app_of (by simp; omega)]
          simp only [Option.bind_some]
          exact ⟨_, rfl, h6, by simp; omega, fun hz => by omega⟩
      · simp only [hp0, decide_false, Bool.false_eq_true, if_false, Option.bind_some]
        exact ⟨_, rfl, ht, by simp only; omega, fun _ => hcheck⟩
  obtain ⟨⟨l, t'⟩, h1, h2, h3, h4⟩ := key F 0 t.L t.At [] ⟨by omega, by omega, by simp, tp_mk h, by simp [SortA], by simp⟩ (by omega)
  exact ⟨l, t', by simp only [GTape_Enrolled]; exact h1, h2, h3, h4⟩
/- Compares -/
def cmpA (p1 : List Int) (l : List GAttendance) : List Int × List Int :=
  ((l.filter fun x => (x.State == 1) && !p1.contains x.Candidate).map (·.Candidate), (l.filter fun x => !(x.State == 1) && p1.contains x.Candidate).map (·.Candidate))
theorem cmpA_cons (p1 : List Int) (x : GAttendance) (l : List GAttendance) : cmpA p1 (x :: l) = if ((x.State == 1) && !p1.contains x.Candidate) = true then (x.Candidate :: (cmpA p1 l).1, (cmpA p1 l).2) else if (!(x.State == 1) && p1.contains x.Candidate) = true then ((cmpA p1 l).1, x.Candidate :: (cmpA p1 l).2) else cmpA p1 l := by
  simp only [cmpA, List.filter_cons]
  cases hs : (x.State == 1) <;> cases hc : p1.contains x.Candidate <;> simp
theorem comp2_loop {p0 : List GAttendance} {p1 : List Int} {m : List (Int × Bool)} (hm : ∀ c, (mget m c).getD false = p1.contains c) (hb : p0.length < 1000000) : ∀ (s p : List GAttendance) (n : Nat) (a b : List Int), p0 = p ++ s → s.length < n → a.length ≤ p.length → b.length ≤ p.length →
    attendance_Compare_L2 p0 m n (p.length : Int) a b = some (a ++ (cmpA p1 s).1, b ++ (cmpA p1 s).2) := by
  intro s
  induction s with
  | nil => intro p n a b hp hn ha hb'; cases n with
    | zero => omega
    | succ n =>
      have : p0 = p := by simpa using hp
      subst this
      simp only [attendance_Compare_L2, attendance_Compare_L2_B, Int.lt_irrefl, decide_false, Bool.false_eq_true, if_false, cmpA]
      simp
  | cons x s ih => intro p n a b hp hn ha hb'; cases n with
    | zero => omega
    | succ n =>
      have hlen : p.length < 1000000 := by have := congrArg List.length hp; simp at this; omega
      have d1 : decide ((p.length : Int) < (p0.length : Int)) = true := by rw [hp]; exact dlt p x s
      have i1 : idx p0 (p.length : Int) = some x := by rw [hp]; exact idx_at p x s
      have hp' : p0 = (p ++ [x]) ++ s := by rw [hp]; simp
      simp only [attendance_Compare_L2, attendance_Compare_L2_B, d1, if_true, i1, Option.bind_some, hm]
      rw [nxt p x (by omega), cmpA_cons]
      split
      · rw [app_of (by simp; omega)]
        simp only [Option.bind_some]
        rw [ih (p ++ [x]) n _ b hp' (by simpa using hn) (by simp; omega) (by simp; omega)]
        simp
      · split
        · rw [app_of (by simp; omega)]
          simp only [Option.bind_some]
          rw [ih (p ++ [x]) n a _ hp' (by simpa using hn) (by simp; omega) (by simp; omega)]
          simp
        · exact ih (p ++ [x]) n a b hp' (by simpa using hn) (by simp; omega) (by simp; omega)
theorem comp1_loop {F : Nat} {p0 : List GAttendance} {p1 : List Int} (hb0 : p0.length < 1000000) (hF : p0.length < F) (hb : p1.length < 1000000) : ∀ (s p : List Int) (n : Nat) (m : List (Int × Bool)), p1 = p ++ s → s.length < n → (∀ c, (mget m c).getD false = p.contains c) →
    attendance_Compare_L1 F p0 p1 n (p.length : Int) m = some (cmpA p1 p0) := by
  intro s
  induction s with
  | nil => intro p n m hp hn hm; cases n with
    | zero => omega
    | succ n =>
      have : p1 = p := by simpa using hp
      subst this
      simp only [attendance_Compare_L1, attendance_Compare_L1_B, Int.lt_irrefl, decide_false, Bool.false_eq_true, if_false]
      have := comp2_loop hm hb0 p0 [] F [] [] rfl hF (by simp) (by simp)
      simpa using this
  | cons x s ih => intro p n m hp hn hm; cases n with
    | zero => omega
    | succ n =>
      have hlen : p.length < 1000000 := by have := congrArg List.length hp; simp at this; omega
      have d1 : decide ((p.length : Int) < (p1.length : Int)) = true := by rw [hp]; exact dlt p x s
      have i1 : idx p1 (p.length : Int) = some x := by rw [hp]; exact idx_at p x s
      simp only [attendance_Compare_L1, attendance_Compare_L1_B, d1, if_true, i1, Option.bind_some]
      rw [nxt p x (by omega)]
      refine ih (p ++ [x]) n _ (by rw [hp]; simp) (by simpa using hn) fun c => ?_
      rw [mget_mput]
      by_cases h : c = x
      · subst h; simp
      · rw [if_neg h, hm]
        simp [h]
theorem comp_s {F : Nat} {p0 : List GAttendance} {p1 : List Int} (hb0 : p0.length < 1000000) (hF0 : p0.length < F) (hb : p1.length < 1000000) (hF : p1.length < F) : attendance_Compare F p0 p1 = some (cmpA p1 p0) :=
  comp1_loop hb0 hF0 hb p1 [] F [] rfl hF (by simp [mget])
theorem has_loop (c : Int) : ∀ (s p : List Int) (n : Nat), (p ++ s).length < 1000000 → s.length < n → ref06_Has_L1 (p ++ s) c n (p.length : Int) = some (s.contains c) := by
  intro s
  induction s with
  | nil => intro p n hb hn; cases n with
    | zero => omega
    | succ n => simp only [ref06_Has_L1, ref06_Has_L1_B, dge, Bool.false_eq_true, if_false]; rfl
  | cons x s ih => intro p n hb hn; cases n with
    | zero => omega
    | succ n =>
      have hl : p.length < 1000000 := by simp at hb; omega
      have hrec := ih (p ++ [x]) n (by simpa using hb) (by simpa using hn)
      simp only [ref06_Has_L1, ref06_Has_L1_B, dlt, idx_at, if_true, Option.bind_some]
      rw [nxt p x (by omega)]
      rw [← snoc] at hrec
      rw [hrec]
      by_cases h : x = c
      · simp [h]
      · have h' : (x == c) = false := by simp [h]
        simp [h', h, Ne.symm h]
theorem has_s {F : Nat} {l : List Int} (c : Int) (hb : l.length < 1000000) (hF : l.length < F) : ref06_Has F l c = some (l.contains c) := by
  have := has_loop c l [] F (by simpa using hb) hF
  simpa [ref06_Has] using this
theorem rcomp_loop {F : Nat} {p0 : List GAttendance} {p1 : List Int} (hb : p0.length < 1000000) (hb1 : p1.length < 1000000) (hF1 : p1.length < F) : ∀ (s p : List GAttendance) (n : Nat) (a b : List Int), p0 = p ++ s → s.length < n → a.length ≤ p.length → b.length ≤ p.length →
    ref16_Compare_L1 F p0 p1 n (p.length : Int) a b = some (a ++ (cmpA p1 s).1, b ++ (cmpA p1 s).2) := by
  intro s
  induction s with
  | nil => intro p n a b hp hn ha hb'; cases n with
    | zero => omega
    | succ n =>
      have : p0 = p := by simpa using hp
      subst this
      simp only [ref16_Compare_L1, ref16_Compare_L1_B, Int.lt_irrefl, decide_false, Bool.false_eq_true, if_false, cmpA]
      simp
  | cons x s ih => intro p n a b hp hn ha hb'; cases n with
    | zero => omega
    | succ n =>
      have hlen : p.length < 1000000 := by have := congrArg List.length hp; simp at this; omega
      have d1 : decide ((p.length : Int) < (p0.length : Int)) = true := by rw [hp]; exact dlt p x s
      have i1 : idx p0 (p.length : Int) = some x := by rw [hp]; exact idx_at p x s
      have hp' : p0 = (p ++ [x]) ++ s := by rw [hp]; simp
      simp only [ref16_Compare_L1, ref16_Compare_L1_B, ref16_Compare_J2, d1, if_true, i1, Option.bind_some, has_s x.Candidate hb1 hF1]
      rw [nxt p x (by omega), cmpA_cons]
      have a1 : app a [x.Candidate] = some (a ++ [x.Candidate]) := app_of (by simp; omega)
      have b1 : app b [x.Candidate] = some (b ++ [x.Candidate]) := app_of (by simp; omega)
      have q1 := ih (p ++ [x]) n (a ++ [x.Candidate]) b hp' (by simpa using hn) (by simp; omega) (by simp; omega)
      have q2 := ih (p ++ [x]) n a (b ++ [x.Candidate]) hp' (by simpa using hn) (by simp; omega) (by simp; omega)
      have q3 := ih (p ++ [x]) n a b hp' (by simpa using hn) (by simp; omega) (by simp; omega)
      have hL : ((p ++ [x]).length : Int) = (p.length : Int) + 1 := by simp
      rw [hL] at q1 q2 q3
      by_cases hs : x.State = 1
      · cases hc : p1.contains x.Candidate with
        | true => simp [hs, q3]
        | false => simp [hs, a1, q1]
      · have hs' : (x.State == 1) = false := by simp [hs]
        have hs2 : (x.State != 1) = true := by simp [hs]
        cases hc : p1.contains x.Candidate with
        | true => simp [hs', hs2, b1, q2]
        | false => simp [hs', hs2, q3]
theorem rcomp_s {F : Nat} {p0 : List GAttendance} {p1 : List Int} (hb0 : p0.length < 1000000) (hF0 : p0.length < F) (hb : p1.length < 1000000) (hF : p1.length < F) : ref16_Compare F p0 p1 = some (cmpA p1 p0) := by
  have := rcomp_loop hb0 hb hF p0 [] F [] [] rfl hF0 (by simp) (by simp)
  simpa [ref16_Compare] using this
theorem pres_loop {p0 : List GAttendance} (hb : p0.length < 1000000) : ∀ (s p : List GAttendance) (n : Nat) (a : List Int), p0 = p ++ s → s.length < n → a.length ≤ p.length →
    attendance_Present_L1 p0 n (p.length : Int) a = some (a ++ (s.filter fun x => x.State == 1).map (·.Candidate)) ∧ ref16_Present_L1 p0 n (p.length : Int) a = some (a ++ (s.filter fun x => x.State == 1).map (·.Candidate)) := by
  intro s
  induction s with
  | nil => intro p n a hp hn ha; cases n with
    | zero => omega
    | succ n =>
      have : p0 = p := by simpa using hp
      subst this
      simp only [attendance_Present_L1, attendance_Present_L1_B, ref16_Present_L1, ref16_Present_L1_B, Int.lt_irrefl, decide_false, Bool.false_eq_true, if_false]
      simp
  | cons x s ih => intro p n a hp hn ha; cases n with
    | zero => omega
    | succ n =>
      have hlen : p.length < 1000000 := by have := congrArg List.length hp; simp at this; omega
      have d1 : decide ((p.length : Int) < (p0.length : Int)) = true := by rw [hp]; exact dlt p x s
      have i1 : idx p0 (p.length : Int) = some x := by rw [hp]; exact idx_at p x s
      have hp' : p0 = (p ++ [x]) ++ s := by rw [hp]; simp
      simp only [attendance_Present_L1, attendance_Present_L1_B, ref16_Present_L1, ref16_Present_L1_B, d1, if_true, i1, Option.bind_some]
      rw [nxt p x (by omega), List.filter_cons]
      cases hs : (x.State == 1) with
      | true =>
        simp only [if_true]
        rw [app_of (by simp; omega)]
        simp only [Option.bind_some]
        have := ih (p ++ [x]) n (a ++ [x.Candidate]) hp' (by simpa using hn) (by simp; omega)
        simpa using this
      | false =>
        simp only [Bool.false_eq_true, if_false]
        exact ih (p ++ [x]) n a hp' (by simpa using hn) (by simp; omega)
theorem pres_s {F : Nat} {p0 : List GAttendance} (hb : p0.length < 1000000) (hF : p0.length < F) : attendance_Present F p0 = some ((p0.filter fun x => x.State == 1).map (·.Candidate)) ∧ ref16_Present F p0 = some ((p0.filter fun x => x.State == 1).map (·.Candidate)) := by
  have := pres_loop hb p0 [] F [] rfl hF (by simp)
  simpa [attendance_Present, ref16_Present] using this
theorem tints_s {F : Nat} {t : GTape} (h : Tp t) (most : Nat) (a b : Int) (ha : -1000 ≤ a) (hab : a ≤ b) (hb : b ≤ 100000000) (hm : most ≤ 100) (hF : most < F) : ∃ l t', GTape_Ints F t most a b = some (l, t') ∧ Tp t' ∧ l.length ≤ most := by
  have key : ∀ n (k : Int) (L : List Int) (A : Int) (l : List Int), (0 ≤ k ∧ (l.length : Int) + k ≤ most ∧ Tp (GTape.mk L A)) → k.toNat < n → ∃ r, GTape_Ints_L1 a b n k L A l = some r ∧ (Tp r.2 ∧ r.1.length ≤ most) := by
    refine loop4 (L := GTape_Ints_L1 a b) (B := GTape_Ints_L1_B a b) (fun _ => rfl) _ (fun (k : Int) (_ : List Int) (_ : Int) (_ : List Int) => k.toNat) _ ?_
    rintro rec k L A l ⟨hk, hl, ht⟩ hrec
    unfold GTape_Ints_L1_B
    by_cases hk0 : k > 0
    · obtain ⟨x, t1, a1, a2, _⟩ := range_s ht a b ha hab hb
      simp only [hk0, decide_true, if_true, a1, Option.bind_some]
      rw [app_of (by simp; omega), i64_of (by omega) (by omega)]
      simp only [Option.bind_some]
      exact hrec _ _ _ _ ⟨by omega, by simp; omega, a2⟩ (by omega)
    · simp only [hk0, decide_false, Bool.false_eq_true, if_false]
      exact ⟨_, rfl, ht, by simp only; omega⟩
  obtain ⟨x, t1, a1, a2, a3, a4⟩ := range_s h 0 most (by omega) (by omega) (by omega)
  obtain ⟨⟨l, t'⟩, h1, h2, h3⟩ := key F x t1.L t1.At [] ⟨a3, by simp; omega, a2⟩ (by omega)
  exact ⟨l, t', by simp only [GTape_Ints, a1, Option.bind_some]; exact h1, h2, h3⟩
theorem cmpA_len (p1 : List Int) (l : List GAttendance) : (cmpA p1 l).1.length ≤ l.length ∧ (cmpA p1 l).2.length ≤ l.length := by
  simp only [cmpA, List.length_map]
  exact ⟨List.length_filter_le _ _, List.length_filter_le _ _⟩
theorem law_AttendanceCompares (p0 : List GAttendance) (p1 p2 : List Int) : ∃ F, law16_AttendanceCompares F p0 p1 p2 = some true := by
  refine ⟨2000, ?_⟩
  unfold law16_AttendanceCompares
  by_cases hbig : p0.length > 30 ∨ p1.length > 60
  · have : ((decide ((p0.length : Int) > 30)) || (decide ((p1.length : Int) > 60))) = true := by simp; omega
    simp [this]
  · have hbig' : ((decide ((p0.length : Int) > 30)) || (decide ((p1.length : Int) > 60))) = false := by
      simp only [Bool.or_eq_false_iff, decide_eq_false_iff_not]; omega
    simp only [hbig', Bool.false_eq_true, if_false]
    obtain ⟨t0, a1, a2⟩ := new_s p2
    obtain ⟨en, t1, b1, b2, b3, _⟩ := enrolled_s (F := 2000) a2 0 (by omega) (by omega)
    obtain ⟨l, t2, c1, c2, c3⟩ := regEvents_s (F := 2000) b2 10 0 (by omega) (by omega) (by omega)
    obtain ⟨is, t3, d1, d2, d3⟩ := tints_s (F := 2000) c2 6 0 5 (by omega) (by omega) (by omega) (by omega) (by omega)
    obtain ⟨q1, q2⟩ := foldE_len (l := en) (ev := l) (u := 30)
    rw [a1]; simp only [Option.bind_some]
    rw [b1]; simp only [Option.bind_some]
    rw [show (10 : Int) = ((10 : Nat) : Int) from rfl, c1]; simp only [Option.bind_some]
    rw [rfold_s (Nat.le_refl 2000) (by omega) (by omega)]; simp only [Option.bind_some]
    rw [show (6 : Int) = ((6 : Nat) : Int) from rfl, d1]; simp only [Option.bind_some]
    rw [comp_s (by omega) (by omega) (by omega) (by omega)]; simp only [Option.bind_some]
    rw [rcomp_s (by omega) (by omega) (by omega) (by omega)]; simp only [Option.bind_some]
    rw [comp_s (by omega) (by omega) (by omega) (by omega)]; simp only [Option.bind_some]
    rw [rcomp_s (by omega) (by omega) (by omega) (by omega)]; simp only [Option.bind_some]
    obtain ⟨w1, w2⟩ := cmpA_len p1 p0
    obtain ⟨w3, w4⟩ := cmpA_len is (foldE en l 30).1
    obtain ⟨v1, v2⟩ := pres_s (F := 2000) (p0 := p0) (by omega) (by omega)
    obtain ⟨v3, v4⟩ := pres_s (F := 2000) (p0 := (foldE en l 30).1) (by omega) (by omega)
    have f1 : ((p0.filter fun x => x.State == 1).map (·.Candidate)).length ≤ p0.length := by rw [List.length_map]; exact List.length_filter_le _ _
    have f2 : (((foldE en l 30).1.filter fun x => x.State == 1).map (·.Candidate)).length ≤ (foldE en l 30).1.length := by rw [List.length_map]; exact List.length_filter_le _ _
    rw [ints_s (by omega) (by omega), ints_s (by omega) (by omega), ints_s (by omega) (by omega), ints_s (by omega) (by omega)]
    simp only [Option.bind_some, if_true, v1, v2, v3, v4]
    rw [ints_s (by omega) (by omega), ints_s (by omega) (by omega)]
    simp only [Option.bind_some, if_true, awake_s (Nat.le_refl 2000)]
end Go.Sh
