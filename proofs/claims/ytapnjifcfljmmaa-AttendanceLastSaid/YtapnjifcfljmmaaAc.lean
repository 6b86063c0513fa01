/- Plain laws of chapter 16, part 3: what the laws draw; the laws Canonical, Checks, Folds, AnyOrder. -/
import Derived.Test.YtapnjifcfljmmaaAb
import Derived.Test.YtapnjifcfljmmaaQi
set_option linter.unusedVariables false
set_option linter.unusedSimpArgs false
namespace Go.Sh
open Go.L

section
variable {R : Type} {rec1 : Int → List Int → Int → List GRegisterEvent → Option (List GRegisterEvent × GTape)} {n2 : Int} {l5 : List GRegisterEvent} {Post : List GRegisterEvent × GTape → Prop}
theorem evJ2 (hl : l5.length ≤ 1000) (h : ∀ v t', Tp t' → v.length ≤ l5.length + 2 → ∃ r, rec1 (i64 (n2 - 1)) t'.L t'.At v = some r ∧ Post r) {a b c d e f : Int} {L : List Int} {A : Int} (ht : Tp (GTape.mk L A)) :
    ∃ r, GTape_RegisterEvents_J2 rec1 n2 l5 a b c d e f L A = some r ∧ Post r := by
  unfold GTape_RegisterEvents_J2
  rw [app_of (by simp; omega)]
  simp only [Option.bind_some]
  obtain ⟨x, t1, h1, h2⟩ := one_s ht 8 (by omega)
  simp only [h1, Option.bind_some]
  cases x with
  | false => exact h _ t1 h2 (by simp)
  | true =>
    simp only [if_true]
    obtain ⟨y, t2, h3, h4, h5, h6, _⟩ := next_s h2 ((l5 ++ [GRegisterEvent.mk (GStamp.mk a b c) d e f]).length : Int) (by simp; omega)
    have hy := h6 (by simp; omega)
    rw [h3]
    simp only [Option.bind_some]
    have hix : idx (l5 ++ [GRegisterEvent.mk (GStamp.mk a b c) d e f]) y = some (l5 ++ [GRegisterEvent.mk (GStamp.mk a b c) d e f])[y.toNat] := by
      rw [idx_some]; exact ⟨h5, by simp⟩
    rw [hix]
    simp only [Option.bind_some]
    rw [app_of (by simp; omega)]
    simp only [Option.bind_some]
    exact h _ t2 h4 (by simp)
end
theorem regEvents_s {F : Nat} {t : GTape} (h : Tp t) (most : Nat) (p : Int) (hp : p ≤ 1000000) (hm : most ≤ 100) (hF : most < F) : ∃ l t', GTape_RegisterEvents F t most p = some (l, t') ∧ Tp t' ∧ l.length ≤ 2 * most := by
  have key : ∀ n (k : Int) (L : List Int) (A : Int) (l : List GRegisterEvent), (0 ≤ k ∧ (l.length : Int) + 2 * k ≤ 2 * most ∧ Tp (GTape.mk L A)) → k.toNat < n → ∃ r, GTape_RegisterEvents_L1 p n k L A l = some r ∧ (Tp r.2 ∧ r.1.length ≤ 2 * most) := by
    refine loop4 (L := GTape_RegisterEvents_L1 p) (B := GTape_RegisterEvents_L1_B p) (fun _ => rfl) _ (fun (k : Int) (_ : List Int) (_ : Int) (_ : List GRegisterEvent) => k.toNat) _ ?_
    rintro rec k L A l ⟨hk, hl, ht⟩ hrec
    unfold GTape_RegisterEvents_L1_B
    by_cases hk0 : k > 0
    · obtain ⟨a, t1, a1, a2, _⟩ := range_s ht 0 24 (by omega) (by omega) (by omega)
      obtain ⟨b, t2, b1, b2, _⟩ := pick_s a2 [0, 0, 1, 2, 3] (by simp) (by simp)
      obtain ⟨c, t3, c1, c2, _⟩ := range_s b2 1 5 (by omega) (by omega) (by omega)
      obtain ⟨d, t4, d1, d2, _⟩ := next_s c2 5 (by omega)
      obtain ⟨e, t5, e1, e2, _⟩ := next_s d2 60 (by omega)
      simp only [hk0, decide_true, if_true, a1, b1, c1, d1, e1, Option.bind_some]
      have hgo : ∀ v t', Tp t' → v.length ≤ l.length + 2 → ∃ r, rec (i64 (k - 1)) t'.L t'.At v = some r ∧ (Tp r.2 ∧ r.1.length ≤ 2 * most) := fun v t' h1 h2 => by
        rw [i64_of (by omega) (by omega)]
        exact hrec _ _ _ _ ⟨by omega, by omega, h1⟩ (by omega)
      have key : ∃ (b : Bool) (L' : List Int) (A' : Int), (if (decide (p > 0)) = true then (GTape_One t5 p).bind fun r31 => some (r31.1, r31.2.L, r31.2.At) else some (false, t5.L, t5.At)) = some (b, L', A') ∧ Tp (GTape.mk L' A') := by
        by_cases hp0 : p > 0
        · obtain ⟨x, t1, h1, h2⟩ := one_s e2 p (by omega)
          exact ⟨x, t1.L, t1.At, by simp only [hp0, decide_true, if_true, h1, Option.bind_some], h2⟩
        · exact ⟨false, t5.L, t5.At, by simp [hp0], e2⟩
      obtain ⟨b, L', A', h1, h2⟩ := key
      rw [h1]
      simp only [Option.bind_some]
      cases b with
      | false => exact evJ2 (by omega) hgo h2
      | true =>
        simp only [if_true]
        obtain ⟨y, t6, h3, h4, _⟩ := next_s h2 4 (by omega)
        simp only [h3, Option.bind_some]
        by_cases y0 : y = 0
        · obtain ⟨z, t7, h5, h6, _⟩ := range_s h4 (-1) 7 (by omega) (by omega) (by omega)
          simp only [y0, beq_self_eq_true, if_true, h5, Option.bind_some]
          exact evJ2 (by omega) hgo (tp_mk h6)
        · by_cases y1 : y = 1
          · obtain ⟨z, t7, h5, h6⟩ := wild_s h4
            simp only [y1, show ((1 : Int) == 0) = false from rfl, Bool.false_eq_true, if_false, beq_self_eq_true, if_true, h5, Option.bind_some]
            exact evJ2 (by omega) hgo (tp_mk h6)
          · by_cases y2 : y = 2
            · obtain ⟨z, t7, h5, h6, _⟩ := pick_s h4 [-1, 600, 601] (by simp) (by simp)
              simp only [y2, show ((2 : Int) == 0) = false from rfl, show ((2 : Int) == 1) = false from rfl, Bool.false_eq_true, if_false, beq_self_eq_true, if_true, h5, Option.bind_some]
              exact evJ2 (by omega) hgo (tp_mk h6)
            · obtain ⟨z, t7, h5, h6⟩ := tstamp_s h4 4 (by omega)
              have b0 : (y == 0) = false := by simp [y0]
              have b1 : (y == 1) = false := by simp [y1]
              have b2 : (y == 2) = false := by simp [y2]
              simp only [b0, b1, b2, Bool.false_eq_true, if_false, h5, Option.bind_some]
              exact evJ2 (by omega) hgo (tp_mk h6)
    · simp only [hk0, decide_false, Bool.false_eq_true, if_false]
      exact ⟨_, rfl, ht, by simp only; omega⟩
  obtain ⟨a, t1, a1, a2, a3, a4⟩ := range_s h 0 most (by omega) (by omega) (by omega)
  obtain ⟨⟨l, t'⟩, h1, h2, h3⟩ := key F a t1.L t1.At [] ⟨a3, by simp; omega, a2⟩ (by omega)
  exact ⟨l, t', by simp only [GTape_RegisterEvents, a1, Option.bind_some]; exact h1, h2, h3⟩
theorem adj_of : ∀ {s : List GEnrolment} {y : GEnrolment}, SortA (y :: s) → chkAdj y s = 0
  | [], _, _ => rfl
  | z :: s, y, h => by
    have h' := List.pairwise_cons.1 h
    have := h'.1 z (by simp)
    simp only [chkAdj]
    rw [if_neg (by omega)]
    exact adj_of h'.2
theorem checkA_of {l : List GEnrolment} (hs : SortA l) (hl : l.length ≤ 60) (hb : ∀ x ∈ l, badE x = false) : checkA l = 0 := by
  unfold checkA
  rw [if_neg (by omega), if_neg]
  · cases l with
    | nil => rfl
    | cons x s => exact adj_of hs
  · intro h
    obtain ⟨x, hx, hb'⟩ := List.any_eq_true.1 h
    rw [hb x hx] at hb'; cases hb'
theorem enrolled_s {F : Nat} {t : GTape} (h : Tp t) (p : Int) (hp : p ≤ 1000000) (hF : 10 ≤ F) : ∃ l t', GTape_Enrolled F t p = some (l, t') ∧ Tp t' ∧ l.length ≤ 6 ∧ (p = 0 → checkA l = 0) := by
  have key : ∀ n (k : Int) (L : List Int) (A : Int) (l : List GEnrolment), (0 ≤ k ∧ k ≤ 5 ∧ (l.length : Int) ≤ k ∧ Tp (GTape.mk L A) ∧ SortA l ∧ ∀ x ∈ l, x.Entry.Candidate < k ∧ badE x = false) → (5 - k).toNat < n → ∃ r, GTape_Enrolled_L1 p n k L A l = some r ∧ (Tp r.2 ∧ r.1.length ≤ 6 ∧ (p = 0 → checkA r.1 = 0)) := by
    refine loop4 (L := GTape_Enrolled_L1 p) (B := GTape_Enrolled_L1_B p) (fun _ => rfl) _ (fun (k : Int) (_ : List Int) (_ : Int) (_ : List GEnrolment) => (5 - k).toNat) _ ?_
    rintro rec k L A l ⟨hk, hk5, hl, ht, hs, hx⟩ hrec
    unfold GTape_Enrolled_L1_B
    by_cases hk0 : k < 5
    · obtain ⟨a, t1, a1, a2, _⟩ := next_s ht 4 (by omega)
      have hki : i64 (k + 1) = k + 1 := i64_of (by omega) (by omega)
      simp only [hk0, decide_true, if_true, a1, Option.bind_some, hki]
      by_cases ha : a > 0
      · obtain ⟨b, t2, b1, b2, b3, b4⟩ := range_s a2 1 3 (by omega) (by omega) (by omega)
        simp only [ha, decide_true, if_true, b1, Option.bind_some]
        rw [app_of (by simp; omega)]
        simp only [Option.bind_some]
        refine hrec _ _ _ _ ⟨by omega, by omega, by simp; omega, b2, ?_, ?_⟩ (by omega)
        · unfold SortA at hs ⊢
          rw [List.pairwise_append]
          refine ⟨hs, by simp, fun x hx' y hy => ?_⟩
          have := (hx x hx').1
          simp at hy; subst hy; exact this
        · intro x hx'
          rcases List.mem_append.1 hx' with hx' | hx'
          · have := hx x hx'; exact ⟨by omega, this.2⟩
          · simp at hx'; subst hx'
            refine ⟨by simp only; omega, ?_⟩
            unfold badE; simp only [Bool.or_eq_false_iff, decide_eq_false_iff_not]; omega
      · simp only [ha, decide_false, Bool.false_eq_true, if_false]
        exact hrec _ _ _ _ ⟨by omega, by omega, by omega, a2, hs, fun x hx' => ⟨by have := (hx x hx').1; omega, (hx x hx').2⟩⟩ (by omega)
    · simp only [hk0, decide_false, Bool.false_eq_true, if_false]
      have hk2 : k = 5 := by omega
      have hcheck : checkA l = 0 := checkA_of hs (by omega) fun x hx' => (hx x hx').2
      by_cases hp0 : p > 0
      · obtain ⟨x, t1, h1, h2⟩ := one_s ht p (by omega)
        simp only [hp0, decide_true, if_true, h1, Option.bind_some]
        cases x with
        | false => exact ⟨_, rfl, h2, by simp only; omega, fun hz => by omega⟩
        | true =>
          simp only [if_true]
          obtain ⟨y, t2, h3, h4, _⟩ := pick_s (tp_mk h2) [0, 5, 9999, 10000, (-1)] (by simp) (by simp)
          obtain ⟨z, t3, h5, h6, _⟩ := pick_s h4 [0, 1, 99, 100] (by simp) (by simp)
          simp only [h3, h5, Option.bind_some]
          rw [app_of (by simp; omega)]
          simp only [Option.bind_some]
          exact ⟨_, rfl, h6, by simp; omega, fun hz => by omega⟩
      · simp only [hp0, decide_false, Bool.false_eq_true, if_false, Option.bind_some]
        exact ⟨_, rfl, ht, by simp only; omega, fun _ => hcheck⟩
  obtain ⟨⟨l, t'⟩, h1, h2, h3, h4⟩ := key F 0 t.L t.At [] ⟨by omega, by omega, by simp, tp_mk h, by simp [SortA], by simp⟩ (by omega)
  exact ⟨l, t', by simp only [GTape_Enrolled]; exact h1, h2, h3, h4⟩
/- the laws -/
theorem law_AttendanceCanonical (t : List Int) : ∃ F, law16_AttendanceCanonical F t = some true := by
  refine ⟨2000, ?_⟩
  obtain ⟨t0, a1, a2⟩ := new_s t
  obtain ⟨l, t1, b1, b2, b3⟩ := regEvents_s (F := 2000) a2 12 4 (by omega) (by omega) (by omega)
  have hle := canonEv_le (fun x : GRegisterEvent => x.Stamp) l
  unfold law16_AttendanceCanonical
  rw [a1]; simp only [Option.bind_some]
  rw [show (12 : Int) = ((12 : Nat) : Int) from rfl, b1]; simp only [Option.bind_some]
  rw [canonicalP_s (by omega) (by omega) (by omega)]; simp only [Option.bind_some]
  rw [canonicalR_s (by omega) (by omega)]; simp only [Option.bind_some, bne_self_eq_false, Bool.or_self, Bool.false_eq_true, if_false]
  revert hle
  generalize canonEv (fun x : GRegisterEvent => x.Stamp) l = ce
  intro hle
  have key : ∀ (s p : List GRegisterEvent) (n : Nat), ce.1 = p ++ s → s.length < n → law16_AttendanceCanonical_L1 2000 (l, t1) ce ce n (p.length : Int) = some true := by
    intro s
    induction s with
    | nil => intro p n hp hn; cases n with
      | zero => omega
      | succ n =>
        have : ce.1 = p := by simpa using hp
        rw [← this]
        simp only [law16_AttendanceCanonical_L1, law16_AttendanceCanonical_L1_B, Int.lt_irrefl, decide_false, Bool.false_eq_true, if_false]
        by_cases h0 : l.length > 0
        · have h0' : decide ((l.length : Int) > 0) = true := by simp; omega
          obtain ⟨x, t2, c1, c2, c3, c4, _⟩ := next_s b2 (l.length : Int) (by omega)
          have c5 := c4 (by omega)
          obtain ⟨y, t3, d1, d2, d3, d4, _⟩ := next_s c2 (l.length : Int) (by omega)
          have d5 := d4 (by omega)
          have i1 : idx l x = some l[x.toNat] := by rw [idx_some]; exact ⟨c3, by simp⟩
          have i2 : idx l y = some l[y.toNat] := by rw [idx_some]; exact ⟨d3, by simp⟩
          simp only [h0', if_true, c1, d1, i1, i2, Option.bind_some, attendance_Same, beq_self_eq_true, decide_true, awake_s (Nat.le_refl 2000)]
        · have h0' : decide ((l.length : Int) > 0) = false := by rw [decide_eq_false_iff_not]; omega
          simp only [h0', Bool.false_eq_true, if_false, awake_s (Nat.le_refl 2000), Option.bind_some]
    | cons e s ih => intro p n hp hn; cases n with
      | zero => omega
      | succ n =>
        have hlen : p.length < 1000000 := by have := congrArg List.length hp; simp at this; omega
        have d1 : decide ((p.length : Int) < (ce.1.length : Int)) = true := by rw [hp]; exact dlt p e s
        have i1 : idx ce.1 (p.length : Int) = some e := by rw [hp]; exact idx_at p e s
        simp only [law16_AttendanceCanonical_L1, law16_AttendanceCanonical_L1_B, d1, if_true, i1, Option.bind_some, decide_true, Bool.not_true, Bool.false_eq_true, if_false]
        rw [nxt p e (by omega)]
        exact ih (p ++ [e]) n (by rw [hp]; simp) (by simpa using hn)
  exact key ce.1 [] 2000 rfl (by omega)
theorem law_AttendanceChecks (t : List Int) (x : Int) : ∃ F, law16_AttendanceChecks F t x = some true := by
  refine ⟨2000, ?_⟩
  obtain ⟨t0, a1, a2⟩ := new_s t
  obtain ⟨l, t1, b1, b2, b3, _⟩ := enrolled_s (F := 2000) a2 2 (by omega) (by omega)
  obtain ⟨c, c1, c2, c3, _⟩ := cut_s x 6 (by omega)
  have c4 := c3 (by omega)
  unfold law16_AttendanceChecks
  rw [a1]; simp only [Option.bind_some]
  rw [b1]; simp only [Option.bind_some]
  have key : ∀ (k i n : Nat) (m : List GEnrolment), (i : Int) + k = 58 + c → m.length = i → k < n → law16_AttendanceChecks_L1 2000 x (l, t1) n (i : Int) m = some true := by
    intro k
    induction k with
    | zero => intro i n m hi hm hn; cases n with
      | zero => omega
      | succ n =>
        have hc : i64 (58 + c) = 58 + c := i64_of (by omega) (by omega)
        have d : decide ((i : Int) < 58 + c) = false := by simp; omega
        simp only [law16_AttendanceChecks_L1, law16_AttendanceChecks_L1_B, c1, Option.bind_some, hc, d, Bool.false_eq_true, if_false, rcheck_eq]
        rw [check_s (by omega) (by omega), check_s (by omega) (by omega)]
        simp only [Option.bind_some, beq_self_eq_true, if_true, awake_s (Nat.le_refl 2000)]
    | succ k ih => intro i n m hi hm hn; cases n with
      | zero => omega
      | succ n =>
        have hc : i64 (58 + c) = 58 + c := i64_of (by omega) (by omega)
        have d : decide ((i : Int) < 58 + c) = true := by simp; omega
        simp only [law16_AttendanceChecks_L1, law16_AttendanceChecks_L1_B, c1, Option.bind_some, hc, d, if_true]
        rw [app_of (by simp; omega), nxtN (by omega)]
        simp only [Option.bind_some]
        exact ih (i + 1) n _ (by omega) (by simp; omega) (by omega)
  exact key (58 + c).toNat 0 2000 [] (by omega) rfl (by omega)
theorem law_AttendanceFolds (t : List Int) (u : Int) : ∃ F, law16_AttendanceFolds F t u = some true := by
  refine ⟨2000, ?_⟩
  obtain ⟨t0, a1, a2⟩ := new_s t
  obtain ⟨l, t1, b1, b2, b3, _⟩ := enrolled_s (F := 2000) a2 10 (by omega) (by omega)
  obtain ⟨ev, t2, c1, c2, c3⟩ := regEvents_s (F := 2000) b2 14 5 (by omega) (by omega) (by omega)
  unfold law16_AttendanceFolds
  rw [a1]; simp only [Option.bind_some]
  rw [b1]; simp only [Option.bind_some]
  rw [show (14 : Int) = ((14 : Nat) : Int) from rfl, c1]; simp only [Option.bind_some]
  have key : ∀ (k i n : Nat) (u : Int) (L : List Int) (A : Int), i + k = 2 → Tp (GTape.mk L A) → k < n → law16_AttendanceFolds_L1 2000 (l, t1) (ev, t2) n u (i : Int) L A = some true := by
    intro k
    induction k with
    | zero => intro i n u L A hi ht hn; cases n with
      | zero => omega
      | succ n =>
        have d : decide ((i : Int) < 2) = false := by simp; omega
        simp only [law16_AttendanceFolds_L1, law16_AttendanceFolds_L1_B, d, Bool.false_eq_true, if_false, awake_s (Nat.le_refl 2000), Option.bind_some]
    | succ k ih => intro i n u L A hi ht hn; cases n with
      | zero => omega
      | succ n =>
        have d : decide ((i : Int) < 2) = true := by simp; omega
        obtain ⟨q1, q2⟩ := foldE_len (l := l) (ev := ev) (u := u)
        obtain ⟨y, t3, e1, e2, _⟩ := range_s ht 0 30 (by omega) (by omega) (by omega)
        simp only [law16_AttendanceFolds_L1, law16_AttendanceFolds_L1_B, d, if_true]
        rw [fold_s (Nat.le_refl 2000) (by omega) (by omega)]; simp only [Option.bind_some]
        rw [rfold_s (Nat.le_refl 2000) (by omega) (by omega)]; simp only [Option.bind_some]
        rw [same_s (by omega) (by omega) (by omega) foldE_inc]
        simp only [Option.bind_some, Bool.not_true, Bool.false_eq_true, if_false]
        rw [refs_s (by omega) (by omega)]
        simp only [Option.bind_some, Bool.not_true, Bool.false_eq_true, if_false, bne_self_eq_false, e1]
        rw [nxtN (by omega)]
        exact ih (i + 1) n _ _ _ (by omega) (tp_mk e2) (by omega)
  exact key 2 0 2000 u t2.L t2.At rfl c2 (by omega)
theorem law_AttendanceAnyOrder (t : List Int) : ∃ F, law16_AttendanceAnyOrder F t = some true := by
  refine ⟨2000, ?_⟩
  obtain ⟨t0, a1, a2⟩ := new_s t
  obtain ⟨en, t1, b1, b2, b3, b4⟩ := enrolled_s (F := 2000) a2 0 (by omega) (by omega)
  obtain ⟨l, t2, c1, c2, c3⟩ := regEvents_s (F := 2000) b2 10 8 (by omega) (by omega) (by omega)
  obtain ⟨o, t3, d1, d2, d3, d4⟩ := mixed_s (F := 2000) c2 (m := l.length) (by omega) (by omega) (by omega)
  have hd := b4 rfl
  unfold law16_AttendanceAnyOrder
  rw [a1]; simp only [Option.bind_some]
  rw [b1]; simp only [Option.bind_some]
  rw [show (10 : Int) = ((10 : Nat) : Int) from rfl, c1]; simp only [Option.bind_some]
  rw [d1]; simp only [Option.bind_some]
  have key : ∀ (s p : List Int) (n : Nat), o = p ++ s → s.length < n → law16_AttendanceAnyOrder_L1 2000 (en, t1) (l, t2) (o, t3) n (p.length : Int) (pickL l p) = some true := by
    intro s
    induction s with
    | nil => intro p n hp hn; cases n with
      | zero => omega
      | succ n =>
        have : o = p := by simpa using hp
        subst this
        have hpl : (pickL l o).length = o.length := pickL_len fun i hi => by have := (d4 i).1 hi; omega
        have hmem : ∀ e, e ∈ pickL l o ↔ e ∈ l := fun e => by
          simp only [pickL, List.mem_filterMap]
          constructor
          · rintro ⟨i, _, hi⟩; exact List.mem_of_getElem? hi
          · intro he
            obtain ⟨i, hi⟩ := List.getElem?_of_mem he
            have hil := (List.getElem?_eq_some_iff.1 hi).1
            exact ⟨(i : Int), (d4 _).2 ⟨by omega, by omega⟩, by simpa using hi⟩
        have hfe : foldE en (pickL l o) 1000000 = foldE en l 1000000 := by unfold foldE; rw [canonEv_congr hmem]
        have hcode : (foldE en l 1000000).2.2 = 0 := by rw [foldE_small (by omega) hd]; exact foldA_code
        obtain ⟨q1, q2⟩ := foldE_len (l := en) (ev := l) (u := 1000000)
        simp only [law16_AttendanceAnyOrder_L1, law16_AttendanceAnyOrder_L1_B, Int.lt_irrefl, decide_false, Bool.false_eq_true, if_false]
        rw [fold_s (Nat.le_refl 2000) (by omega) (by omega), fold_s (Nat.le_refl 2000) (by omega) (by omega), hfe]
        simp only [Option.bind_some, hcode, beq_self_eq_true, if_true]
        rw [same_s (by omega) (by omega) (by omega) foldE_inc, refs_s (by omega) (by omega)]
        simp only [Option.bind_some, if_true, awake_s (Nat.le_refl 2000)]
    | cons x s ih => intro p n hp hn; cases n with
      | zero => omega
      | succ n =>
        have hpl := pickL_len (l := l) (a := p) fun i hi => by have := (d4 i).1 (by rw [hp]; simp [hi]); omega
        have hlen : p.length < 1000000 := by have := congrArg List.length hp; simp at this; omega
        have hx := (d4 x).1 (by rw [hp]; simp)
        have hxl : x.toNat < l.length := by omega
        have e1 : decide ((p.length : Int) < (o.length : Int)) = true := by rw [hp]; exact dlt p x s
        have i1 : idx o (p.length : Int) = some x := by rw [hp]; exact idx_at p x s
        have i2 : idx l x = some l[x.toNat] := by rw [idx_some]; exact ⟨hx.1, by simp [hxl]⟩
        simp only [law16_AttendanceAnyOrder_L1, law16_AttendanceAnyOrder_L1_B, e1, if_true, i1, i2, Option.bind_some]
        rw [app_of (by simp; omega), nxt p x (by omega)]
        simp only [Option.bind_some]
        have e2 : pickL l p ++ [l[x.toNat]] = pickL l (p ++ [x]) := by simp [pickL, hxl]
        rw [e2]
        exact ih (p ++ [x]) n (by rw [hp]; simp) (by simpa using hn)
  exact key o [] 2000 rfl (by omega)
end Go.Sh
