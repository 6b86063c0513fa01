/- Plain laws of chapter 16, part 5: the laws Last and Compares. -/
import Derived.Test.YtapnjifcfljmmaaAd
set_option linter.unusedVariables false
set_option linter.unusedSimpArgs false
namespace Go.Sh
open Go.L

theorem handA_same {x : GAttendance} {e : GRegisterEvent} (hk : badK e = false) (h0 : (handA x e).1 ≠ 0) : (handA x e).2 = x := by
  unfold handA at h0 ⊢
  rcases (kinds hk).1 with h | h | h | h | h
  · simp [h] at h0
  · simp [h] at h0
  · simp [h] at h0
  · by_cases hst : x.State = 1
    · simp [h, hst] at h0
    · simp [h, hst]
  · by_cases hst : 8 ≤ x.Incidents.length
    · simp [h, hst]
    · simp [h, hst] at h0
theorem stepA_same {l : List GEnrolment} {all : List GAttendance} {e : GRegisterEvent} (h0 : (stepA l all e).1 ≠ 0) : (stepA l all e).2 = all := by
  unfold stepA at h0 ⊢
  cases hk : badK e with
  | true => rfl
  | false =>
    simp only [hk, Bool.false_eq_true, if_false] at h0 ⊢
    cases hpl : place l e.Candidate with
    | none => rfl
    | some k =>
      simp only [hpl] at h0 ⊢
      cases hy : l[k]? with
      | none => simp [hy] at h0
      | some y =>
        cases hx : all[k]? with
        | none => simp [hy, hx] at h0
        | some x =>
          simp only [hy, hx] at h0 ⊢
          split
          · rfl
          · rename_i hq
            rw [if_neg hq] at h0
            simp only
            rw [handA_same hk h0]
            obtain ⟨q1, q2⟩ := List.getElem?_eq_some_iff.1 hx
            rw [← q2, List.set_getElem_self]
def evId (e : GRegisterEvent) : GIdentity := ⟨e.Stamp.Source, e.Stamp.Seq⟩
theorem foldA_rest {l : List GEnrolment} {u : Int} : ∀ {s : List GRegisterEvent} {all : List GAttendance} {r : List GRefusal}, ∃ rest, (foldA l u s all r).2.1 = r ++ rest ∧ ∀ x ∈ rest, ∃ e ∈ s, x.Event = evId e
  | [], all, r => ⟨[], by simp [foldA], by simp⟩
  | e :: s, all, r => by
    simp only [foldA]
    split
    · obtain ⟨rest, h1, h2⟩ := foldA_rest (l := l) (u := u) (s := s) (all := all) (r := r)
      exact ⟨rest, h1, fun x hx => by obtain ⟨e', he', h⟩ := h2 x hx; exact ⟨e', by simp [he'], h⟩⟩
    · split
      · obtain ⟨rest, h1, h2⟩ := foldA_rest (l := l) (u := u) (s := s) (all := (stepA l all e).2) (r := r ++ [⟨⟨e.Stamp.Source, e.Stamp.Seq⟩, (stepA l all e).1⟩])
        refine ⟨[⟨⟨e.Stamp.Source, e.Stamp.Seq⟩, (stepA l all e).1⟩] ++ rest, by rw [h1]; simp, fun x hx => ?_⟩
        rcases List.mem_append.1 hx with hx | hx
        · simp at hx; subst hx; exact ⟨e, by simp, rfl⟩
        · obtain ⟨e', he', h⟩ := h2 x hx; exact ⟨e', by simp [he'], h⟩
      · obtain ⟨rest, h1, h2⟩ := foldA_rest (l := l) (u := u) (s := s) (all := (stepA l all e).2) (r := r)
        exact ⟨rest, h1, fun x hx => by obtain ⟨e', he', h⟩ := h2 x hx; exact ⟨e', by simp [he'], h⟩⟩
theorem refused_loop (e : GRegisterEvent) : ∀ (s p : List GRefusal) (n : Nat), (p ++ s).length < 1000000 → s.length < n → law16_refused_L1 (p ++ s) e n (p.length : Int) = some (s.any fun x => decide (x.Event = evId e)) := by
  intro s
  induction s with
  | nil => intro p n hb hn; cases n with
    | zero => omega
    | succ n => simp only [law16_refused_L1, law16_refused_L1_B, dge, Bool.false_eq_true, if_false, List.any_nil]
  | cons x s ih => intro p n hb hn; cases n with
    | zero => omega
    | succ n =>
      have hl : p.length < 1000000 := by simp at hb; omega
      have hrec := ih (p ++ [x]) n (by simpa using hb) (by simpa using hn)
      simp only [law16_refused_L1, law16_refused_L1_B, dlt, idx_at, if_true, Option.bind_some]
      rw [nxt p x (by omega)]
      rw [← snoc] at hrec
      rw [hrec, List.any_cons]
      show (if decide (x.Event = evId e) = true then _ else _) = _
      cases decide (x.Event = evId e) <;> simp
theorem refused_s {F : Nat} {r : List GRefusal} (e : GRegisterEvent) (hb : r.length < 1000000) (hF : r.length < F) : law16_refused F r e = some (r.any fun x => decide (x.Event = evId e)) := by
  have := refused_loop e r [] F (by simpa using hb) hF
  simpa [law16_refused] using this
def invA (x : GAttendance) : Prop := x.State ≠ 1 → x.Left = -1 ∧ x.Late = -1
theorem handA_inv {x : GAttendance} {e : GRegisterEvent} (hk : badK e = false) (h0 : (handA x e).1 = 0) (hi : invA x) : invA (handA x e).2 ∧ (handA x e).2.State = if e.Kind = 1 ∨ e.Kind = 3 then 1 else if e.Kind = 2 then 2 else x.State := by
  unfold handA at h0 ⊢
  unfold invA at hi ⊢
  rcases (kinds hk).1 with h | h | h | h | h
  · simp [h]
  · simp [h]
  · simp [h]
  · by_cases hst : x.State = 1
    · simp [h, hst]
    · simp [h, hst] at h0
  · by_cases hst : 8 ≤ x.Incidents.length
    · simp [h, hst] at h0
    · simp only [h]
      simp [hst]
      exact hi
theorem last_loop {F : Nat} {en : List GEnrolment} {u : Int} {C : List GRegisterEvent} {R : List GAttendance × List GRefusal × Int} {k : Nat} {y : GEnrolment} {rec1 : Int → Option Bool} {c0 : Int} (hs : SortA en) (hy : en[k]? = some y) (hR : Cands en R.1) (hRb : R.2.1.length < 1000000) (hRF : R.2.1.length < F) (hb : C.length < 1000000) (ht : ∀ e ∈ C, e.Stamp.Time ≤ u)
    (hd : ∀ p e s, C = p ++ e :: s → ∀ e' ∈ p ++ s, evId e' ≠ evId e) : ∀ (s p : List GRegisterEvent) (n : Nat) (all : List GAttendance) (r : List GRefusal) (x : GAttendance), C = p ++ s → s.length < n → Cands en all → (∀ z ∈ r, ∃ e ∈ p, z.Event = evId e) → foldA en u s all r = R → all[k]? = some x → invA x →
    law16_AttendanceLast_L2 rec1 F R (C, c0) (k : Int) n x.State (p.length : Int) = rec1 (i64 ((k : Int) + 1)) := by
  have hcand : ∀ {all : List GAttendance} {x : GAttendance}, Cands en all → all[k]? = some x → x.Candidate = y.Entry.Candidate := by
    intro all x hA hx
    have h1 : (all.map (·.Candidate))[k]? = some x.Candidate := by simp [hx]
    have h2 : (en.map (·.Entry.Candidate))[k]? = some y.Entry.Candidate := by simp [hy]
    rw [hA, h2] at h1
    exact (Option.some.inj h1).symm
  have hkl : k < en.length := (List.getElem?_eq_some_iff.1 hy).1
  obtain ⟨xf, hxf⟩ : ∃ xf, R.1[k]? = some xf := ⟨_, List.getElem?_eq_getElem (by rw [hR.len]; exact hkl)⟩
  have hxc := hcand hR hxf
  have iR : idx R.1 (k : Int) = some xf := by rw [idx_nat]; exact hxf
  intro s
  induction s with
  | nil => intro p n all r x hp hn hA hr hf hx hi; cases n with
    | zero => omega
    | succ n =>
      have : C = p := by simpa using hp
      subst this
      simp only [foldA] at hf
      have hx2 : xf = x := by rw [← hf] at hxf; simp only at hxf; rw [hx] at hxf; exact (Option.some.inj hxf).symm
      subst hx2
      simp only [law16_AttendanceLast_L2, law16_AttendanceLast_L2_B, Int.lt_irrefl, decide_false, Bool.false_eq_true, if_false, iR, Option.bind_some, bne_self_eq_false]
      by_cases h1 : xf.State = 1
      · simp [h1]
      · have h1' : (xf.State != 1) = true := by simp [h1]
        obtain ⟨g1, g2⟩ := hi h1
        simp [h1', g1, g2]
  | cons e s ih => intro p n all r x hp hn hA hr hf hx hi; cases n with
    | zero => omega
    | succ n =>
      have hlen : p.length < 1000000 := by have := congrArg List.length hp; simp at this; omega
      have d1 : decide ((p.length : Int) < (C.length : Int)) = true := by rw [hp]; exact dlt p e s
      have i1 : idx C (p.length : Int) = some e := by rw [hp]; exact idx_at p e s
      have het := ht e (by rw [hp]; simp)
      have hp' : C = (p ++ [e]) ++ s := by rw [hp]; simp
      have hA' := stepA_cands hA e
      have hxcx := hcand hA hx
      simp only [foldA] at hf
      rw [if_neg (by omega)] at hf
      have hn' : s.length < n := by simpa using hn
      -- refused or not
      have href : (R.2.1.any fun x => decide (x.Event = evId e)) = decide ((stepA en all e).1 ≠ 0) := by
        by_cases h0 : (stepA en all e).1 = 0
        · rw [if_neg (by simpa using h0)] at hf
          obtain ⟨rest, g1, g2⟩ := foldA_rest (l := en) (u := u) (s := s) (all := (stepA en all e).2) (r := r)
          rw [hf] at g1
          have : (R.2.1.any fun x => decide (x.Event = evId e)) = false := by
            rw [List.any_eq_false]
            intro z hz
            rw [g1] at hz
            have hne : z.Event ≠ evId e := by
              rcases List.mem_append.1 hz with hz | hz
              · obtain ⟨e', he', h⟩ := hr z hz
                rw [h]; exact hd p e s hp e' (by simp [he'])
              · obtain ⟨e', he', h⟩ := g2 z hz
                rw [h]; exact hd p e s hp e' (by simp [he'])
            simpa using hne
          rw [this]; simp [h0]
        · rw [if_pos (by simpa using h0)] at hf
          obtain ⟨rest, g1, g2⟩ := foldA_rest (l := en) (u := u) (s := s) (all := (stepA en all e).2) (r := r ++ [⟨⟨e.Stamp.Source, e.Stamp.Seq⟩, (stepA en all e).1⟩])
          rw [hf] at g1
          have : (R.2.1.any fun x => decide (x.Event = evId e)) = true := by
            rw [List.any_eq_true]
            exact ⟨⟨⟨e.Stamp.Source, e.Stamp.Seq⟩, (stepA en all e).1⟩, by rw [g1]; simp, by simp [evId]⟩
          rw [this]; simp [h0]
      have hr' : ∀ z ∈ (if (stepA en all e).1 ≠ 0 then r ++ [⟨⟨e.Stamp.Source, e.Stamp.Seq⟩, (stepA en all e).1⟩] else r), ∃ e' ∈ p ++ [e], z.Event = evId e' := by
        intro z hz
        split at hz
        · rcases List.mem_append.1 hz with hz | hz
          · obtain ⟨e', he', h⟩ := hr z hz; exact ⟨e', by simp [he'], h⟩
          · simp at hz; subst hz; exact ⟨e, by simp, rfl⟩
        · obtain ⟨e', he', h⟩ := hr z hz; exact ⟨e', by simp [he'], h⟩
      have hget := stepA_get (e := e) hA.len hy hx
      have go : ∀ x', (stepA en all e).2[k]? = some x' → invA x' → law16_AttendanceLast_L2 rec1 F R (C, c0) (k : Int) n x'.State ((p ++ [e]).length : Int) = rec1 (i64 ((k : Int) + 1)) := fun x' h1 h2 => ih (p ++ [e]) n _ _ x' hp' hn' hA' hr' hf h1 h2
      simp only [law16_AttendanceLast_L2, law16_AttendanceLast_L2_B, d1, if_true, i1, iR, Option.bind_some, refused_s e hRb hRF, href, hxc]
      rw [nxt p e (by omega)]
      by_cases hc : e.Candidate = y.Entry.Candidate
      · have hc' : (e.Candidate != y.Entry.Candidate) = false := by simp [hc]
        simp only [hc', Bool.false_eq_true, if_false, Option.bind_some, decide_eq_true_eq]
        by_cases h0 : (stepA en all e).1 = 0
        · obtain ⟨hk, j, y', x', g1, g2, g3, g4, g5, g6⟩ := stepA_zero hA h0
          have hjk : j = k := by
            obtain ⟨y2, q1, q2⟩ := place_lt g1
            rw [g2] at q1; cases q1
            obtain ⟨l1, e1⟩ := List.getElem?_eq_some_iff.1 g2
            obtain ⟨l2, e2⟩ := List.getElem?_eq_some_iff.1 hy
            rcases Nat.lt_trichotomy j k with h | h | h
            · have := List.pairwise_iff_getElem.1 hs j k l1 l2 h; rw [e1, e2] at this; omega
            · exact h
            · have := List.pairwise_iff_getElem.1 hs k j l2 l1 h; rw [e1, e2] at this; omega
          subst hjk
          rw [hx] at g3; cases g3
          obtain ⟨w1, w2⟩ := handA_inv hk g5 hi
          have hal : j < all.length := (List.getElem?_eq_some_iff.1 hx).1
          have hg := go (handA x e).2 (by rw [g6, List.getElem?_set_self hal]) w1
          rw [w2] at hg
          rw [if_neg (by simpa using h0)]
          rcases (kinds hk).1 with h | h | h | h | h
          · simp [h] at hg ⊢; exact hg
          · simp [h] at hg ⊢; exact hg
          · simp [h] at hg ⊢; exact hg
          · simp [h] at hg ⊢; exact hg
          · simp [h] at hg ⊢; exact hg
        · rw [if_pos (by simpa using h0)]
          exact go x (by rw [stepA_same h0]; exact hx) hi
      · have hc' : (e.Candidate != y.Entry.Candidate) = true := by simp [hc]
        simp only [hc', if_true, Option.bind_some]
        have hn2 : ¬ hitB en k y e := by
          rintro ⟨_, h2, _⟩
          obtain ⟨y2, q1, q2⟩ := place_lt h2
          rw [hy] at q1; cases q1
          exact hc q2.symm
        rw [if_neg hn2] at hget
        exact go x hget hi
theorem law_AttendanceLast (t : List Int) : ∃ F, law16_AttendanceLast F t = some true := by
  refine ⟨2000, ?_⟩
  obtain ⟨t0, a1, a2⟩ := new_s t
  obtain ⟨en, t1, b1, b2, b3, b4⟩ := enrolled_s (F := 2000) a2 0 (by omega) (by omega)
  obtain ⟨l, t2, c1, c2, c3⟩ := regEvents_s (F := 2000) b2 14 6 (by omega) (by omega) (by omega)
  have hd := b4 rfl
  have hel := evL_le (fun x : GRegisterEvent => x.Stamp) l
  have hA := foldE_cands (u := 1000000) (show l.length ≤ 300 by omega) hd
  have hfe := foldE_small (u := 1000000) (show l.length ≤ 300 by omega) hd
  obtain ⟨q1, q2⟩ := foldE_len (l := en) (ev := l) (u := 1000000)
  have hcode : (foldE en l 1000000).2.2 = 0 := by rw [hfe]; exact foldA_code
  have hE := evL_is (fun x : GRegisterEvent => x.Stamp) l
  unfold law16_AttendanceLast
  rw [a1]; simp only [Option.bind_some]
  rw [b1]; simp only [Option.bind_some]
  rw [show (14 : Int) = ((14 : Nat) : Int) from rfl, c1]; simp only [Option.bind_some]
  rw [fold_s (Nat.le_refl 2000) (by omega) (by omega)]; simp only [Option.bind_some]
  rw [canonicalP_s (by omega) (by omega) (by omega), canonEv_small (by omega)]
  simp only [Option.bind_some, hcode, hA.len, bne_self_eq_false, Bool.or_self, Bool.false_eq_true, if_false]
  have hdist : ∀ p e s, evL (·.Stamp) l = p ++ e :: s → ∀ e' ∈ p ++ s, evId e' ≠ evId e := by
    intro p e s hp e' he' hid
    have m1 : e ∈ evL (·.Stamp) l := by rw [hp]; simp
    have m2 : e' ∈ evL (·.Stamp) l := by rw [hp]; simp at he' ⊢; rcases he' with h | h <;> simp [h]
    have g1 := (hE.mem e).1 m1
    have g2 := (hE.mem e').1 m2
    have : e' = e := g1.2.2 e' g2.1 g2.2.1 ⟨by have := congrArg GIdentity.Source hid; simpa [evId] using this, by have := congrArg GIdentity.Seq hid; simpa [evId] using this⟩
    subst this
    have hso := hE.sorted
    rw [hp, List.pairwise_append, List.pairwise_cons] at hso
    rcases List.mem_append.1 he' with h | h
    · have := hso.2.2 e' h e' (by simp); rw [cmpSt_lt] at this; omega
    · have := hso.2.1.1 e' h; rw [cmpSt_lt] at this; omega
  have htime : ∀ e ∈ evL (·.Stamp) l, e.Stamp.Time ≤ 1000000 := by
    intro e he
    have := ((hE.mem e).1 he).2.1
    simp only [GStamp.good, Bool.and_eq_true, decide_eq_true_eq] at this
    omega
  obtain ⟨hs, h60, _⟩ := check_sort hd
  have key : ∀ (j k n : Nat), k + j = en.length → j < n → law16_AttendanceLast_L1 2000 (foldE en l 1000000) (evL (·.Stamp) l, 0) n (k : Int) = some true := by
    intro j
    induction j with
    | zero => intro k n hk hn; cases n with
      | zero => omega
      | succ n =>
        have d : decide ((k : Int) < ((foldE en l 1000000).1.length : Int)) = false := by rw [hA.len, decide_eq_false_iff_not]; omega
        simp only [law16_AttendanceLast_L1, law16_AttendanceLast_L1_B, d, Bool.false_eq_true, if_false, awake_s (Nat.le_refl 2000), Option.bind_some]
    | succ j ih => intro k n hk hn; cases n with
      | zero => omega
      | succ n =>
        have hkl : k < en.length := by omega
        have d : decide ((k : Int) < ((foldE en l 1000000).1.length : Int)) = true := by rw [hA.len, decide_eq_true_eq]; omega
        have hrec := ih (k + 1) n (by omega) (by omega)
        simp only [law16_AttendanceLast_L1, law16_AttendanceLast_L1_B, d, if_true]
        have hl := last_loop (F := 2000) (en := en) (u := 1000000) (C := evL (·.Stamp) l) (R := foldE en l 1000000) (k := k) (y := en[k]) (rec1 := law16_AttendanceLast_L1 2000 (foldE en l 1000000) (evL (·.Stamp) l, 0) n) (c0 := 0) hs (List.getElem?_eq_getElem hkl) hA (by omega) (by omega) (by omega) htime hdist (evL (·.Stamp) l) [] 2000 (en.map init) [] (init en[k]) rfl (by omega) (init_cands en) (by simp) hfe.symm (by simp [hkl]) (by simp [invA, init])
        have e0 : (init en[k]).State = 0 := rfl
        rw [e0] at hl
        refine Eq.trans hl ?_
        rw [nxtN (by omega)]
        exact hrec
  exact key en.length 0 2000 (by omega) (by omega)
/- Compares -/
def cmpA (p1 : List Int) (l : List GAttendance) : List Int × List Int :=
  ((l.filter fun x => (x.State == 1) && !p1.contains x.Candidate).map (·.Candidate), (l.filter fun x => !(x.State == 1) && p1.contains x.Candidate).map (·.Candidate))
theorem cmpA_cons (p1 : List Int) (x : GAttendance) (l : List GAttendance) : cmpA p1 (x :: l) = if ((x.State == 1) && !p1.contains x.Candidate) = true then (x.Candidate :: (cmpA p1 l).1, (cmpA p1 l).2) else if (!(x.State == 1) && p1.contains x.Candidate) = true then ((cmpA p1 l).1, x.Candidate :: (cmpA p1 l).2) else cmpA p1 l := by
  simp only [cmpA, List.filter_cons]
  cases hs : (x.State == 1) <;> cases hc : p1.contains x.Candidate <;> simp
theorem comp2_loop {p0 : List GAttendance} {p1 : List Int} {m : List (Int × Bool)} (hm : ∀ c, (mget m c).getD false = p1.contains c) (hb : p0.length < 1000000) : ∀ (s p : List GAttendance) (n : Nat) (a b : List Int), p0 = p ++ s → s.length < n → a.length ≤ p.length → b.length ≤ p.length →
    attendance_Compare_L2 p0 m n (p.length : Int) a b = some (a ++ (cmpA p1 s).1, b ++ (cmpA p1 s).2) := by
  intro s
  induction s with
  | nil => intro p n a b hp hn ha hb'; cases n with
    | zero => omega
    | succ n =>
      have : p0 = p := by simpa using hp
      subst this
      simp only [attendance_Compare_L2, attendance_Compare_L2_B, Int.lt_irrefl, decide_false, Bool.false_eq_true, if_false, cmpA]
      simp
  | cons x s ih => intro p n a b hp hn ha hb'; cases n with
    | zero => omega
    | succ n =>
      have hlen : p.length < 1000000 := by have := congrArg List.length hp; simp at this; omega
      have d1 : decide ((p.length : Int) < (p0.length : Int)) = true := by rw [hp]; exact dlt p x s
      have i1 : idx p0 (p.length : Int) = some x := by rw [hp]; exact idx_at p x s
      have hp' : p0 = (p ++ [x]) ++ s := by rw [hp]; simp
      simp only [attendance_Compare_L2, attendance_Compare_L2_B, d1, if_true, i1, Option.bind_some, hm]
      rw [nxt p x (by omega), cmpA_cons]
      split
      · rw [app_of (by simp; omega)]
        simp only [Option.bind_some]
        rw [ih (p ++ [x]) n _ b hp' (by simpa using hn) (by simp; omega) (by simp; omega)]
        simp
      · split
        · rw [app_of (by simp; omega)]
          simp only [Option.bind_some]
          rw [ih (p ++ [x]) n a _ hp' (by simpa using hn) (by simp; omega) (by simp; omega)]
          simp
        · exact ih (p ++ [x]) n a b hp' (by simpa using hn) (by simp; omega) (by simp; omega)
theorem comp1_loop {F : Nat} {p0 : List GAttendance} {p1 : List Int} (hb0 : p0.length < 1000000) (hF : p0.length < F) (hb : p1.length < 1000000) : ∀ (s p : List Int) (n : Nat) (m : List (Int × Bool)), p1 = p ++ s → s.length < n → (∀ c, (mget m c).getD false = p.contains c) →
    attendance_Compare_L1 F p0 p1 n (p.length : Int) m = some (cmpA p1 p0) := by
  intro s
  induction s with
  | nil => intro p n m hp hn hm; cases n with
    | zero => omega
    | succ n =>
      have : p1 = p := by simpa using hp
      subst this
      simp only [attendance_Compare_L1, attendance_Compare_L1_B, Int.lt_irrefl, decide_false, Bool.false_eq_true, if_false]
      have := comp2_loop hm hb0 p0 [] F [] [] rfl hF (by simp) (by simp)
      simpa using this
  | cons x s ih => intro p n m hp hn hm; cases n with
    | zero => omega
    | succ n =>
      have hlen : p.length < 1000000 := by have := congrArg List.length hp; simp at this; omega
      have d1 : decide ((p.length : Int) < (p1.length : Int)) = true := by rw [hp]; exact dlt p x s
      have i1 : idx p1 (p.length : Int) = some x := by rw [hp]; exact idx_at p x s
      simp only [attendance_Compare_L1, attendance_Compare_L1_B, d1, if_true, i1, Option.bind_some]
      rw [nxt p x (by omega)]
      refine ih (p ++ [x]) n _ (by rw [hp]; simp) (by simpa using hn) fun c => ?_
      rw [mget_mput]
      by_cases h : c = x
      · subst h; simp
      · rw [if_neg h, hm]
        simp [h]
theorem comp_s {F : Nat} {p0 : List GAttendance} {p1 : List Int} (hb0 : p0.length < 1000000) (hF0 : p0.length < F) (hb : p1.length < 1000000) (hF : p1.length < F) : attendance_Compare F p0 p1 = some (cmpA p1 p0) :=
  comp1_loop hb0 hF0 hb p1 [] F [] rfl hF (by simp [mget])
theorem has_loop (c : Int) : ∀ (s p : List Int) (n : Nat), (p ++ s).length < 1000000 → s.length < n → ref06_Has_L1 (p ++ s) c n (p.length : Int) = some (s.contains c) := by
  intro s
  induction s with
  | nil => intro p n hb hn; cases n with
    | zero => omega
    | succ n => simp only [ref06_Has_L1, ref06_Has_L1_B, dge, Bool.false_eq_true, if_false]; rfl
  | cons x s ih => intro p n hb hn; cases n with
    | zero => omega
    | succ n =>
      have hl : p.length < 1000000 := by simp at hb; omega
      have hrec := ih (p ++ [x]) n (by simpa using hb) (by simpa using hn)
      simp only [ref06_Has_L1, ref06_Has_L1_B, dlt, idx_at, if_true, Option.bind_some]
      rw [nxt p x (by omega)]
      rw [← snoc] at hrec
      rw [hrec]
      by_cases h : x = c
      · simp [h]
      · have h' : (x == c) = false := by simp [h]
        simp [h', h, Ne.symm h]
theorem has_s {F : Nat} {l : List Int} (c : Int) (hb : l.length < 1000000) (hF : l.length < F) : ref06_Has F l c = some (l.contains c) := by
  have := has_loop c l [] F (by simpa using hb) hF
  simpa [ref06_Has] using this
theorem rcomp_loop {F : Nat} {p0 : List GAttendance} {p1 : List Int} (hb : p0.length < 1000000) (hb1 : p1.length < 1000000) (hF1 : p1.length < F) : ∀ (s p : List GAttendance) (n : Nat) (a b : List Int), p0 = p ++ s → s.length < n → a.length ≤ p.length → b.length ≤ p.length →
    ref16_Compare_L1 F p0 p1 n (p.length : Int) a b = some (a ++ (cmpA p1 s).1, b ++ (cmpA p1 s).2) := by
  intro s
  induction s with
  | nil => intro p n a b hp hn ha hb'; cases n with
    | zero => omega
    | succ n =>
      have : p0 = p := by simpa using hp
      subst this
      simp only [ref16_Compare_L1, ref16_Compare_L1_B, Int.lt_irrefl, decide_false, Bool.false_eq_true, if_false, cmpA]
      simp
  | cons x s ih => intro p n a b hp hn ha hb'; cases n with
    | zero => omega
    | succ n =>
      have hlen : p.length < 1000000 := by have := congrArg List.length hp; simp at this; omega
      have d1 : decide ((p.length : Int) < (p0.length : Int)) = true := by rw [hp]; exact dlt p x s
      have i1 : idx p0 (p.length : Int) = some x := by rw [hp]; exact idx_at p x s
      have hp' : p0 = (p ++ [x]) ++ s := by rw [hp]; simp
      simp only [ref16_Compare_L1, ref16_Compare_L1_B, ref16_Compare_J2, d1, if_true, i1, Option.bind_some, has_s x.Candidate hb1 hF1]
      rw [nxt p x (by omega), cmpA_cons]
      have a1 : app a [x.Candidate] = some (a ++ [x.Candidate]) := app_of (by simp; omega)
      have b1 : app b [x.Candidate] = some (b ++ [x.Candidate]) := app_of (by simp; omega)
      have q1 := ih (p ++ [x]) n (a ++ [x.Candidate]) b hp' (by simpa using hn) (by simp; omega) (by simp; omega)
      have q2 := ih (p ++ [x]) n a (b ++ [x.Candidate]) hp' (by simpa using hn) (by simp; omega) (by simp; omega)
      have q3 := ih (p ++ [x]) n a b hp' (by simpa using hn) (by simp; omega) (by simp; omega)
      have hL : ((p ++ [x]).length : Int) = (p.length : Int) + 1 := by simp
      rw [hL] at q1 q2 q3
      by_cases hs : x.State = 1
      · cases hc : p1.contains x.Candidate with
        | true => simp [hs, q3]
        | false => simp [hs, a1, q1]
      · have hs' : (x.State == 1) = false := by simp [hs]
        have hs2 : (x.State != 1) = true := by simp [hs]
        cases hc : p1.contains x.Candidate with
        | true => simp [hs', hs2, b1, q2]
        | false => simp [hs', hs2, q3]
theorem rcomp_s {F : Nat} {p0 : List GAttendance} {p1 : List Int} (hb0 : p0.length < 1000000) (hF0 : p0.length < F) (hb : p1.length < 1000000) (hF : p1.length < F) : ref16_Compare F p0 p1 = some (cmpA p1 p0) := by
  have := rcomp_loop hb0 hb hF p0 [] F [] [] rfl hF0 (by simp) (by simp)
  simpa [ref16_Compare] using this
theorem pres_loop {p0 : List GAttendance} (hb : p0.length < 1000000) : ∀ (s p : List GAttendance) (n : Nat) (a : List Int), p0 = p ++ s → s.length < n → a.length ≤ p.length →
    attendance_Present_L1 p0 n (p.length : Int) a = some (a ++ (s.filter fun x => x.State == 1).map (·.Candidate)) ∧ ref16_Present_L1 p0 n (p.length : Int) a = some (a ++ (s.filter fun x => x.State == 1).map (·.Candidate)) := by
  intro s
  induction s with
  | nil => intro p n a hp hn ha; cases n with
    | zero => omega
    | succ n =>
      have : p0 = p := by simpa using hp
      subst this
      simp only [attendance_Present_L1, attendance_Present_L1_B, ref16_Present_L1, ref16_Present_L1_B, Int.lt_irrefl, decide_false, Bool.false_eq_true, if_false]
      simp
  | cons x s ih => intro p n a hp hn ha; cases n with
    | zero => omega
    | succ n =>
      have hlen : p.length < 1000000 := by have := congrArg List.length hp; simp at this; omega
      have d1 : decide ((p.length : Int) < (p0.length : Int)) = true := by rw [hp]; exact dlt p x s
      have i1 : idx p0 (p.length : Int) = some x := by rw [hp]; exact idx_at p x s
      have hp' : p0 = (p ++ [x]) ++ s := by rw [hp]; simp
      simp only [attendance_Present_L1, attendance_Present_L1_B, ref16_Present_L1, ref16_Present_L1_B, d1, if_true, i1, Option.bind_some]
      rw [nxt p x (by omega), List.filter_cons]
      cases hs : (x.State == 1) with
      | true =>
        simp only [if_true]
        rw [app_of (by simp; omega)]
        simp only [Option.bind_some]
        have := ih (p ++ [x]) n (a ++ [x.Candidate]) hp' (by simpa using hn) (by simp; omega)
        simpa using this
      | false =>
        simp only [Bool.false_eq_true, if_false]
        exact ih (p ++ [x]) n a hp' (by simpa using hn) (by simp; omega)
theorem pres_s {F : Nat} {p0 : List GAttendance} (hb : p0.length < 1000000) (hF : p0.length < F) : attendance_Present F p0 = some ((p0.filter fun x => x.State == 1).map (·.Candidate)) ∧ ref16_Present F p0 = some ((p0.filter fun x => x.State == 1).map (·.Candidate)) := by
  have := pres_loop hb p0 [] F [] rfl hF (by simp)
  simpa [attendance_Present, ref16_Present] using this
theorem tints_s {F : Nat} {t : GTape} (h : Tp t) (most : Nat) (a b : Int) (ha : -1000 ≤ a) (hab : a ≤ b) (hb : b ≤ 100000000) (hm : most ≤ 100) (hF : most < F) : ∃ l t', GTape_Ints F t most a b = some (l, t') ∧ Tp t' ∧ l.length ≤ most := by
  have key : ∀ n (k : Int) (L : List Int) (A : Int) (l : List Int), (0 ≤ k ∧ (l.length : Int) + k ≤ most ∧ Tp (GTape.mk L A)) → k.toNat < n → ∃ r, GTape_Ints_L1 a b n k L A l = some r ∧ (Tp r.2 ∧ r.1.length ≤ most) := by
    refine loop4 (L := GTape_Ints_L1 a b) (B := GTape_Ints_L1_B a b) (fun _ => rfl) _ (fun (k : Int) (_ : List Int) (_ : Int) (_ : List Int) => k.toNat) _ ?_
    rintro rec k L A l ⟨hk, hl, ht⟩ hrec
    unfold GTape_Ints_L1_B
    by_cases hk0 : k > 0
    · obtain ⟨x, t1, a1, a2, _⟩ := range_s ht a b ha hab hb
      simp only [hk0, decide_true, if_true, a1, Option.bind_some]
      rw [app_of (by simp; omega), i64_of (by omega) (by omega)]
      simp only [Option.bind_some]
      exact hrec _ _ _ _ ⟨by omega, by simp; omega, a2⟩ (by omega)
    · simp only [hk0, decide_false, Bool.false_eq_true, if_false]
      exact ⟨_, rfl, ht, by simp only; omega⟩
  obtain ⟨x, t1, a1, a2, a3, a4⟩ := range_s h 0 most (by omega) (by omega) (by omega)
  obtain ⟨⟨l, t'⟩, h1, h2, h3⟩ := key F x t1.L t1.At [] ⟨a3, by simp; omega, a2⟩ (by omega)
  exact ⟨l, t', by simp only [GTape_Ints, a1, Option.bind_some]; exact h1, h2, h3⟩
theorem cmpA_len (p1 : List Int) (l : List GAttendance) : (cmpA p1 l).1.length ≤ l.length ∧ (cmpA p1 l).2.length ≤ l.length := by
  simp only [cmpA, List.length_map]
  exact ⟨List.length_filter_le _ _, List.length_filter_le _ _⟩
theorem law_AttendanceCompares (p0 : List GAttendance) (p1 p2 : List Int) : ∃ F, law16_AttendanceCompares F p0 p1 p2 = some true := by
  refine ⟨2000, ?_⟩
  unfold law16_AttendanceCompares
  by_cases hbig : p0.length > 30 ∨ p1.length > 60
  · have : ((decide ((p0.length : Int) > 30)) || (decide ((p1.length : Int) > 60))) = true := by simp; omega
    simp [this]
  · have hbig' : ((decide ((p0.length : Int) > 30)) || (decide ((p1.length : Int) > 60))) = false := by
      simp only [Bool.or_eq_false_iff, decide_eq_false_iff_not]; omega
    simp only [hbig', Bool.false_eq_true, if_false]
    obtain ⟨t0, a1, a2⟩ := new_s p2
    obtain ⟨en, t1, b1, b2, b3, _⟩ := enrolled_s (F := 2000) a2 0 (by omega) (by omega)
    obtain ⟨l, t2, c1, c2, c3⟩ := regEvents_s (F := 2000) b2 10 0 (by omega) (by omega) (by omega)
    obtain ⟨is, t3, d1, d2, d3⟩ := tints_s (F := 2000) c2 6 0 5 (by omega) (by omega) (by omega) (by omega) (by omega)
    obtain ⟨q1, q2⟩ := foldE_len (l := en) (ev := l) (u := 30)
    rw [a1]; simp only [Option.bind_some]
    rw [b1]; simp only [Option.bind_some]
    rw [show (10 : Int) = ((10 : Nat) : Int) from rfl, c1]; simp only [Option.bind_some]
    rw [rfold_s (Nat.le_refl 2000) (by omega) (by omega)]; simp only [Option.bind_some]
    rw [show (6 : Int) = ((6 : Nat) : Int) from rfl, d1]; simp only [Option.bind_some]
    rw [comp_s (by omega) (by omega) (by omega) (by omega)]; simp only [Option.bind_some]
    rw [rcomp_s (by omega) (by omega) (by omega) (by omega)]; simp only [Option.bind_some]
    rw [comp_s (by omega) (by omega) (by omega) (by omega)]; simp only [Option.bind_some]
    rw [rcomp_s (by omega) (by omega) (by omega) (by omega)]; simp only [Option.bind_some]
    obtain ⟨w1, w2⟩ := cmpA_len p1 p0
    obtain ⟨w3, w4⟩ := cmpA_len is (foldE en l 30).1
    obtain ⟨v1, v2⟩ := pres_s (F := 2000) (p0 := p0) (by omega) (by omega)
    obtain ⟨v3, v4⟩ := pres_s (F := 2000) (p0 := (foldE en l 30).1) (by omega) (by omega)
    have f1 : ((p0.filter fun x => x.State == 1).map (·.Candidate)).length ≤ p0.length := by rw [List.length_map]; exact List.length_filter_le _ _
    have f2 : (((foldE en l 30).1.filter fun x => x.State == 1).map (·.Candidate)).length ≤ (foldE en l 30).1.length := by rw [List.length_map]; exact List.length_filter_le _ _
    rw [ints_s (by omega) (by omega), ints_s (by omega) (by omega), ints_s (by omega) (by omega), ints_s (by omega) (by omega)]
    simp only [Option.bind_some, if_true, v1, v2, v3, v4]
    rw [ints_s (by omega) (by omega), ints_s (by omega) (by omega)]
    simp only [Option.bind_some, if_true, awake_s (Nat.le_refl 2000)]
end Go.Sh
