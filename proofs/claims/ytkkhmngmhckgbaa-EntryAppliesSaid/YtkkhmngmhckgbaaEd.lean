/- Plain laws of chapter 13, part 4: the events that a law draws; the laws. -/
import Derived.Test.YtkkhmngmhckgbaaEc
import Derived.Test.YtkkhmngmhckgbaaQi
set_option linter.unusedVariables false
set_option linter.unusedSimpArgs false
namespace Go.Sh
open Go.L

section
variable {R : Type} {rec1 : Int → List Int → Int → List GEntryEvent → Option (List GEntryEvent × GTape)} {n2 : Int} {l5 : List GEntryEvent} {Post : List GEntryEvent × GTape → Prop}
theorem evJ4 (hl : l5.length ≤ 1000) (h : ∀ v t', Tp t' → v.length ≤ l5.length + 2 → ∃ r, rec1 (i64 (n2 - 1)) t'.L t'.At v = some r ∧ Post r) {a b c d e f g i : Int} {L : List Int} {A : Int} (ht : Tp (GTape.mk L A)) :
    ∃ r, GTape_EntryEvents_J4 rec1 n2 l5 a b c d e f g i L A = some r ∧ Post r := by
  unfold GTape_EntryEvents_J4
  rw [app_of (by simp; omega)]
  simp only [Option.bind_some]
  obtain ⟨x, t1, h1, h2⟩ := one_s ht 8 (by omega)
  simp only [h1, Option.bind_some]
  cases x with
  | false => exact h _ t1 h2 (by simp)
  | true =>
    simp only [if_true]
    obtain ⟨y, t2, h3, h4, h5, h6, _⟩ := next_s h2 ((l5 ++ [GEntryEvent.mk (GStamp.mk a b c) d (GEntry.mk e f g) i]).length : Int) (by simp; omega)
    have hy := h6 (by simp; omega)
    rw [h3]
    simp only [Option.bind_some]
    have hix : idx (l5 ++ [GEntryEvent.mk (GStamp.mk a b c) d (GEntry.mk e f g) i]) y = some (l5 ++ [GEntryEvent.mk (GStamp.mk a b c) d (GEntry.mk e f g) i])[y.toNat] := by
      rw [idx_some]; exact ⟨h5, by simp⟩
    rw [hix]
    simp only [Option.bind_some]
    rw [app_of (by simp; omega)]
    simp only [Option.bind_some]
    exact h _ t2 h4 (by simp)
theorem evJ3 {p2 : Int} (hp : p2 ≤ 1000000) (hl : l5.length ≤ 1000) (h : ∀ v t', Tp t' → v.length ≤ l5.length + 2 → ∃ r, rec1 (i64 (n2 - 1)) t'.L t'.At v = some r ∧ Post r) {r7 r8 r9 r10 r11 : Int × GTape} {n14 n17 : Int} {L : List Int} {A : Int} (ht : Tp (GTape.mk L A)) :
    ∃ r, GTape_EntryEvents_J3 rec1 p2 n2 l5 r7 r8 r9 r10 r11 n14 L A n17 = some r ∧ Post r := by
  unfold GTape_EntryEvents_J3
  have key : ∃ (b : Bool) (L' : List Int) (A' : Int), (if (decide (p2 > 0)) = true then (GTape_One (GTape.mk L A) p2).bind fun r39 => some (r39.1, r39.2.L, r39.2.At) else some (false, L, A)) = some (b, L', A') ∧ Tp (GTape.mk L' A') := by
    by_cases hp0 : p2 > 0
    · obtain ⟨x, t1, h1, h2⟩ := one_s ht p2 (by omega)
      exact ⟨x, t1.L, t1.At, by simp only [hp0, decide_true, if_true, h1, Option.bind_some], h2⟩
    · exact ⟨false, L, A, by simp [hp0], ht⟩
  obtain ⟨b, L', A', h1, h2⟩ := key
  rw [h1]
  simp only [Option.bind_some]
  cases b with
  | false => exact evJ4 hl h h2
  | true =>
    simp only [if_true]
    obtain ⟨y, t2, h3, h4, _⟩ := next_s h2 6 (by omega)
    simp only [h3, Option.bind_some]
    by_cases y0 : y = 0
    · obtain ⟨z, t3, h5, h6, _⟩ := range_s h4 (-1) 4 (by omega) (by omega) (by omega)
      simp only [y0, beq_self_eq_true, if_true, h5, Option.bind_some]
      exact evJ4 hl h (tp_mk h6)
    · by_cases y1 : y = 1
      · obtain ⟨z, t3, h5, h6⟩ := wild_s h4
        simp only [y1, show ((1 : Int) == 0) = false from rfl, Bool.false_eq_true, if_false, beq_self_eq_true, if_true, h5, Option.bind_some]
        exact evJ4 hl h (tp_mk h6)
      · by_cases y2 : y = 2
        · obtain ⟨z, t3, h5, h6, _⟩ := pick_s h4 [0, 1, 99, 100] (by simp) (by simp)
          simp only [y2, show ((2 : Int) == 0) = false from rfl, show ((2 : Int) == 1) = false from rfl, Bool.false_eq_true, if_false, beq_self_eq_true, if_true, h5, Option.bind_some]
          exact evJ4 hl h (tp_mk h6)
        · by_cases y3 : y = 3
          · obtain ⟨z, t3, h5, h6, _⟩ := pick_s h4 [-1, 31, 32] (by simp) (by simp)
            simp only [y3, show ((3 : Int) == 0) = false from rfl, show ((3 : Int) == 1) = false from rfl, show ((3 : Int) == 2) = false from rfl, Bool.false_eq_true, if_false, beq_self_eq_true, if_true, h5, Option.bind_some]
            exact evJ4 hl h (tp_mk h6)
          · by_cases y4 : y = 4
            · obtain ⟨z, t3, h5, h6⟩ := tstamp_s h4 4 (by omega)
              simp only [y4, show ((4 : Int) == 0) = false from rfl, show ((4 : Int) == 1) = false from rfl, show ((4 : Int) == 2) = false from rfl, show ((4 : Int) == 3) = false from rfl, Bool.false_eq_true, if_false, beq_self_eq_true, if_true, h5, Option.bind_some]
              exact evJ4 hl h (tp_mk h6)
            · obtain ⟨z, t3, h5, h6, _⟩ := pick_s h4 [0, 99, 100, r7.1] (by simp) (by simp)
              have b0 : (y == 0) = false := by simp [y0]
              have b1 : (y == 1) = false := by simp [y1]
              have b2 : (y == 2) = false := by simp [y2]
              have b3 : (y == 3) = false := by simp [y3]
              have b4 : (y == 4) = false := by simp [y4]
              simp only [b0, b1, b2, b3, b4, Bool.false_eq_true, if_false, h5, Option.bind_some]
              exact evJ4 hl h (tp_mk h6)
theorem evJ2 {p2 : Int} (hp : p2 ≤ 1000000) (hl : l5.length ≤ 1000) (h : ∀ v t', Tp t' → v.length ≤ l5.length + 2 → ∃ r, rec1 (i64 (n2 - 1)) t'.L t'.At v = some r ∧ Post r) {r7 r8 r9 r10 r11 : Int × GTape} {n14 : Int} {L : List Int} {A : Int} (ht : Tp (GTape.mk L A)) :
    ∃ r, GTape_EntryEvents_J2 rec1 p2 n2 l5 r7 r8 r9 r10 r11 L A n14 = some r ∧ Post r := by
  unfold GTape_EntryEvents_J2
  by_cases hk : r9.1 = 3
  · obtain ⟨y, t2, h3, h4, _⟩ := next_s ht 2 (by omega)
    obtain ⟨z, h5, _⟩ := cut_s (i64 (r7.1 + y)) 3 (by omega)
    simp only [hk, beq_self_eq_true, if_true, h3, h5, Option.bind_some]
    exact evJ3 hp hl h (tp_mk h4)
  · have : (r9.1 == 3) = false := by simp [hk]
    simp only [this, Bool.false_eq_true, if_false]
    exact evJ3 hp hl h ht
end
theorem entryEvents_s {F : Nat} {t : GTape} (h : Tp t) (most : Nat) (p : Int) (hp : p ≤ 1000000) (hm : most ≤ 100) (hF : most < F) : ∃ l t', GTape_EntryEvents F t most p = some (l, t') ∧ Tp t' ∧ l.length ≤ 2 * most := by
  have key : ∀ n (k : Int) (L : List Int) (A : Int) (l : List GEntryEvent), (0 ≤ k ∧ (l.length : Int) + 2 * k ≤ 2 * most ∧ Tp (GTape.mk L A)) → k.toNat < n → ∃ r, GTape_EntryEvents_L1 p n k L A l = some r ∧ (Tp r.2 ∧ r.1.length ≤ 2 * most) := by
    refine loop4 (L := GTape_EntryEvents_L1 p) (B := GTape_EntryEvents_L1_B p) (fun _ => rfl) _ (fun (k : Int) (_ : List Int) (_ : Int) (_ : List GEntryEvent) => k.toNat) _ ?_
    rintro rec k L A l ⟨hk, hl, ht⟩ hrec
    unfold GTape_EntryEvents_L1_B
    by_cases hk0 : k > 0
    · obtain ⟨a, t1, a1, a2, _⟩ := range_s ht 1 3 (by omega) (by omega) (by omega)
      obtain ⟨b, t2, b1, b2, _⟩ := range_s a2 0 24 (by omega) (by omega) (by omega)
      obtain ⟨c, t3, c1, c2, _⟩ := pick_s b2 [1, 1, 1, 2, 3] (by simp) (by simp)
      obtain ⟨d, t4, d1, d2, _⟩ := next_s c2 4 (by omega)
      obtain ⟨e, t5, e1, e2, _⟩ := next_s d2 2 (by omega)
      obtain ⟨f, t6, f1, f2⟩ := one_s e2 6 (by omega)
      simp only [hk0, decide_true, if_true, a1, b1, c1, d1, e1, f1, Option.bind_some]
      have hgo : ∀ v t', Tp t' → v.length ≤ l.length + 2 → ∃ r, rec (i64 (k - 1)) t'.L t'.At v = some r ∧ (Tp r.2 ∧ r.1.length ≤ 2 * most) := fun v t' h1 h2 => by
        rw [i64_of (by omega) (by omega)]
        exact hrec _ _ _ _ ⟨by omega, by omega, h1⟩ (by omega)
      cases f with
      | true => exact evJ2 hp (by omega) hgo (tp_mk f2)
      | false => exact evJ2 hp (by omega) hgo (tp_mk f2)
    · simp only [hk0, decide_false, Bool.false_eq_true, if_false]
      exact ⟨_, rfl, ht, by simp only; omega⟩
  obtain ⟨a, t1, a1, a2, a3, a4⟩ := range_s h 0 most (by omega) (by omega) (by omega)
  obtain ⟨⟨l, t'⟩, h1, h2, h3⟩ := key F a t1.L t1.At [] ⟨a3, by simp; omega, a2⟩ (by omega)
  exact ⟨l, t', by simp only [GTape_EntryEvents, a1, Option.bind_some]; exact h1, h2, h3⟩
theorem deadlines_s {t : GTape} (h : Tp t) (p : Int) (hp : p ≤ 1000000) : ∃ d t', GTape_Deadlines t p = some (d, t') ∧ Tp t' ∧ (p = 0 → dOk d = true ∧ 4 ≤ d.Close ∧ d.Late ≤ 24) := by
  unfold GTape_Deadlines
  obtain ⟨a, t1, a1, a2, a3, a4⟩ := range_s h 4 14 (by omega) (by omega) (by omega)
  obtain ⟨b, t2, b1, b2, b3, b4, _⟩ := next_s a2 10 (by omega)
  have b5 := b4 (by omega)
  simp only [a1, b1, Option.bind_some]
  have key : ∃ (c : Bool) (L' : List Int) (A' : Int), (if (decide (p > 0)) = true then (GTape_One t2 p).bind fun r8 => some (r8.1, r8.2.L, r8.2.At) else some (false, t2.L, t2.At)) = some (c, L', A') ∧ Tp (GTape.mk L' A') ∧ (p = 0 → c = false) := by
    by_cases hp0 : p > 0
    · obtain ⟨x, t1, h1, h2⟩ := one_s b2 p (by omega)
      exact ⟨x, t1.L, t1.At, by simp only [hp0, decide_true, if_true, h1, Option.bind_some], h2, by omega⟩
    · exact ⟨false, t2.L, t2.At, by simp [hp0], b2, fun _ => rfl⟩
  obtain ⟨c, L', A', h1, h2, h3⟩ := key
  rw [h1]
  simp only [Option.bind_some]
  cases c with
  | true =>
    obtain ⟨x, t3, c1, c2⟩ := wild_s h2
    obtain ⟨y, t4, d1, d2⟩ := wild_s c2
    simp only [if_true, c1, d1, Option.bind_some]
    exact ⟨_, _, rfl, d2, fun h => by have := h3 h; cases this⟩
  | false =>
    simp only [Bool.false_eq_true, if_false]
    rw [i64_of (by omega) (by omega)]
    refine ⟨_, _, rfl, h2, fun _ => ⟨?_, by simp only; omega, by simp only; omega⟩⟩
    unfold dOk; simp only [Bool.and_eq_true, decide_eq_true_eq]; omega
/- the laws -/
theorem law_EntryCanonical (t : List Int) : ∃ F, law13_EntryCanonical F t = some true := by
  refine ⟨2000, ?_⟩
  obtain ⟨t0, a1, a2⟩ := new_s t
  obtain ⟨l, t1, b1, b2, b3⟩ := entryEvents_s (F := 2000) a2 12 4 (by omega) (by omega) (by omega)
  have hle := canonEv_le (fun x : GEntryEvent => x.Stamp) l
  unfold law13_EntryCanonical
  rw [a1]; simp only [Option.bind_some]
  rw [show (12 : Int) = ((12 : Nat) : Int) from rfl, b1]; simp only [Option.bind_some]
  rw [canonicalP_s (by omega) (by omega) (by omega)]; simp only [Option.bind_some]
  rw [canonicalR_s (by omega) (by omega)]; simp only [Option.bind_some, bne_self_eq_false, Bool.or_self, Bool.false_eq_true, if_false]
  revert hle
  generalize canonEv (fun x : GEntryEvent => x.Stamp) l = ce
  intro hle
  have key : ∀ (s p : List GEntryEvent) (n : Nat), ce.1 = p ++ s → s.length < n → law13_EntryCanonical_L1 2000 (l, t1) ce ce n (p.length : Int) = some true := by
    intro s
    induction s with
    | nil => intro p n hp hn; cases n with
      | zero => omega
      | succ n =>
        have : ce.1 = p := by simpa using hp
        rw [← this]
        simp only [law13_EntryCanonical_L1, law13_EntryCanonical_L1_B, Int.lt_irrefl, decide_false, Bool.false_eq_true, if_false]
        by_cases h0 : l.length > 0
        · have h0' : decide ((l.length : Int) > 0) = true := by simp; omega
          obtain ⟨x, t2, c1, c2, c3, c4, _⟩ := next_s b2 (l.length : Int) (by omega)
          have c5 := c4 (by omega)
          obtain ⟨y, t3, d1, d2, d3, d4, _⟩ := next_s c2 (l.length : Int) (by omega)
          have d5 := d4 (by omega)
          have i1 : idx l x = some l[x.toNat] := by rw [idx_some]; exact ⟨c3, by simp⟩
          have i2 : idx l y = some l[y.toNat] := by rw [idx_some]; exact ⟨d3, by simp⟩
          simp only [h0', if_true, c1, d1, i1, i2, Option.bind_some, entry_Same, beq_self_eq_true, decide_true, eawake_s (Nat.le_refl 2000)]
        · have h0' : decide ((l.length : Int) > 0) = false := by rw [decide_eq_false_iff_not]; omega
          simp only [h0', Bool.false_eq_true, if_false, eawake_s (Nat.le_refl 2000), Option.bind_some]
    | cons e s ih => intro p n hp hn; cases n with
      | zero => omega
      | succ n =>
        have hlen : p.length < 1000000 := by have := congrArg List.length hp; simp at this; omega
        have d1 : decide ((p.length : Int) < (ce.1.length : Int)) = true := by rw [hp]; exact dlt p e s
        have i1 : idx ce.1 (p.length : Int) = some e := by rw [hp]; exact idx_at p e s
        simp only [law13_EntryCanonical_L1, law13_EntryCanonical_L1_B, d1, if_true, i1, Option.bind_some, decide_true, Bool.not_true, Bool.false_eq_true, if_false]
        rw [nxt p e (by omega)]
        exact ih (p ++ [e]) n (by rw [hp]; simp) (by simpa using hn)
  exact key ce.1 [] 2000 rfl (by omega)
theorem law_EntryFolds (t : List Int) (u : Int) : ∃ F, law13_EntryFolds F t u = some true := by
  refine ⟨2000, ?_⟩
  obtain ⟨t0, a1, a2⟩ := new_s t
  obtain ⟨d, t1, b1, b2, _⟩ := deadlines_s a2 12 (by omega)
  obtain ⟨l, t2, c1, c2, c3⟩ := entryEvents_s (F := 2000) b2 14 5 (by omega) (by omega) (by omega)
  obtain ⟨k, t3, d1, _⟩ := range_s c2 0 30 (by omega) (by omega) (by omega)
  unfold law13_EntryFolds
  have q : ∀ u, (foldE l d u).1.length ≤ 300 := fun u => (foldE_vl (l := l) (d := d) (u := u)).len
  have q' : ∀ u, (foldE l d u).2.1.length ≤ 28 := fun u => by have := foldE_refs (l := l) (d := d) (u := u); omega
  have q1 := q u; have q2 := q k; have q3 := q' u; have q4 := q' k
  rw [a1]; simp only [Option.bind_some]
  rw [b1]; simp only [Option.bind_some]
  rw [show (14 : Int) = ((14 : Nat) : Int) from rfl, c1]; simp only [Option.bind_some]
  rw [d1]; simp only [Option.bind_some]
  rw [efold_s (Nat.le_refl 2000) (by omega), rfold_s (Nat.le_refl 2000) (by omega), efold_s (Nat.le_refl 2000) (by omega), rfold_s (Nat.le_refl 2000) (by omega)]
  simp only [Option.bind_some]
  rw [same_s (by omega) (by omega), same_s (by omega) (by omega), refs_s (by omega) (by omega), refs_s (by omega) (by omega)]
  simp only [Option.bind_some, if_true, beq_self_eq_true, eawake_s (Nat.le_refl 2000)]
theorem law_EntryAnyOrder (t : List Int) : ∃ F, law13_EntryAnyOrder F t = some true := by
  refine ⟨2000, ?_⟩
  obtain ⟨t0, a1, a2⟩ := new_s t
  obtain ⟨d, t1, b1, b2, b3⟩ := deadlines_s a2 0 (by omega)
  obtain ⟨l, t2, c1, c2, c3⟩ := entryEvents_s (F := 2000) b2 10 8 (by omega) (by omega) (by omega)
  obtain ⟨o, t3, d1, d2, d3, d4⟩ := mixed_s (F := 2000) c2 (m := l.length) (by omega) (by omega) (by omega)
  have hd := (b3 rfl).1
  unfold law13_EntryAnyOrder
  rw [a1]; simp only [Option.bind_some]
  rw [b1]; simp only [Option.bind_some]
  rw [show (10 : Int) = ((10 : Nat) : Int) from rfl, c1]; simp only [Option.bind_some]
  rw [d1]; simp only [Option.bind_some]
  have key : ∀ (s p : List Int) (n : Nat), o = p ++ s → s.length < n → law13_EntryAnyOrder_L1 2000 (d, t1) (l, t2) (o, t3) n (p.length : Int) (pickL l p) = some true := by
    intro s
    induction s with
    | nil => intro p n hp hn; cases n with
      | zero => omega
      | succ n =>
        have : o = p := by simpa using hp
        subst this
        have hpl : (pickL l o).length = o.length := pickL_len fun i hi => by have := (d4 i).1 hi; omega
        have hmem : ∀ e, e ∈ pickL l o ↔ e ∈ l := fun e => by
          simp only [pickL, List.mem_filterMap]
          constructor
          · rintro ⟨i, _, hi⟩; exact List.mem_of_getElem? hi
          · intro he
            obtain ⟨i, hi⟩ := List.getElem?_of_mem he
            have hil := (List.getElem?_eq_some_iff.1 hi).1
            exact ⟨(i : Int), (d4 _).2 ⟨by omega, by omega⟩, by simpa using hi⟩
        have hfe : foldE (pickL l o) d 1000000 = foldE l d 1000000 := by unfold foldE; rw [canonEv_congr hmem]
        have hcode : (foldE l d 1000000).2.2 = 0 := by rw [foldE_small (by omega) hd]; exact foldS_code
        have q1 : (foldE l d 1000000).1.length ≤ 300 := foldE_vl.len
        have q2 := foldE_refs (l := l) (d := d) (u := 1000000)
        simp only [law13_EntryAnyOrder_L1, law13_EntryAnyOrder_L1_B, Int.lt_irrefl, decide_false, Bool.false_eq_true, if_false]
        rw [efold_s (Nat.le_refl 2000) (by omega), efold_s (Nat.le_refl 2000) (by omega), hfe]
        simp only [Option.bind_some, hcode, beq_self_eq_true, if_true]
        rw [same_s (by omega) (by omega), refs_s (by omega) (by omega)]
        simp only [Option.bind_some, if_true, eawake_s (Nat.le_refl 2000)]
    | cons x s ih => intro p n hp hn; cases n with
      | zero => omega
      | succ n =>
        have hpl := pickL_len (l := l) (a := p) fun i hi => by have := (d4 i).1 (by rw [hp]; simp [hi]); omega
        have hlen : p.length < 1000000 := by have := congrArg List.length hp; simp at this; omega
        have hx := (d4 x).1 (by rw [hp]; simp)
        have hxl : x.toNat < l.length := by omega
        have e1 : decide ((p.length : Int) < (o.length : Int)) = true := by rw [hp]; exact dlt p x s
        have i1 : idx o (p.length : Int) = some x := by rw [hp]; exact idx_at p x s
        have i2 : idx l x = some l[x.toNat] := by rw [idx_some]; exact ⟨hx.1, by simp [hxl]⟩
        simp only [law13_EntryAnyOrder_L1, law13_EntryAnyOrder_L1_B, e1, if_true, i1, i2, Option.bind_some]
        rw [app_of (by simp; omega), nxt p x (by omega)]
        simp only [Option.bind_some]
        have e2 : pickL l p ++ [l[x.toNat]] = pickL l (p ++ [x]) := by simp [pickL, hxl]
        rw [e2]
        exact ih (p ++ [x]) n (by rw [hp]; simp) (by simpa using hn)
  exact key o [] 2000 rfl (by omega)
end Go.Sh
