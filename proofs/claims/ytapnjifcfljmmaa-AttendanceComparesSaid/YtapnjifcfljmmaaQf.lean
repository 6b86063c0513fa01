/- Plain laws, part 6: the counting events as a function; the tape; the events that a law draws. -/
import Derived.Test.YtapnjifcfljmmaaQe
set_option linter.unusedVariables false
set_option linter.unusedSimpArgs false
namespace Go.Sh
open Go.L

def okB (l : List GStamp) (i : Nat) : Bool := match l[i]? with | some x => x.good | .none => false
theorem okB_iff {l : List GStamp} {i : Nat} : okB l i = true ↔ okAt l i := by
  unfold okB okAt; cases l[i]? <;> simp
def dispB (l : List GStamp) (cl : List Int) (i k : Nat) : Bool := match l[i]?, l[k]?, cl[i]?, cl[k]? with
  | some x, some y, some c, some d => decide (x.Source = y.Source) && decide (x.Seq = y.Seq) && (decide (x.Time ≠ y.Time) || decide (c ≠ d))
  | _, _, _, _ => false
theorem dispB_iff {l : List GStamp} {cl : List Int} {i k : Nat} : dispB l cl i k = true ↔ disp l cl i k := by
  unfold dispB disp sid
  cases l[i]? with
  | none => simp
  | some x => cases l[k]? with
    | none => simp
    | some y => cases cl[i]? with
      | none => simp
      | some c => cases cl[k]? with
        | none => simp
        | some d => simp [and_assoc]
def countsB (l : List GStamp) (cl : List Int) (i : Nat) : Bool := okB l i && (List.range l.length).all fun k => !okB l k || (!dispB l cl i k && (!decide (k < i) || decide (l[k]? ≠ l[i]?)))
theorem countsB_iff {l : List GStamp} {cl : List Int} {i : Nat} : countsB l cl i = true ↔ counts l cl i := by
  unfold countsB counts
  simp only [Bool.and_eq_true, okB_iff, List.all_eq_true, List.mem_range, Bool.or_eq_true, Bool.not_eq_true', decide_eq_true_eq, decide_eq_false_iff_not]
  constructor
  · rintro ⟨h1, h2⟩
    refine ⟨h1, fun k hk => ?_⟩
    have hkl : k < l.length := by
      by_cases h : k < l.length
      · exact h
      · exact absurd hk (okAt_ge (by omega))
    rcases h2 k hkl with h | ⟨h3, h4⟩
    · have := okB_iff.2 hk; rw [h] at this; cases this
    · refine ⟨fun h => ?_, fun h => h4.resolve_left (by omega)⟩
      have := dispB_iff.2 h; rw [h3] at this; cases this
  · rintro ⟨h1, h2⟩
    refine ⟨h1, fun k hk => ?_⟩
    cases hok : okB l k with
    | false => exact .inl rfl
    | true =>
      right
      have := h2 k (okB_iff.1 hok)
      refine ⟨?_, ?_⟩
      · cases hd : dispB l cl i k with
        | false => rfl
        | true => exact absurd (dispB_iff.1 hd) this.1
      · by_cases h : k < i
        · exact .inr (this.2 h)
        · exact .inl h
def ltB (l : List GStamp) (a b : Int) : Bool := match l[a.toNat]?, l[b.toNat]? with
  | some x, some y => decide (cmpSt x y < 0)
  | _, _ => false
theorem ltB_iff {l : List GStamp} {a b : Int} : ltB l a b = true ↔ ltAt l a b := by
  unfold ltB ltAt
  cases l[a.toNat]? with
  | none => simp
  | some x => cases l[b.toNat]? with
    | none => simp
    | some y => simp
def canonL (l : List GStamp) (cl : List Int) : List Int := isort (ltB l) (((List.range l.length).filter (countsB l cl)).map Int.ofNat)
theorem canonL_is (l : List GStamp) (cl : List Int) : IsCanon l cl (canonL l cl) := by
  have hmem : ∀ i, i ∈ ((List.range l.length).filter (countsB l cl)).map Int.ofNat ↔ 0 ≤ i ∧ counts l cl i.toNat := fun i => by
    simp only [List.mem_map, List.mem_filter, List.mem_range, countsB_iff]
    constructor
    · rintro ⟨k, ⟨h1, h2⟩, rfl⟩; exact ⟨by simp, by simpa using h2⟩
    · rintro ⟨h1, h2⟩; exact ⟨i.toNat, ⟨counts_lt h2, h2⟩, by simp; omega⟩
  constructor
  · have := sorted_isort (lt := ltB l) (l := ((List.range l.length).filter (countsB l cl)).map Int.ofNat) (fun a _ b _ c _ h1 h2 => by rw [ltB_iff] at *; exact ltAt_trans l a b c h1 h2) (by
      rw [List.pairwise_map]
      refine List.Pairwise.imp_of_mem (fun {a b} ha hb hab => ?_) ((List.pairwise_lt_range (n := l.length)).filter _)
      rw [ltB_iff, ltB_iff]
      simp only [List.mem_filter, countsB_iff] at ha hb
      exact counts_tot ha.2 hb.2 (by omega))
    exact this.imp fun h => ltB_iff.1 h
  · intro i
    rw [canonL, perm_isort.mem_iff]; exact hmem i
def canonS (l : List GStamp) (cl : List Int) : List Int × Int := if l.length ≠ cl.length then ([], 1) else if 300 < (canonL l cl).length then ([], 3) else (canonL l cl, 0)
theorem canonS_is (l : List GStamp) (cl : List Int) : Canon l cl (canonS l cl) := by
  unfold Canon canonS
  split
  · rfl
  · exact ⟨canonL l cl, canonL_is l cl, rfl⟩
theorem canonical_e {F : Nat} (hF : 10 ≤ F) {l : List GStamp} {cl : List Int} (hb : l.length < 1000000) (hFl : l.length < F) : stamp_Canonical F l cl = some (canonS l cl) := by
  obtain ⟨r, h1, h2⟩ := canonical_s hF (cl := cl) hb hFl
  rw [h1, h2.unique (canonS_is l cl)]
theorem refCanonical_e {F : Nat} {l : List GStamp} {cl : List Int} (hb : l.length < 1000000) (hFl : l.length < F) : ref02_Canonical F l cl = some (canonS l cl) := by
  obtain ⟨r, h1, h2⟩ := refCanonical_s (cl := cl) hb hFl
  rw [h1, h2.unique (canonS_is l cl)]
/- the tape -/
structure Tp (t : GTape) : Prop where
  len : t.L.length ≤ 600
  lo : 0 ≤ t.At
  hi : t.At ≤ 600
theorem new_s (l : List Int) : ∃ t, make_New l = some t ∧ Tp t := by
  unfold make_New
  by_cases h : (l.length : Int) > 600
  · simp only [h, decide_true, if_true]
    rw [show (600 : Int) = ((600 : Nat) : Int) from rfl, slc_take (by omega)]
    exact ⟨_, rfl, ⟨by simp; omega, by simp, by simp⟩⟩
  · simp only [h, decide_false, Bool.false_eq_true, if_false]
    exact ⟨_, rfl, ⟨by simp; omega, by simp, by simp⟩⟩
theorem raw_s {t : GTape} (h : Tp t) : ∃ x t', GTape_Raw t = some (x, t') ∧ Tp t' := by
  have h1 := h.len; have h2 := h.lo; have h3 := h.hi
  unfold GTape_Raw
  by_cases hc : t.At ≥ (t.L.length : Int)
  · simp only [hc, decide_true, if_true]; exact ⟨_, _, rfl, h⟩
  · simp only [hc, decide_false, Bool.false_eq_true, if_false]
    rw [i64_of (n := t.At + 1) (by omega) (by omega), i64_of (by omega) (by omega)]
    have hx : idx t.L (t.At + 1 - 1) = some t.L[t.At.toNat] := by
      rw [idx_some, show t.At + 1 - 1 = t.At by omega]
      exact ⟨h2, by simp⟩
    rw [hx]
    exact ⟨_, _, rfl, ⟨h1, by simp; omega, by simp; omega⟩⟩
theorem cut_s (x n : Int) (hn : n ≤ 1000000000) : ∃ r, make_Cut x n = some r ∧ 0 ≤ r ∧ (1 ≤ n → r < n) ∧ (n < 1 → r = 0) := by
  unfold make_Cut
  by_cases h : n < 1
  · simp only [h, decide_true, if_true]; exact ⟨0, rfl, by omega, by omega, by omega⟩
  · simp only [h, decide_false, Bool.false_eq_true, if_false]
    have hr : rmd x n = some (x.tmod n) := by unfold rmd; rw [if_neg (by omega)]
    simp only [hr, Option.bind_some]
    have b1 : x.tmod n < n := Int.tmod_lt_of_pos x (by omega)
    have b2 : -n < x.tmod n := by
      have := Int.lt_tmod_of_pos x (show 0 < n by omega)
      omega
    by_cases h0 : x.tmod n < 0
    · simp only [h0, decide_true, if_true]
      rw [i64_of (by omega) (by omega)]
      exact ⟨_, rfl, by omega, fun _ => by omega, fun hh => hh.elim⟩
    · simp only [h0, decide_false, Bool.false_eq_true, if_false]
      exact ⟨_, rfl, by omega, fun _ => by omega, fun hh => hh.elim⟩
theorem next_s {t : GTape} (h : Tp t) (n : Int) (hn : n ≤ 1000000000) : ∃ x t', GTape_Next t n = some (x, t') ∧ Tp t' ∧ 0 ≤ x ∧ (1 ≤ n → x < n) ∧ (n < 1 → x = 0) := by
  obtain ⟨x, t', h1, h2⟩ := raw_s h
  obtain ⟨r, h3, h4⟩ := cut_s x n hn
  exact ⟨r, t', by simp [GTape_Next, h1, h3], h2, h4⟩
theorem range_s {t : GTape} (h : Tp t) (a b : Int) (ha : -1000 ≤ a) (hab : a ≤ b) (hb : b ≤ 100000000) : ∃ x t', GTape_Range t a b = some (x, t') ∧ Tp t' ∧ a ≤ x ∧ x ≤ b := by
  obtain ⟨x, t', h1, h2, h3, h4, _⟩ := next_s h (b - a + 1) (by omega)
  refine ⟨a + x, t', ?_, h2, by omega, by have := h4 (by omega); omega⟩
  have := h4 (by omega)
  simp only [GTape_Range]
  rw [i64_of (n := b - a) (by omega) (by omega), i64_of (n := b - a + 1) (by omega) (by omega), h1]
  simp only [Option.bind_some]
  rw [i64_of (by omega) (by omega)]
theorem one_s {t : GTape} (h : Tp t) (n : Int) (hn : n ≤ 1000000000) : ∃ b t', GTape_One t n = some (b, t') ∧ Tp t' := by
  obtain ⟨x, t', h1, h2, _⟩ := next_s h n hn
  exact ⟨(x == i64 (n - 1)), t', by simp only [GTape_One, h1, Option.bind_some], h2⟩
theorem pick_s {t : GTape} (h : Tp t) (l : List Int) (hl : 1 ≤ l.length) (hl2 : l.length ≤ 1000) : ∃ x t', GTape_Pick t l = some (x, t') ∧ Tp t' ∧ x ∈ l := by
  obtain ⟨x, t', h1, h2, h3, h4, _⟩ := next_s h l.length (by omega)
  have := h4 (by omega)
  have hx : idx l x = some l[x.toNat] := by rw [idx_some]; exact ⟨h3, by simp⟩
  exact ⟨l[x.toNat], t', by simp only [GTape_Pick, h1, Option.bind_some, hx], h2, by simp⟩
theorem wild_s {t : GTape} (h : Tp t) : ∃ x t', GTape_Wild t = some (x, t') ∧ Tp t' := by
  obtain ⟨x, t', h1, h2, _⟩ := pick_s h [(-1), 0, 1, 2, 31, 32, 99, 100, 200, 201, 9999, 10000, 1000000, 1000001, 1152921504606846976, 1152921504606846977, (-1152921504606846976), 9223372036854775807, (-9223372036854775808)] (by simp) (by simp)
  exact ⟨x, t', by simp only [GTape_Wild, h1, Option.bind_some], h2⟩
theorem tp_mk {t : GTape} (h : Tp t) : Tp (GTape.mk t.L t.At) := h
theorem tstamp_s {t : GTape} (h : Tp t) (n : Int) (hn : n ≤ 1000000) : ∃ x t', GTape_Stamp t n = some (x, t') ∧ Tp t' := by
  obtain ⟨a, t1, a1, a2, _⟩ := range_s h 0 24 (by omega) (by omega) (by omega)
  obtain ⟨b, t2, b1, b2, _⟩ := range_s a2 0 3 (by omega) (by omega) (by omega)
  obtain ⟨c, t3, c1, c2, _⟩ := range_s b2 0 9 (by omega) (by omega) (by omega)
  simp only [GTape_Stamp, a1, b1, c1, Option.bind_some]
  by_cases hp : n > 0
  · obtain ⟨d, t4, d1, d2⟩ := one_s c2 n (by omega)
    simp only [hp, decide_true, if_true, d1, Option.bind_some]
    cases d with
    | false => exact ⟨_, _, rfl, tp_mk d2⟩
    | true =>
      obtain ⟨e, t5, e1, e2, _⟩ := next_s (tp_mk d2) 3 (by omega)
      obtain ⟨w, t6, w1, w2⟩ := wild_s e2
      simp only [if_true, e1, w1, Option.bind_some]
      split
      · exact ⟨_, _, rfl, w2⟩
      · split
        · exact ⟨_, _, rfl, w2⟩
        · exact ⟨_, _, rfl, w2⟩
  · simp only [hp, decide_false, Bool.false_eq_true, if_false, Option.bind_some]
    exact ⟨_, _, rfl, tp_mk c2⟩
end Go.Sh
