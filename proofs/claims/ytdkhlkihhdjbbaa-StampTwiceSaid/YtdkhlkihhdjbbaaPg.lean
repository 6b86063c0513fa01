/- Plain laws, part 7: same, awake, the first laws of stamps. -/
import Derived.Test.YtdkhlkihhdjbbaaPf
set_option linter.unusedVariables false
set_option linter.unusedSimpArgs false
namespace Go.Sh
open Go.L

theorem same_loop {a b : List Int} (hl : a.length = b.length) (hb : a.length < 1000000) : ∀ n (k : Int), (∃ j : Nat, k = j ∧ j ≤ a.length ∧ a.take j = b.take j) → (a.length - k.toNat) < n → ∃ r, law02_same_L1 a b n k = some r ∧ r = decide (a = b) := by
  refine loop1 (L := law02_same_L1 a b) (B := law02_same_L1_B a b) (fun _ => rfl) _ (fun (k : Int) => a.length - k.toNat) _ ?_
  rintro rec k ⟨j, rfl, hj, heq⟩ hrec
  unfold law02_same_L1_B
  by_cases hlt : j < a.length
  · have hlt' : j < b.length := by omega
    have d1 : decide ((j : Int) < (a.length : Int)) = true := by simp; exact hlt
    simp only [d1, if_true, idx_lt hlt, idx_lt hlt', Option.bind_some, bne_iff_ne, ne_eq]
    by_cases he : a[j] = b[j]
    · simp only [he, not_true_eq_false, if_false]
      rw [i64_of (by omega) (by omega)]
      refine hrec _ ⟨j + 1, by omega, by omega, ?_⟩ (by simp; omega)
      rw [List.take_succ_eq_append_getElem hlt, List.take_succ_eq_append_getElem hlt', heq, he]
    · simp only [he, not_false_eq_true, if_true]
      refine ⟨false, rfl, ?_⟩
      symm; rw [decide_eq_false_iff_not]
      intro h; subst h; exact he rfl
  · have d1 : decide ((j : Int) < (a.length : Int)) = false := by simp; omega
    simp only [d1, Bool.false_eq_true, if_false]
    refine ⟨true, rfl, ?_⟩
    symm; rw [decide_eq_true_eq]
    rw [List.take_of_length_le (by omega), List.take_of_length_le (by omega)] at heq
    exact heq
theorem same_s {F : Nat} {a b : List Int} (hb : a.length < 1000000) (hF : a.length < F) : law02_same F a b = some (decide (a = b)) := by
  unfold law02_same
  by_cases hl : a.length = b.length
  · have : ((a.length : Int) != (b.length : Int)) = false := by simp; omega
    simp only [this, Bool.false_eq_true, if_false]
    obtain ⟨r, h1, rfl⟩ := same_loop hl hb F 0 ⟨0, rfl, by omega, by simp⟩ (by simpa using hF)
    exact h1
  · have : ((a.length : Int) != (b.length : Int)) = true := by simp; omega
    simp only [this, if_true]
    have : ¬ a = b := fun h => hl (by rw [h])
    simp [this]
theorem awake_s {F : Nat} (hF : 20 ≤ F) : law02_awake F = some true := by
  have h1 : canonS [GStamp.mk 5 1 0, GStamp.mk 3 2 7, GStamp.mk 5 1 0, GStamp.mk 4 2 7] [0, 0, 0, 0] = ([0], 0) := by decide
  have h2 : knownS [GStamp.mk 5 1 0, GStamp.mk 3 2 7, GStamp.mk 5 1 0, GStamp.mk 4 2 7] [0, 0, 0, 0] 3 = ([1, 0], 0) := by decide
  unfold law02_awake
  rw [canonical_e (by omega) (by simp) (by simp; omega), known_e (by omega) _ (by simp) (by simp; omega), h1, h2]
  simp only [Option.bind_some, beq_self_eq_true, if_true]
  rw [same_s (by simp) (by simp; omega), same_s (by simp) (by simp; omega)]
  rfl
theorem canonL_len (l : List GStamp) (cl : List Int) : (canonL l cl).length ≤ l.length := by
  rw [canonL, perm_isort.length_eq, List.length_map]
  have := List.length_filter_le (countsB l cl) (List.range l.length)
  simpa using this
theorem canonS_len (l : List GStamp) (cl : List Int) : (canonS l cl).1.length ≤ l.length := by
  unfold canonS
  split
  · simp
  · split
    · simp
    · exact canonL_len l cl
theorem knownS_len (l : List GStamp) (cl : List Int) (n : Int) : (knownS l cl n).1.length ≤ l.length := by
  unfold knownS
  split
  · simp
  · split
    · simp
    · have := canonS_len (l.take n.toNat) (cl.take n.toNat); simp at this; omega

theorem law_StampCompares (a b c d e f : Int) : ∃ F, law02_StampCompares F a b c d e f = some true := by
  refine ⟨20, ?_⟩
  simp only [law02_StampCompares, valid_s, refValid_s, stampCompare_s (F := 20) (by omega), refCompare_s, awake_s (F := 20) (by omega), Option.bind_some, beq_self_eq_true, if_true]
  have : cmpSt (GStamp.mk a b c) (GStamp.mk a b c) = 0 := cmpSt_zero.2 rfl
  simp [this]
theorem law_StampCanonical (t extra : List Int) : ∃ F, law02_StampCanonical F t extra = some true := by
  refine ⟨1000, ?_⟩
  obtain ⟨t0, h1, h2⟩ := new_s t
  obtain ⟨l, cl, t1, h3, h4, h5, h6⟩ := events_s (F := 1000) h2 14 6 (by omega) (by omega) (by omega)
  obtain ⟨b, t2, h7, h8⟩ := one_s h4 10 (by omega)
  have key : ∀ cl, ((stamp_Canonical 1000 l cl).bind fun r9 => (ref02_Canonical 1000 l cl).bind fun r10 => ((law02_same 1000 r9.1 r10.1).bind fun r13 => if r13 = true then if (r9.2 == r10.2) = true then (law02_awake 1000).bind fun r16 => some r16 else some false else some false).bind fun w12 => some w12) = some true := fun cl => by
    rw [canonical_e (by omega) (by omega) (by omega), refCanonical_e (by omega) (by omega)]
    have := canonS_len l cl
    simp only [Option.bind_some]
    rw [same_s (by omega) (by omega), awake_s (by omega)]
    simp
  simp only [law02_StampCanonical, h1, Option.bind_some]
  rw [show (14 : Int) = ((14 : Nat) : Int) from rfl, h3]
  simp only [Option.bind_some, h7]
  by_cases hw : b = true ∧ (extra.length : Int) < 20
  · rw [app_of (by omega)]
    simp only [hw, if_true, Option.bind_some, decide_true, key]
  · cases b with
    | false => simp only [Bool.false_eq_true, if_false, Option.bind_some, key]
    | true =>
      have : ¬ (extra.length : Int) < 20 := fun h => hw ⟨rfl, h⟩
      simp only [if_true, Option.bind_some, this, decide_false, Bool.false_eq_true, if_false, key]
theorem law_StampKnows (t : List Int) (n : Int) : ∃ F, law02_StampKnows F t n = some true := by
  refine ⟨1000, ?_⟩
  obtain ⟨t0, h1, h2⟩ := new_s t
  obtain ⟨l, cl, t1, h3, h4, h5, h6⟩ := events_s (F := 1000) h2 14 6 (by omega) (by omega) (by omega)
  obtain ⟨k, t2, h7, h8, h9, h10⟩ := range_s h4 0 l.length (by omega) (by omega) (by omega)
  obtain ⟨j, rfl⟩ : ∃ j : Nat, k = j := ⟨k.toNat, by omega⟩
  simp only [law02_StampKnows, h1, Option.bind_some]
  rw [show (14 : Int) = ((14 : Nat) : Int) from rfl, h3]
  have b1 := knownS_len l cl n
  have b2 := knownS_len l cl j
  have hk : knownS l cl j = canonS (l.take j) (cl.take j) := by
    unfold knownS
    rw [if_neg (by omega), if_neg (by omega)]; simp
  simp only [Option.bind_some, h7]
  rw [known_e (by omega) _ (by omega) (by omega), refKnown_e _ (by omega) (by omega)]
  simp only [Option.bind_some]
  rw [known_e (by omega) _ (by omega) (by omega)]
  simp only [Option.bind_some]
  rw [slc_take (by omega), slc_take (by omega)]
  simp only [Option.bind_some]
  rw [canonical_e (by omega) (by simp; omega) (by simp; omega)]
  simp only [Option.bind_some]
  rw [same_s (by omega) (by omega), same_s (by omega) (by omega), awake_s (by omega), hk]
  simp
theorem until_same (F : Nat) (l : List GStamp) (t : Int) : stamp_Until F l t = ref02_Until F l t := by
  have : ∀ n k, stamp_Until_L1 l t n k = ref02_Until_L1 l t n k := by
    intro n
    induction n with
    | zero => intro k; rfl
    | succ n ih =>
      intro k
      show stamp_Until_L1_B l t (stamp_Until_L1 l t n) k = ref02_Until_L1_B l t (ref02_Until_L1 l t n) k
      rw [funext ih]; rfl
  exact this F 0
theorem until_loop {l : List GStamp} {t : Int} (hb : l.length < 1000000) : ∀ n (k : Int), (∃ j : Nat, k = j ∧ j ≤ l.length) → (l.length - k.toNat) < n → ∃ r, stamp_Until_L1 l t n k = some r ∧ True := by
  refine loop1 (L := stamp_Until_L1 l t) (B := stamp_Until_L1_B l t) (fun _ => rfl) _ (fun (k : Int) => l.length - k.toNat) _ ?_
  rintro rec k ⟨j, rfl, hj⟩ hrec
  unfold stamp_Until_L1_B
  by_cases hlt : j < l.length
  · have d1 : decide ((j : Int) < (l.length : Int)) = true := by simp; exact hlt
    simp only [d1, if_true, idx_lt hlt, Option.bind_some]
    split
    · exact ⟨_, rfl, trivial⟩
    · rw [i64_of (by omega) (by omega)]
      exact hrec _ ⟨j + 1, by omega, by omega⟩ (by simp; omega)
  · have d1 : decide ((j : Int) < (l.length : Int)) = false := by simp; omega
    simp only [d1, Bool.false_eq_true, if_false]
    exact ⟨_, rfl, trivial⟩
theorem law_StampUntil (t : List Int) (time : Int) : ∃ F, law02_StampUntil F t time = some true := by
  refine ⟨1000, ?_⟩
  obtain ⟨t0, h1, h2⟩ := new_s t
  obtain ⟨l, cl, t1, h3, h4, h5, h6⟩ := events_s (F := 1000) h2 14 6 (by omega) (by omega) (by omega)
  obtain ⟨k, t2, h7, h8, h9, h10⟩ := range_s h4 0 30 (by omega) (by omega) (by omega)
  obtain ⟨u, hu, _⟩ := until_loop (l := l) (t := time) (by omega) 1000 0 ⟨0, rfl, by omega⟩ (by simp; omega)
  obtain ⟨v, hv, _⟩ := until_loop (l := l) (t := k) (by omega) 1000 0 ⟨0, rfl, by omega⟩ (by simp; omega)
  have hu' : stamp_Until 1000 l time = some u := hu
  have hv' : stamp_Until 1000 l k = some v := hv
  simp only [law02_StampUntil, h1, Option.bind_some]
  rw [show (14 : Int) = ((14 : Nat) : Int) from rfl, h3]
  simp only [Option.bind_some, h7, ← until_same, hu', hv', awake_s (F := 1000) (by omega), beq_self_eq_true, if_true]
end Go.Sh
