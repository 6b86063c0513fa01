/- Plain laws of chapter 13, part 2: valid lists; Apply and its reference; the fold. -/
import Derived.Test.YtkkhmngmhckgbaaEa
set_option linter.unusedVariables false
set_option linter.unusedSimpArgs false
namespace Go.Sh
open Go.L

/-- valid from here on, behind an entry -/
def vChk : Option GEnrolment → List GEnrolment → Bool
  | _, [] => true
  | .none, x :: s => vEntry x.Entry && vChk (some x) s
  | some y, x :: s => vEntry x.Entry && (ltE y.Entry x.Entry && vChk (some x) s)
def validB (l : List GEnrolment) : Bool := decide (l.length ≤ 300) && vChk .none l
structure VL (l : List GEnrolment) : Prop where
  len : l.length ≤ 300
  ok : ∀ x ∈ l, vEntry x.Entry = true
  sort : SortE l
theorem vChk_some : ∀ (s : List GEnrolment) (y : GEnrolment), vChk (some y) s = true ↔ (∀ x ∈ s, vEntry x.Entry = true) ∧ SortE (y :: s)
  | [], y => by simp [vChk, SortE]
  | x :: s, y => by
    have := vChk_some s x
    simp only [vChk, Bool.and_eq_true, this, SortE, List.pairwise_cons, List.mem_cons, forall_eq_or_imp]
    constructor
    · rintro ⟨h1, h2, h3, h4, h5⟩
      exact ⟨⟨h1, h3⟩, ⟨h2, fun a ha => ltE_trans h2 (h4 a ha)⟩, h4, h5⟩
    · rintro ⟨⟨h1, h3⟩, ⟨h2, _⟩, h4, h5⟩
      exact ⟨h1, h2, h3, h4, h5⟩
theorem validB_iff {l : List GEnrolment} : validB l = true ↔ VL l := by
  unfold validB
  cases l with
  | nil => simp [vChk]; exact ⟨by simp, by simp, by simp [SortE]⟩
  | cons x s =>
    simp only [vChk, Bool.and_eq_true, decide_eq_true_eq, vChk_some]
    constructor
    · rintro ⟨h1, h2, h3, h4⟩; exact ⟨h1, by simpa using ⟨h2, h3⟩, h4⟩
    · rintro ⟨h1, h2, h3⟩; exact ⟨h1, h2 x (by simp), fun y hy => h2 y (by simp [hy]), h3⟩
theorem getLast_idx {p s : List GEnrolment} {y : GEnrolment} (h : p.getLast? = some y) (hb : p.length < 1000000) : idx (p ++ s) (i64 ((p.length : Int) - 1)) = some y ∧ 0 < p.length := by
  rcases List.eq_nil_or_concat p with rfl | ⟨q, z, rfl⟩
  · simp at h
  · rw [List.concat_eq_append] at *
    simp at h; subst h
    have e : ((q ++ [z]).length : Int) - 1 = (q.length : Int) := by simp
    rw [i64_of (by omega) (by omega), e, List.append_assoc]
    exact ⟨idx_at q z s, by simp⟩
theorem eValid_loop {F : Nat} (hF : 10 ≤ F) : ∀ (s p : List GEnrolment) (n : Nat), (p ++ s).length < 1000000 → s.length < n → entry_valid_L1 F (p ++ s) n (p.length : Int) = some (vChk p.getLast? s) := by
  intro s
  induction s with
  | nil => intro p n hb hn; cases n with
    | zero => omega
    | succ n => simp only [entry_valid_L1, entry_valid_L1_B, dge, Bool.false_eq_true, if_false]; cases p.getLast? <;> simp [vChk]
  | cons x s ih => intro p n hb hn; cases n with
    | zero => omega
    | succ n =>
      have hl : p.length < 1000000 := by simp at hb; omega
      have hrec := ih (p ++ [x]) n (by simpa using hb) (by simpa using hn)
      simp only [entry_valid_L1, entry_valid_L1_B, dlt, idx_at, if_true, Option.bind_some, validEntry_s]
      rw [nxt p x (by omega), snoc] 
      rw [← snoc]
      have hrec' : entry_valid_L1 F (p ++ x :: s) n ((p ++ [x]).length : Int) = some (vChk (some x) s) := by rw [snoc, hrec]; simp
      rw [hrec']
      cases hg : p.getLast? with
      | none =>
        have : p = [] := by simpa using hg
        subst this
        simp only [vChk]
        cases vEntry x.Entry <;> simp
      | some y =>
        obtain ⟨h1, h2⟩ := getLast_idx (s := x :: s) hg hl
        have d2 : decide ((p.length : Int) > 0) = true := by simp; omega
        simp only [h1, d2, if_true, Option.bind_some, ecompare_s hF, vChk]
        have hc : decide (cmpE y.Entry x.Entry ≥ 0) = !ltE y.Entry x.Entry := by
          cases h : ltE y.Entry x.Entry with
          | true => have := cmpE_lt.2 h; simp; omega
          | false => have : ¬ cmpE y.Entry x.Entry < 0 := fun hc => by have := cmpE_lt.1 hc; simp [h] at this
                     simp; omega
        rw [hc]
        cases vEntry x.Entry <;> cases ltE y.Entry x.Entry <;> simp
theorem eValid_s {F : Nat} (hF : 10 ≤ F) {l : List GEnrolment} (hb : l.length < 1000000) (hFl : l.length < F) : entry_valid F l = some (validB l) := by
  unfold entry_valid validB
  by_cases h : l.length ≤ 300
  · have : decide ((l.length : Int) > 300) = false := by simp; omega
    simp only [this, Bool.false_eq_true, if_false, h, decide_true, Bool.true_and]
    exact eValid_loop hF l [] F (by simpa using hb) hFl
  · have : decide ((l.length : Int) > 300) = true := by simp; omega
    simp [this, h]
theorem rValid_loop : ∀ (s p : List GEnrolment) (n : Nat), (p ++ s).length < 1000000 → s.length < n → ref13_Valid_L1 (p ++ s) n (p.length : Int) = some (vChk p.getLast? s) := by
  intro s
  induction s with
  | nil => intro p n hb hn; cases n with
    | zero => omega
    | succ n => simp only [ref13_Valid_L1, ref13_Valid_L1_B, dge, Bool.false_eq_true, if_false]; cases p.getLast? <;> simp [vChk]
  | cons x s ih => intro p n hb hn; cases n with
    | zero => omega
    | succ n =>
      have hl : p.length < 1000000 := by simp at hb; omega
      have hrec := ih (p ++ [x]) n (by simpa using hb) (by simpa using hn)
      simp only [ref13_Valid_L1, ref13_Valid_L1_B, dlt, idx_at, if_true, Option.bind_some, refEntry_s]
      rw [nxt p x (by omega)]
      have hrec' : ref13_Valid_L1 (p ++ x :: s) n ((p ++ [x]).length : Int) = some (vChk (some x) s) := by rw [snoc, hrec]; simp
      rw [hrec']
      cases hg : p.getLast? with
      | none =>
        have : p = [] := by simpa using hg
        subst this
        simp only [vChk]
        cases vEntry x.Entry <;> simp
      | some y =>
        obtain ⟨h1, h2⟩ := getLast_idx (s := x :: s) hg hl
        have d2 : decide ((p.length : Int) > 0) = true := by simp; omega
        have hbf : ref13_before y.Entry x.Entry = some (ltE y.Entry x.Entry) := rfl
        simp only [h1, d2, if_true, Option.bind_some, hbf, vChk]
        cases vEntry x.Entry <;> cases ltE y.Entry x.Entry <;> simp
theorem rValid_s {F : Nat} {l : List GEnrolment} (hb : l.length < 1000000) (hFl : l.length < F) : ref13_Valid F l = some (validB l) := by
  unfold ref13_Valid validB
  by_cases h : l.length ≤ 300
  · have : decide ((l.length : Int) > 300) = false := by simp; omega
    simp only [this, Bool.false_eq_true, if_false, h, decide_true, Bool.true_and]
    exact rValid_loop l [] F (by simpa using hb) hFl
  · have : decide ((l.length : Int) > 300) = true := by simp; omega
    simp [this, h]
/- index, add, without -/
def isE (c p : Int) (y : GEnrolment) : Bool := (y.Entry.Candidate == c) && (y.Entry.Paper == p)
theorem index_loop (c q : Int) : ∀ (s p : List GEnrolment) (n : Nat), (p ++ s).length < 1000000 → s.length < n → ref13_index_L1 (p ++ s) c q n (p.length : Int) = some (match s.findIdx? (isE c q) with | some i => ((p.length + i : Nat) : Int) | .none => -1) := by
  intro s
  induction s with
  | nil => intro p n hb hn; cases n with
    | zero => omega
    | succ n => simp only [ref13_index_L1, ref13_index_L1_B, dge, Bool.false_eq_true, if_false, List.findIdx?_nil]
  | cons x s ih => intro p n hb hn; cases n with
    | zero => omega
    | succ n =>
      have hl : p.length < 1000000 := by simp at hb; omega
      have hrec := ih (p ++ [x]) n (by simpa using hb) (by simpa using hn)
      simp only [ref13_index_L1, ref13_index_L1_B, dlt, idx_at, if_true, Option.bind_some]
      rw [nxt p x (by omega)]
      have hrec' := hrec
      rw [← snoc] at hrec'
      rw [hrec', List.findIdx?_cons]
      have hw : (if (x.Entry.Candidate == c) = true then some (x.Entry.Paper == q) else some false) = some (isE c q x) := by
        unfold isE; cases (x.Entry.Candidate == c) <;> simp
      rw [hw]
      cases isE c q x with
      | true => simp
      | false =>
        simp only [Option.bind_some, Bool.false_eq_true, if_false]
        cases s.findIdx? (isE c q) with
        | none => simp
        | some i =>
          simp only [Option.map_some]
          congr 1
          simp only [List.length_append, List.length_singleton]
          show (((p.length + 1) + i : Nat) : Int) = ((p.length + (i + 1) : Nat) : Int)
          congr 1
          omega
theorem index_s {F : Nat} {l : List GEnrolment} (c q : Int) (hb : l.length < 1000000) (hFl : l.length < F) : ref13_index F l c q = some (match l.findIdx? (isE c q) with | some i => (i : Int) | .none => -1) := by
  have := index_loop c q l [] F (by simpa using hb) hFl
  simpa [ref13_index] using this
theorem eqE_isE (y : GEnrolment) (x : GEntry) : isE x.Candidate x.Paper y = eqE y.Entry x := rfl
theorem hi_none {l : List GEnrolment} {x : GEntry} (hs : SortE l) (h : atE l x = .none) : ∀ y ∈ hi l x, eqE y.Entry x = false := by
  intro y hy
  cases hh : hi l x with
  | nil => rw [hh] at hy; simp at hy
  | cons z r =>
    have hz := hi_head hh
    have hne : eqE z.Entry x = false := by
      unfold atE at h; rw [hh] at h; simp only at h
      split at h
      · cases h
      · rename_i h2; simpa using h2
    rw [hh] at hy
    rcases List.mem_cons.1 hy with rfl | hy
    · exact hne
    · have hs' : SortE (lo l x ++ z :: r) := by rw [← hh, lo_hi]; exact hs
      unfold SortE at hs'
      rw [List.pairwise_append, List.pairwise_cons] at hs'
      have h1 := hs'.2.1.1 y hy
      cases he : eqE y.Entry x with
      | false => rfl
      | true => rw [eqE_iff] at he; rw [ltE_iff] at h1 hz; exact absurd (by omega) hz
theorem lo_ne {l : List GEnrolment} {x : GEntry} {y : GEnrolment} (h : y ∈ lo l x) : eqE y.Entry x = false := by
  have := lo_lt h
  cases he : eqE y.Entry x with
  | false => rfl
  | true => rw [eqE_iff] at he; rw [ltE_iff] at this; omega
theorem findIdx_sorted {l : List GEnrolment} {x : GEntry} (hs : SortE l) : l.findIdx? (isE x.Candidate x.Paper) = (atE l x).map fun _ => (lo l x).length := by
  conv => lhs; rw [← lo_hi l x]
  rw [List.findIdx?_append]
  have h1 : (lo l x).findIdx? (isE x.Candidate x.Paper) = .none := by
    rw [List.findIdx?_eq_none_iff]; intro y hy; rw [eqE_isE]; exact lo_ne hy
  rw [h1]
  cases hat : atE l x with
  | none =>
    have : (hi l x).findIdx? (isE x.Candidate x.Paper) = .none := by
      rw [List.findIdx?_eq_none_iff]; intro y hy; rw [eqE_isE]; exact hi_none hs hat y hy
    rw [this]; simp
  | some y =>
    obtain ⟨h2, h3⟩ := atE_some hat
    rw [h2, List.findIdx?_cons, eqE_isE, h3]
    simp
theorem add_loop (x : GEnrolment) : ∀ (s p : List GEnrolment) (n : Nat), (p ++ s).length < 1000000 → s.length < n → ref13_add_L1 (p ++ s) x n (p.length : Int) = some (p ++ (lo s x.Entry ++ x :: hi s x.Entry)) := by
  intro s
  induction s with
  | nil => intro p n hb hn; cases n with
    | zero => omega
    | succ n =>
      simp only [List.append_nil] at *
      simp only [ref13_add_L1, ref13_add_L1_B, Int.lt_irrefl, decide_false, Bool.false_eq_true, if_false, Option.bind_some]
      rw [slc_take (by simp), slc_drop (by simp)]
      simp only [Option.bind_some, List.take_length, List.drop_length]
      rw [app_of (by simp; omega), Option.bind_some, app_of (by simp; omega), Option.bind_some, app_of (by simp; omega), Option.bind_some]
      simp [lo, hi]
  | cons y s ih => intro p n hb hn; cases n with
    | zero => omega
    | succ n =>
      have hl : p.length < 1000000 := by simp at hb; omega
      have hrec := ih (p ++ [y]) n (by simpa using hb) (by simpa using hn)
      have hbf : ref13_before y.Entry x.Entry = some (ltE y.Entry x.Entry) := rfl
      simp only [ref13_add_L1, ref13_add_L1_B, dlt, idx_at, if_true, Option.bind_some, hbf]
      rw [nxt p y (by omega)]
      have hrec' := hrec
      rw [← snoc] at hrec'
      rw [hrec']
      cases hc : ltE y.Entry x.Entry with
      | true => simp [lo, hi, hc]
      | false =>
        simp only [Bool.false_eq_true, if_false]
        simp only [List.length_append, List.length_cons] at hb
        rw [slc_take (by simp), slc_drop (by simp)]
        simp only [Option.bind_some, List.take_left, List.drop_left]
        rw [app_of (by simp; omega), Option.bind_some, app_of (by simp; omega), Option.bind_some, app_of (by simp; omega), Option.bind_some]
        simp [lo, hi, hc]
theorem add_s {F : Nat} {l : List GEnrolment} (x : GEnrolment) (hb : l.length < 1000000) (hFl : l.length < F) : ref13_add F l x = some (lo l x.Entry ++ x :: hi l x.Entry) := by
  have := add_loop x l [] F (by simpa using hb) hFl
  simpa [ref13_add] using this
theorem without_s {l : List GEnrolment} {i : Nat} (hb : l.length < 1000000) (hi : i < l.length) : ref13_without l i = some (l.take i ++ l.drop (i + 1)) := by
  unfold ref13_without
  rw [slc_take (by omega), nxtN (by omega), slc_drop (by omega)]
  simp only [Option.bind_some]
  rw [app_of (by simp; omega), Option.bind_some, app_of (by simp; omega), Option.bind_some]
  simp
def dOk (p0 : GDeadlines) : Bool := ((decide (p0.Close ≥ 0)) && ((decide (p0.Close ≤ p0.Late)) && (decide (p0.Late ≤ 1000000))))
def applyS (l : List GEnrolment) (d : GDeadlines) (e : GEntryEvent) : List GEnrolment × Int := if validB l = true ∧ dOk d = true then stepS l d e else ([], 1)
theorem apply_s {F : Nat} (hF : 10 ≤ F) {l : List GEnrolment} {d : GDeadlines} {e : GEntryEvent} (hb : l.length < 1000000) (hFl : l.length < F) : entry_Apply F l d e = some (applyS l d e) := by
  have hd : entry_validDeadlines d = some (dOk d) := rfl
  unfold entry_Apply applyS
  simp only [eValid_s hF hb hFl, hd, Option.bind_some]
  cases hv : validB l with
  | false => simp
  | true =>
    cases hdd : dOk d with
    | false => simp
    | true => simp [step_s hF (validB_iff.1 hv).sort hb hFl]
theorem refApply_s {F : Nat} (hF : 10 ≤ F) {l : List GEnrolment} {d : GDeadlines} {e : GEntryEvent} (hb : l.length < 1000000) (hFl : l.length < F) : ref13_Apply F l d e = some (applyS l d e) := by
  have hd : ref13_Deadlines d = some (dOk d) := rfl
  unfold ref13_Apply applyS
  simp only [rValid_s hb hFl, hd, Option.bind_some]
  cases hv : validB l with
  | false => simp
  | true =>
    cases hdd : dOk d with
    | false => simp
    | true =>
      have hV := validB_iff.1 hv
      have hs := hV.sort
      have h300 := hV.len
      simp only [Bool.not_true, Bool.false_eq_true, if_false, Option.bind_some, true_and, if_true, refEntry_s]
      unfold stepS vEvent
      have hw : (if (e.Kind != 1) = true then if (e.Kind != 2) = true then if (e.Kind != 3) = true then some true else some !vEntry e.Entry else some !vEntry e.Entry else some !vEntry e.Entry) = some (!(vEntry e.Entry && ((e.Kind == 1) || ((e.Kind == 2) || (e.Kind == 3))))) := by
        by_cases k1 : e.Kind = 1
        · simp [k1]
        · by_cases k2 : e.Kind = 2
          · simp [k2]
          · by_cases k3 : e.Kind = 3
            · simp [k3]
            · simp [k1, k2, k3]
      rw [hw]
      simp only [Option.bind_some]
      by_cases hk : vEntry e.Entry = true ∧ (e.Kind = 1 ∨ e.Kind = 2 ∨ e.Kind = 3)
      case neg =>
        have e1 : (vEntry e.Entry && ((e.Kind == 1) || ((e.Kind == 2) || (e.Kind == 3)))) = false := by
          cases h : (vEntry e.Entry && ((e.Kind == 1) || ((e.Kind == 2) || (e.Kind == 3)))) with
          | false => rfl
          | true => exact absurd (by simpa using h) hk
        have e2 : (vEntry e.Entry && ((e.Kind == 1) || ((e.Kind == 2) || ((e.Kind == 3) && ((decide (e.To ≥ 1)) && ((decide (e.To ≤ 99)) && (e.To != e.Entry.Centre))))))) = false := by
          cases h : (vEntry e.Entry && ((e.Kind == 1) || ((e.Kind == 2) || ((e.Kind == 3) && ((decide (e.To ≥ 1)) && ((decide (e.To ≤ 99)) && (e.To != e.Entry.Centre))))))) with
          | false => rfl
          | true =>
            refine absurd ?_ hk
            simp only [Bool.and_eq_true, Bool.or_eq_true, beq_iff_eq] at h
            refine ⟨h.1, ?_⟩
            rcases h.2 with h | h | h
            · exact .inl h
            · exact .inr (.inl h)
            · exact .inr (.inr h.1)
        simp [e1, e2]
      case pos =>
        have e1 : (vEntry e.Entry && ((e.Kind == 1) || ((e.Kind == 2) || (e.Kind == 3)))) = true := by simpa using hk
        rw [e1]
        simp only [Bool.not_true, Bool.false_eq_true, if_false]
        by_cases ht : e.Kind = 3 ∧ (e.To < 1 ∨ e.To > 99 ∨ e.To = e.Entry.Centre)
        · have e2 : ((e.Kind == 3) && ((decide (e.To < 1)) || ((decide (e.To > 99)) || (e.To == e.Entry.Centre)))) = true := by simpa using ht
          have e3 : (vEntry e.Entry && ((e.Kind == 1) || ((e.Kind == 2) || ((e.Kind == 3) && ((decide (e.To ≥ 1)) && ((decide (e.To ≤ 99)) && (e.To != e.Entry.Centre))))))) = false := by
            cases h : (vEntry e.Entry && ((e.Kind == 1) || ((e.Kind == 2) || ((e.Kind == 3) && ((decide (e.To ≥ 1)) && ((decide (e.To ≤ 99)) && (e.To != e.Entry.Centre))))))) with
            | false => rfl
            | true =>
              simp only [Bool.and_eq_true, Bool.or_eq_true, beq_iff_eq, decide_eq_true_eq, bne_iff_ne] at h
              omega
          simp [e2, e3]
        · have e2 : ((e.Kind == 3) && ((decide (e.To < 1)) || ((decide (e.To > 99)) || (e.To == e.Entry.Centre)))) = false := by
            cases h : ((e.Kind == 3) && ((decide (e.To < 1)) || ((decide (e.To > 99)) || (e.To == e.Entry.Centre)))) with
            | false => rfl
            | true => exact absurd (by simpa using h) ht
          have e3 : (vEntry e.Entry && ((e.Kind == 1) || ((e.Kind == 2) || ((e.Kind == 3) && ((decide (e.To ≥ 1)) && ((decide (e.To ≤ 99)) && (e.To != e.Entry.Centre))))))) = true := by
            simp only [Bool.and_eq_true, Bool.or_eq_true, beq_iff_eq, decide_eq_true_eq, bne_iff_ne]
            refine ⟨hk.1, ?_⟩
            omega
          rw [e2, e3]
          simp only [Bool.false_eq_true, if_false, Bool.true_eq_false]
          by_cases h1 : e.Stamp.Source ≠ 0 ∧ e.Stamp.Source ≠ e.Entry.Centre
          · simp [h1]
          · have h1' : ((e.Stamp.Source != 0) && (e.Stamp.Source != e.Entry.Centre)) = false := by
              cases h : ((e.Stamp.Source != 0) && (e.Stamp.Source != e.Entry.Centre)) with
              | false => rfl
              | true => exact absurd (by simpa using h) h1
            simp only [h1', Bool.false_eq_true, if_false, h1]
            by_cases h2 : d.Late < e.Stamp.Time
            · simp [h2]
            · simp only [gt_iff_lt, h2, decide_false, Bool.false_eq_true, if_false, index_s _ _ hb hFl, Option.bind_some, findIdx_sorted hs]
              have hlh := lo_hi l e.Entry
              have hlen : (lo l e.Entry).length + (hi l e.Entry).length = l.length := by have := congrArg List.length hlh; simpa using this
              cases hat : atE l e.Entry with
              | none =>
                simp only [Option.map_none]
                by_cases k1 : e.Kind = 1
                · simp only [k1, beq_self_eq_true, if_true]
                  by_cases h3 : 300 ≤ l.length
                  · have h3' : l.length = 300 := by omega
                    simp [h3']
                  · have h3' : ((l.length : Int) == 300) = false := by simp; omega
                    simp [h3, h3', add_s _ hb hFl]
                · have hk' : (e.Kind == 1) = false := by simp [k1]
                  simp [hk', k1]
              | some y =>
                obtain ⟨hh, heq⟩ := atE_some hat
                have hlo : (lo l e.Entry).length < l.length := by rw [hh] at hlen; simp at hlen; omega
                have hix : idx l ((lo l e.Entry).length : Int) = some y := by
                  have e3 : l = lo l e.Entry ++ y :: (hi l e.Entry).drop 1 := by rw [← hh, hlh]
                  have := idx_at (lo l e.Entry) y ((hi l e.Entry).drop 1)
                  rw [← e3] at this; exact this
                have g1 : decide (((lo l e.Entry).length : Int) ≥ 0) = true := by simp
                have g2 : decide (((lo l e.Entry).length : Int) < 0) = false := by simp
                simp only [Option.map_some, g1, g2, if_true, Bool.false_eq_true, if_false, hix, Option.bind_some]
                by_cases k1 : e.Kind = 1
                · simp only [k1, beq_self_eq_true, if_true]
                  by_cases hc : y.Entry.Centre = e.Entry.Centre
                  · simp [hc]
                  · simp [hc]
                · have hk' : (e.Kind == 1) = false := by simp [k1]
                  simp only [hk', Bool.false_eq_true, if_false, k1]
                  by_cases hc : y.Entry.Centre = e.Entry.Centre
                  · simp only [hc, bne_self_eq_false, Bool.false_eq_true, if_false, ne_eq, not_true_eq_false, without_s hb hlo, Option.bind_some, take_lo, drop_lo1]
                    by_cases k2 : e.Kind = 2
                    · simp [k2]
                    · have hk2' : (e.Kind == 2) = false := by simp [k2]
                      simp only [hk2', Bool.false_eq_true, if_false, k2]
                      have hwl : (lo l e.Entry ++ (hi l e.Entry).drop 1).length < l.length := by rw [hh] at hlen; simp at hlen ⊢; omega
                      rw [add_s _ (by omega) (by omega)]
                      have hxx : ∀ (a : GEntry) , ltE a ⟨y.Entry.Candidate, e.To, y.Entry.Paper⟩ = ltE a e.Entry := fun a => by
                        rw [eqE_iff] at heq; unfold ltE; simp [heq]
                      have q1 : lo (lo l e.Entry ++ (hi l e.Entry).drop 1) ⟨y.Entry.Candidate, e.To, y.Entry.Paper⟩ = lo l e.Entry ∧ hi (lo l e.Entry ++ (hi l e.Entry).drop 1) ⟨y.Entry.Candidate, e.To, y.Entry.Paper⟩ = (hi l e.Entry).drop 1 := by
                        have hr : ∀ z ∈ (hi l e.Entry).drop 1, ltE z.Entry e.Entry = false := fun z hz => by
                          have := hi_ge hs (List.mem_of_mem_drop hz); simpa using this
                        have hl2 : ∀ z ∈ lo l e.Entry, ltE z.Entry e.Entry = true := fun z hz => lo_lt hz
                        simp only [lo, hi, hxx] at hr hl2 ⊢
                        generalize l.takeWhile (fun y => ltE y.Entry e.Entry) = A at hl2 ⊢
                        generalize (l.dropWhile (fun y => ltE y.Entry e.Entry)).drop 1 = B at hr ⊢
                        rw [List.takeWhile_append_of_pos hl2, List.dropWhile_append_of_pos hl2]
                        cases B with
                        | nil => simp
                        | cons b B => simp [hr b (by simp)]
                      simp only [q1.1, q1.2, Option.bind_some]
                  · simp [hc]
end Go.Sh
