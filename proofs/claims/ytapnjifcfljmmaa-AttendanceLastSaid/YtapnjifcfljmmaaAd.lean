/- Plain laws of chapter 16, part 4: the laws Incidents, Own, Last. -/
import Derived.Test.YtapnjifcfljmmaaAc
set_option linter.unusedVariables false
set_option linter.unusedSimpArgs false
namespace Go.Sh
open Go.L

/- Incidents -/
def incEv (c : Int) (i : Nat) : GRegisterEvent := ⟨⟨i, 2, i⟩, 5, 1, i + c⟩
def incL (c : Int) (m : Nat) : List Int := (List.range m).map fun i : Nat => (i : Int) + c
def incR (m : Nat) : List GRefusal := (List.range m).map fun i : Nat => (⟨⟨2, 8 + i⟩, 3⟩ : GRefusal)
def incE : List GEnrolment := [GEnrolment.mk (GEntry.mk 1 2 0) false]
theorem inc_ev {c : Int} {n : Nat} (hn : n ≤ 12) : evL (·.Stamp) (((List.range n).map (incEv c)).reverse) = (List.range n).map (incEv c) := by
  refine (evL_is (fun x : GRegisterEvent => x.Stamp) _).unique ⟨?_, fun e => ?_⟩
  · rw [List.pairwise_map]
    refine List.pairwise_lt_range.imp fun {a b} h => ?_
    refine cmpSt_lt.2 (.inl ?_)
    show (a : Int) < b
    omega
  · unfold SetC
    simp only [List.mem_reverse]
    constructor
    · intro he
      refine ⟨he, ?_, fun e' he' _ hs => ?_⟩
      · simp only [List.mem_map, List.mem_range] at he
        obtain ⟨i, hi, rfl⟩ := he
        show GStamp.good ⟨(i : Int), 2, (i : Int)⟩ = true
        simp only [GStamp.good, Bool.and_eq_true, decide_eq_true_eq]; omega
      · simp only [List.mem_map, List.mem_range] at he he'
        obtain ⟨i, hi, rfl⟩ := he
        obtain ⟨j, hj, rfl⟩ := he'
        have := hs.2; simp only [incEv] at this
        have : j = i := by omega
        subst this; rfl
    · exact fun h => h.1
theorem inc_step {c : Int} (hc : 0 ≤ c ∧ c < 500) {j : Nat} (hj : j < 12) : stepA incE [⟨1, 0, -1, -1, incL c (min j 8)⟩] (incEv c j) = if 8 ≤ j then (3, [⟨1, 0, -1, -1, incL c (min (j + 1) 8)⟩]) else (0, [⟨1, 0, -1, -1, incL c (min (j + 1) 8)⟩]) := by
  have hk : badK (incEv c j) = false := by
    unfold badK incEv; simp only [Bool.or_eq_false_iff, decide_eq_false_iff_not]; omega
  have hp : place incE (incEv c j).Candidate = some 0 := by simp [place, incE, incEv]
  unfold stepA
  rw [hk, hp]
  simp only [Bool.false_eq_true, if_false, incE, List.getElem?_cons_zero]
  rw [if_neg (by simp [incEv])]
  have hlen : ∀ m, (incL c m).length = m := fun m => by simp [incL]
  have hh : handA ⟨1, 0, -1, -1, incL c (min j 8)⟩ (incEv c j) = if 8 ≤ j then (3, ⟨1, 0, -1, -1, incL c (min (j + 1) 8)⟩) else (0, ⟨1, 0, -1, -1, incL c (min (j + 1) 8)⟩) := by
    unfold handA
    simp only [incEv, hlen]
    by_cases h8 : 8 ≤ j
    · have e1 : min j 8 = 8 := by omega
      have e2 : min (j + 1) 8 = 8 := by omega
      simp [h8, e1, e2]
    · have e1 : min j 8 = j := by omega
      have e2 : min (j + 1) 8 = j + 1 := by omega
      have e3 : incL c j ++ [(j : Int) + c] = incL c (j + 1) := by simp [incL, List.range_succ]
      simp [h8, e1, e2, e3]
  rw [hh]
  split <;> simp
theorem inc_fold {c : Int} (hc : 0 ≤ c ∧ c < 500) : ∀ (m j : Nat), j + m ≤ 12 → foldA incE 100 ((List.range' j m).map (incEv c)) [⟨1, 0, -1, -1, incL c (min j 8)⟩] (incR (j - 8)) = ([⟨1, 0, -1, -1, incL c (min (j + m) 8)⟩], incR (j + m - 8), 0)
  | 0, j, _ => by simp [foldA]
  | m + 1, j, h => by
    simp only [List.range'_succ, List.map_cons, foldA]
    rw [if_neg (show ¬ (100 : Int) < (incEv c j).Stamp.Time by simp only [incEv]; omega), inc_step hc (by omega)]
    have ih := inc_fold hc m (j + 1) (by omega)
    rw [show j + (m + 1) = j + 1 + m by omega, ← ih]
    by_cases h8 : 8 ≤ j
    · have e1 : incR (j - 8) ++ [⟨⟨(incEv c j).Stamp.Source, (incEv c j).Stamp.Seq⟩, 3⟩] = incR (j + 1 - 8) := by
        rw [show j + 1 - 8 = (j - 8) + 1 by omega]
        simp only [incR, incEv, List.range_succ, List.map_append, List.map_cons, List.map_nil]
        congr 4
        omega
      simp [h8, e1]
    · have e1 : j - 8 = 0 := by omega
      have e2 : j + 1 - 8 = 0 := by omega
      simp [h8, e1, e2]
theorem law_AttendanceIncidents (a b : Int) : ∃ F, law16_AttendanceIncidents F a b = some true := by
  refine ⟨2000, ?_⟩
  obtain ⟨r, r1, r2, r3, _⟩ := cut_s a 12 (by omega)
  obtain ⟨c, c1, c2, c3, _⟩ := cut_s b 500 (by omega)
  have r4 := r3 (by omega)
  have c4 := c3 (by omega)
  obtain ⟨m, rfl⟩ : ∃ m : Nat, r = (m : Int) := ⟨r.toNat, by omega⟩
  have hcode : foldE incE (((List.range m).map (incEv c)).reverse) 100 = ([⟨1, 0, -1, -1, incL c (min m 8)⟩], incR (m - 8), 0) := by
    rw [foldE_small (by simp; omega) (by decide), inc_ev (by omega)]
    have := inc_fold ⟨c2, c4⟩ m 0 (by omega)
    rw [List.range_eq_range']
    simpa [incE, init, incL, incR] using this
  unfold law16_AttendanceIncidents
  rw [r1]; simp only [Option.bind_some]
  have keyR : ∀ (k i n : Nat), i + k = m - 8 → k < n → law16_AttendanceIncidents_L3 2000 ([⟨1, 0, -1, -1, incL c (min m 8)⟩], incR (m - 8), 0) n (i : Int) = some true := by
    intro k
    induction k with
    | zero => intro i n hi hn; cases n with
      | zero => omega
      | succ n =>
        have d : decide ((i : Int) < ((incR (m - 8)).length : Int)) = false := by simp [incR]; omega
        simp only [law16_AttendanceIncidents_L3, law16_AttendanceIncidents_L3_B, d, Bool.false_eq_true, if_false, awake_s (Nat.le_refl 2000), Option.bind_some]
    | succ k ih => intro i n hi hn; cases n with
      | zero => omega
      | succ n =>
        have hl : i < (incR (m - 8)).length := by simp [incR]; omega
        have d : decide ((i : Int) < ((incR (m - 8)).length : Int)) = true := by simp; omega
        have e1 : (incR (m - 8))[i] = ⟨⟨2, 8 + i⟩, 3⟩ := by simp [incR]
        have e2 : i64 (8 + (i : Int)) = 8 + i := i64_of (by omega) (by omega)
        simp only [law16_AttendanceIncidents_L3, law16_AttendanceIncidents_L3_B, d, if_true, idx_lt hl, Option.bind_some, e1, e2, decide_true, Bool.not_true, Bool.false_eq_true, if_false]
        rw [nxtN (by omega)]
        exact ih (i + 1) n (by omega) (by omega)
  have keyI : ∀ (k i n : Nat), i + k = min m 8 → k < n → law16_AttendanceIncidents_L2 2000 b ([⟨1, 0, -1, -1, incL c (min m 8)⟩], incR (m - 8), 0) n (i : Int) = some true := by
    intro k
    induction k with
    | zero => intro i n hi hn; cases n with
      | zero => omega
      | succ n =>
        have d : decide ((i : Int) < ((incL c (min m 8)).length : Int)) = false := by simp only [incL, List.length_map, List.length_range]; rw [decide_eq_false_iff_not]; omega
        have i0 : idx [(⟨1, 0, -1, -1, incL c (min m 8)⟩ : GAttendance)] 0 = some ⟨1, 0, -1, -1, incL c (min m 8)⟩ := rfl
        simp only [law16_AttendanceIncidents_L2, law16_AttendanceIncidents_L2_B, i0, Option.bind_some, d, Bool.false_eq_true, if_false]
        exact keyR (m - 8) 0 2000 (by omega) (by omega)
    | succ k ih => intro i n hi hn; cases n with
      | zero => omega
      | succ n =>
        have hl : i < (incL c (min m 8)).length := by simp only [incL, List.length_map, List.length_range]; omega
        have d : decide ((i : Int) < ((incL c (min m 8)).length : Int)) = true := by rw [decide_eq_true_eq]; omega
        have e1 : (incL c (min m 8))[i] = i + c := by simp [incL]
        have e2 : i64 ((i : Int) + c) = i + c := i64_of (by omega) (by omega)
        have i0 : idx [(⟨1, 0, -1, -1, incL c (min m 8)⟩ : GAttendance)] 0 = some ⟨1, 0, -1, -1, incL c (min m 8)⟩ := rfl
        simp only [law16_AttendanceIncidents_L2, law16_AttendanceIncidents_L2_B, i0, d, if_true, idx_lt hl, Option.bind_some, c1, e1, e2, bne_self_eq_false, Bool.false_eq_true, if_false]
        rw [nxtN (by omega)]
        exact ih (i + 1) n (by omega) (by omega)
  have key : ∀ (k n : Nat) (acc : List GRegisterEvent), acc ++ ((List.range k).map (incEv c)).reverse = ((List.range m).map (incEv c)).reverse → k < n → acc.length ≤ 12 → law16_AttendanceIncidents_L1 2000 b (m : Int) n ((k : Int) - 1) acc = some true := by
    intro k
    induction k with
    | zero => intro n acc ha hn hl; cases n with
      | zero => omega
      | succ n =>
        have ha' : acc = ((List.range m).map (incEv c)).reverse := by simpa using ha
        have d : decide (((0 : Nat) : Int) - 1 ≥ 0) = false := by decide
        simp only [law16_AttendanceIncidents_L1, law16_AttendanceIncidents_L1_B, d, Bool.false_eq_true, if_false]
        rw [fold_s (Nat.le_refl 2000) (by simp) (by omega), ha']
        show ((some (foldE incE _ 100)).bind _) = _
        rw [hcode]
        have i0 : idx [(⟨1, 0, -1, -1, incL c (min m 8)⟩ : GAttendance)] 0 = some ⟨1, 0, -1, -1, incL c (min m 8)⟩ := rfl
        have l1 : (((incL c (min m 8)).length : Int) != (min (m : Int) 8)) = false := by simp only [incL, List.length_map, List.length_range, bne_eq_false_iff_eq]; omega
        have l2 : (((incR (m - 8)).length : Int) != (max (i64 ((m : Int) - 8)) 0)) = false := by rw [i64_of (by omega) (by omega)]; simp only [incR, List.length_map, List.length_range, bne_eq_false_iff_eq]; omega
        have l3 : ((([(⟨1, 0, -1, -1, incL c (min m 8)⟩ : GAttendance)].length : Nat) : Int) != 1) = false := by simp
        simp only [Option.bind_some, bne_self_eq_false, Bool.false_eq_true, if_false, l3, i0, l1, l2]
        exact keyI (min m 8) 0 2000 (by omega) (by omega)
    | succ k ih => intro n acc ha hn hl; cases n with
      | zero => omega
      | succ n =>
        have hlen := congrArg List.length ha
        simp at hlen
        have d : decide (((k + 1 : Nat) : Int) - 1 ≥ 0) = true := by simp
        have e1 : ((k + 1 : Nat) : Int) - 1 = (k : Int) := by omega
        simp only [law16_AttendanceIncidents_L1, law16_AttendanceIncidents_L1_B, d, if_true, c1, Option.bind_some, e1]
        rw [app_of (by simp; omega)]
        simp only [Option.bind_some]
        rw [i64_of (n := (k : Int) + c) (by omega) (by omega), i64_of (n := (k : Int) - 1) (by omega) (by omega)]
        refine ih n _ ?_ (by omega) (by simp; omega)
        rw [← ha]
        simp [List.range_succ, incEv]
  have := key m 2000 [] (by simp) (by omega) (by simp)
  rw [i64_of (by omega) (by omega)]
  exact this
/- a step, at one place -/
theorem place_lt {l : List GEnrolment} {c : Int} {k : Nat} (h : place l c = some k) : ∃ y, l[k]? = some y ∧ y.Entry.Candidate = c := by
  unfold place at h
  rw [List.findIdx?_eq_some_iff_getElem] at h
  obtain ⟨h1, h2, _⟩ := h
  exact ⟨l[k], List.getElem?_eq_getElem h1, by simpa using h2⟩
def hitB (l : List GEnrolment) (k : Nat) (y : GEnrolment) (e : GRegisterEvent) : Prop := badK e = false ∧ place l e.Candidate = some k ∧ (e.Stamp.Source = 0 ∨ e.Stamp.Source = y.Entry.Centre)
instance (l : List GEnrolment) (k : Nat) (y : GEnrolment) (e : GRegisterEvent) : Decidable (hitB l k y e) := by unfold hitB; infer_instance
theorem stepA_get {l : List GEnrolment} {all : List GAttendance} {e : GRegisterEvent} (hl : all.length = l.length) {k : Nat} {y : GEnrolment} {x : GAttendance} (hy : l[k]? = some y) (hx : all[k]? = some x) : (stepA l all e).2[k]? = some (if hitB l k y e then (handA x e).2 else x) := by
  by_cases hk : badK e = true
  · have hn : ¬ hitB l k y e := fun h => by have := h.1; rw [hk] at this; cases this
    rw [if_neg hn]
    unfold stepA
    rw [if_pos hk]; exact hx
  · have hk' : badK e = false := by simpa using hk
    have hI : (if hitB l k y e then (handA x e).2 else x) = if place l e.Candidate = some k ∧ (e.Stamp.Source = 0 ∨ e.Stamp.Source = y.Entry.Centre) then (handA x e).2 else x := by
      by_cases hh : hitB l k y e
      · rw [if_pos hh, if_pos hh.2]
      · rw [if_neg hh, if_neg fun h => hh ⟨hk', h⟩]
    rw [hI]
    unfold stepA
    rw [if_neg hk]
    cases hp : place l e.Candidate with
    | none => simp [hx]
    | some j =>
      obtain ⟨y', hy', _⟩ := place_lt hp
      have hj : j < all.length := by rw [hl]; exact (List.getElem?_eq_some_iff.1 hy').1
      have hx' : all[j]? = some all[j] := List.getElem?_eq_getElem hj
      simp only [hy', hx']
      by_cases hjk : j = k
      · subst hjk
        rw [hy] at hy'; cases hy'
        rw [hx] at hx'; cases hx'
        by_cases hq : e.Stamp.Source ≠ 0 ∧ e.Stamp.Source ≠ y.Entry.Centre
        · rw [if_pos hq, if_neg (fun hh => hh.2.elim hq.1 hq.2)]
          exact hx
        · rw [if_neg hq, if_pos ⟨rfl, by
            by_cases hz : e.Stamp.Source = 0
            · exact .inl hz
            · exact .inr (Classical.byContradiction fun hc => hq ⟨hz, hc⟩)⟩]
          simp only
          rw [List.getElem?_set_self hj]
      · rw [if_neg (show ¬ (some j = some k ∧ _) by rintro ⟨h, _⟩; exact hjk (Option.some.inj h))]
        split
        · exact hx
        · simp only
          rw [List.getElem?_set_ne hjk]; exact hx
/- Own -/
theorem own_fold {l : List GEnrolment} {u c : Int} (hc : 1 ≤ c) {k : Nat} {y : GEnrolment} (hy : l[k]? = some y) (hyc : y.Entry.Centre ≠ c) : ∀ (s : List GRegisterEvent) (a b : List GAttendance) (r r' : List GRefusal) (x : GAttendance), a.length = l.length → b.length = l.length → a[k]? = some x → b[k]? = some x → Cands l a → Cands l b →
    (foldA l u s a r).1[k]? = (foldA l u (s.filter fun e => e.Stamp.Source != c) b r').1[k]?
  | [], a, b, r, r', x, _, _, ha, hb, _, _ => by simp [foldA, ha, hb]
  | e :: s, a, b, r, r', x, la, lb, ha, hb, ca, cb => by
    have ga := stepA_get (e := e) la hy ha
    have gb := stepA_get (e := e) lb hy hb
    have ca' := stepA_cands ca e
    have cb' := stepA_cands cb e
    by_cases hs : e.Stamp.Source = c
    · have hf : (e.Stamp.Source != c) = false := by simp [hs]
      rw [List.filter_cons, hf]
      simp only [Bool.false_eq_true, if_false, foldA]
      by_cases hu : u < e.Stamp.Time
      · rw [if_pos hu]; exact own_fold hc hy hyc s a b r r' x la lb ha hb ca cb
      · rw [if_neg hu]
        have hn : ¬ hitB l k y e := by
          rintro ⟨_, _, h | h⟩
          · omega
          · exact hyc (by rw [← h, hs])
        rw [if_neg hn] at ga
        exact own_fold hc hy hyc s _ b _ r' x ca'.len lb ga hb ca' cb
    · have hf : (e.Stamp.Source != c) = true := by simp [hs]
      rw [List.filter_cons, hf]
      simp only [if_true, foldA]
      by_cases hu : u < e.Stamp.Time
      · rw [if_pos hu, if_pos hu]; exact own_fold hc hy hyc s a b r r' x la lb ha hb ca cb
      · rw [if_neg hu, if_neg hu]
        exact own_fold hc hy hyc s _ _ _ _ _ ca'.len cb'.len ga gb ca' cb'
theorem ev_filter {ev : List GRegisterEvent} (q : GRegisterEvent → Bool) : evL (·.Stamp) ((evL (·.Stamp) ev).filter q) = (evL (·.Stamp) ev).filter q := by
  have h := evL_is (fun x : GRegisterEvent => x.Stamp) ev
  refine (evL_is (fun x : GRegisterEvent => x.Stamp) _).unique ⟨List.Pairwise.filter q h.sorted, fun e => ?_⟩
  unfold SetC
  constructor
  · intro he
    have he1 := (List.mem_filter.1 he).1
    have hs := (h.mem e).1 he1
    refine ⟨he, hs.2.1, fun e' he' hg hsid => hs.2.2 e' ?_ hg hsid⟩
    exact ((h.mem e').1 (List.mem_filter.1 he').1).1
  · exact fun h => h.1
theorem foldE_cands {l : List GEnrolment} {ev : List GRegisterEvent} {u : Int} (hl : ev.length ≤ 300) (hc : checkA l = 0) : Cands l (foldE l ev u).1 := by
  rw [foldE_small hl hc]
  exact foldA_inv (I := Cands l) (init_cands l) fun e _ _ all h => stepA_cands h e
theorem law_AttendanceOwn (t : List Int) (x : Int) : ∃ F, law16_AttendanceOwn F t x = some true := by
  refine ⟨2000, ?_⟩
  obtain ⟨t0, a1, a2⟩ := new_s t
  obtain ⟨en, t1, b1, b2, b3, b4⟩ := enrolled_s (F := 2000) a2 0 (by omega) (by omega)
  obtain ⟨l, t2, c1, c2, c3⟩ := regEvents_s (F := 2000) b2 12 8 (by omega) (by omega) (by omega)
  obtain ⟨d, d1, d2, d3, _⟩ := cut_s x 3 (by omega)
  have d4 := d3 (by omega)
  have hd := b4 rfl
  have hc1 : i64 (1 + d) = 1 + d := i64_of (by omega) (by omega)
  have hel := evL_le (fun x : GRegisterEvent => x.Stamp) l
  unfold law16_AttendanceOwn
  rw [a1]; simp only [Option.bind_some]
  rw [b1]; simp only [Option.bind_some]
  rw [show (12 : Int) = ((12 : Nat) : Int) from rfl, c1]; simp only [Option.bind_some]
  rw [d1]; simp only [Option.bind_some]
  rw [canonicalP_s (by omega) (by omega) (by omega), canonEv_small (by omega)]; simp only [Option.bind_some]
  have hA := foldE_cands (u := 1000000) (show l.length ≤ 300 by omega) hd
  have hB0 : ((evL (·.Stamp) l).filter fun e => e.Stamp.Source != 1 + d).length ≤ 300 := Nat.le_trans (List.length_filter_le _ _) (by omega)
  have hB := foldE_cands (u := 1000000) hB0 hd
  have hget : ∀ (k : Nat) (y : GEnrolment), en[k]? = some y → y.Entry.Centre ≠ 1 + d → (foldE en l 1000000).1[k]? = (foldE en ((evL (·.Stamp) l).filter fun e => e.Stamp.Source != 1 + d) 1000000).1[k]? := by
    intro k y hy hyc
    rw [foldE_small (by omega) hd, foldE_small hB0 hd, ev_filter]
    exact own_fold (by omega) hy hyc _ _ _ _ _ (init y) (by simp) (by simp) (by simp [hy]) (by simp [hy]) (init_cands en) (init_cands en)
  have key2 : ∀ (k i n : Nat), i + k = en.length → k < n → law16_AttendanceOwn_L2 2000 (en, t1) d (foldE en l 1000000) (foldE en ((evL (·.Stamp) l).filter fun e => e.Stamp.Source != 1 + d) 1000000) n (i : Int) = some true := by
    intro k
    induction k with
    | zero => intro i n hi hn; cases n with
      | zero => omega
      | succ n =>
        have e1 : decide ((i : Int) < (en.length : Int)) = false := by simp; omega
        simp only [law16_AttendanceOwn_L2, law16_AttendanceOwn_L2_B, e1, Bool.false_eq_true, if_false, awake_s (Nat.le_refl 2000), Option.bind_some]
    | succ k ih => intro i n hi hn; cases n with
      | zero => omega
      | succ n =>
        have hil : i < en.length := by omega
        have e1 : decide ((i : Int) < (en.length : Int)) = true := by simp; omega
        simp only [law16_AttendanceOwn_L2, law16_AttendanceOwn_L2_B, e1, if_true, idx_lt hil, Option.bind_some, hc1]
        rw [nxtN (by omega)]
        by_cases hce : en[i].Entry.Centre = 1 + d
        · simp only [hce, bne_self_eq_false, Bool.false_eq_true, if_false, Option.bind_some]
          exact ih (i + 1) n (by omega) (by omega)
        · have hce' : (en[i].Entry.Centre != 1 + d) = true := by simp [hce]
          have g := hget i en[i] (List.getElem?_eq_getElem hil) hce
          have l1 : i < (foldE en l 1000000).1.length := by rw [hA.len]; exact hil
          have g1 := List.getElem?_eq_getElem l1
          have hinc := foldE_inc (l := en) (ev := l) (u := 1000000) _ (List.getElem_mem l1)
          have hsame : ref16_Same 2000 (foldE en l 1000000).1[i] (foldE en l 1000000).1[i] = some true := sameA_s (by omega) (by omega)
          simp only [hce', if_true, idx_nat, ← g, g1, Option.bind_some, hsame, Bool.not_true, Bool.false_eq_true, if_false]
          exact ih (i + 1) n (by omega) (by omega)
  have key : ∀ (s p : List GRegisterEvent) (n : Nat), evL (·.Stamp) l = p ++ s → s.length < n → law16_AttendanceOwn_L1 2000 (en, t1) (l, t2) d (evL (·.Stamp) l, 0) n (p.length : Int) (p.filter fun e => e.Stamp.Source != 1 + d) = some true := by
    intro s
    induction s with
    | nil => intro p n hp hn; cases n with
      | zero => omega
      | succ n =>
        have hp' : p = evL (·.Stamp) l := by simpa using hp.symm
        rw [hp']
        have hcode : (foldE en l 1000000).2.2 = 0 := by rw [foldE_small (by omega) hd]; exact foldA_code
        have hcode2 : (foldE en ((evL (·.Stamp) l).filter fun e => e.Stamp.Source != 1 + d) 1000000).2.2 = 0 := by rw [foldE_small hB0 hd]; exact foldA_code
        simp only [law16_AttendanceOwn_L1, law16_AttendanceOwn_L1_B, Int.lt_irrefl, decide_false, Bool.false_eq_true, if_false]
        rw [fold_s (Nat.le_refl 2000) (by omega) (by omega), fold_s (Nat.le_refl 2000) (by omega) (by omega)]
        simp only [Option.bind_some, hcode, hcode2, hA.len, hB.len, bne_self_eq_false, Bool.or_self, Bool.false_eq_true, if_false]
        exact key2 en.length 0 2000 (by omega) (by omega)
    | cons e s ih => intro p n hp hn; cases n with
      | zero => omega
      | succ n =>
        have hlen : p.length < 1000000 := by have := congrArg List.length hp; simp at this; omega
        have hfl : (p.filter fun e => e.Stamp.Source != 1 + d).length ≤ p.length := List.length_filter_le _ _
        have e1 : decide ((p.length : Int) < ((evL (·.Stamp) l).length : Int)) = true := by rw [hp]; exact dlt p e s
        have i1 : idx (evL (·.Stamp) l) (p.length : Int) = some e := by rw [hp]; exact idx_at p e s
        simp only [law16_AttendanceOwn_L1, law16_AttendanceOwn_L1_B, e1, if_true, i1, Option.bind_some, hc1]
        rw [nxt p e (by omega)]
        have hrec := ih (p ++ [e]) n (by rw [hp]; simp) (by simpa using hn)
        by_cases hce : e.Stamp.Source = 1 + d
        · have hce' : (e.Stamp.Source != 1 + d) = false := by simp [hce]
          rw [List.filter_append, List.filter_cons, hce'] at hrec
          simp only [hce', Bool.false_eq_true, if_false]
          simpa using hrec
        · have hce' : (e.Stamp.Source != 1 + d) = true := by simp [hce]
          rw [List.filter_append, List.filter_cons, hce'] at hrec
          simp only [hce', if_true]
          rw [app_of (by simp; omega)]
          simpa using hrec
  exact key (evL (·.Stamp) l) [] 2000 rfl (by omega)
end Go.Sh
