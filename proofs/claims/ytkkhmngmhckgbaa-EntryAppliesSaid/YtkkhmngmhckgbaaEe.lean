/- Plain laws of chapter 13, part 5: more laws. -/
import Derived.Test.YtkkhmngmhckgbaaEd
set_option linter.unusedVariables false
set_option linter.unusedSimpArgs false
namespace Go.Sh
open Go.L

/-- behind the last deadline nothing changes -/
theorem step_late {l : List GEnrolment} {d : GDeadlines} {e : GEntryEvent} (h : d.Late < e.Stamp.Time) : (stepS l d e).2 ≠ 0 := by
  unfold stepS
  split
  · simp
  · split
    · simp
    · simp [h]
theorem foldS_late {d : GDeadlines} {u v : Int} (hu : d.Late ≤ u) (hv : d.Late ≤ v) : ∀ {s : List GEntryEvent} {l : List GEnrolment} {r r' : List GRefusal}, (foldS d u s l r).1 = (foldS d v s l r').1
  | [], _, _, _ => rfl
  | e :: s, l, r, r' => by
    simp only [foldS]
    by_cases h : d.Late < e.Stamp.Time
    · have h0 := step_late (l := l) h
      simp only [h0, ne_eq, not_false_eq_true, if_true]
      split
      · split
        · exact foldS_late hu hv
        · exact foldS_late hu hv
      · split
        · exact foldS_late hu hv
        · exact foldS_late hu hv
    · have h1 : ¬ u < e.Stamp.Time := by omega
      have h2 : ¬ v < e.Stamp.Time := by omega
      simp only [h1, h2, if_false]
      split
      · exact foldS_late hu hv
      · exact foldS_late hu hv
theorem step_inTime {l : List GEnrolment} {d : GDeadlines} {e : GEntryEvent} (h : e.Stamp.Time ≤ d.Close) (hl : ∀ x ∈ l, x.Late = false) (h0 : (stepS l d e).2 = 0) : ∀ x ∈ (stepS l d e).1, x.Late = false := by
  have hlo : ∀ x ∈ lo l e.Entry, x.Late = false := fun x hx => hl x (mem_lh.2 (.inl hx))
  have hhi : ∀ x ∈ hi l e.Entry, x.Late = false := fun x hx => hl x (mem_lh.2 (.inr hx))
  have hc : ¬ d.Close < e.Stamp.Time := by omega
  unfold stepS at h0 ⊢
  split
  · simp
  · split
    · simp
    · split
      · simp
      · cases hat : atE l e.Entry with
        | none =>
          simp only
          split
          · split
            · simp
            · intro x hx
              simp only [List.mem_append, List.mem_cons] at hx
              rcases hx with hx | rfl | hx
              · exact hlo x hx
              · simp [hc]
              · exact hhi x hx
          · simp
        | some y =>
          simp only
          obtain ⟨hh, _⟩ := atE_some hat
          split
          · split <;> simp
          · split
            · simp
            · split
              · intro x hx
                rcases List.mem_append.1 hx with hx | hx
                · exact hlo x hx
                · exact hhi x (List.mem_of_mem_drop hx)
              · intro x hx
                simp only [List.mem_append, List.mem_cons] at hx
                rcases hx with hx | rfl | hx
                · exact hlo x hx
                · exact hhi y (by rw [hh]; simp)
                · exact hhi x (List.mem_of_mem_drop hx)
theorem law_EntryCloses (t : List Int) (later : Int) : ∃ F, law13_EntryCloses F t later = some true := by
  refine ⟨2000, ?_⟩
  obtain ⟨t0, a1, a2⟩ := new_s t
  obtain ⟨d, t1, b1, b2, b3⟩ := deadlines_s a2 0 (by omega)
  obtain ⟨l, t2, c1, c2, c3⟩ := entryEvents_s (F := 2000) b2 12 8 (by omega) (by omega) (by omega)
  obtain ⟨hd, hd1, hd2⟩ := b3 rfl
  obtain ⟨k, k1, k2, k3, _⟩ := cut_s later 40 (by omega)
  have k4 := k3 (by omega)
  have hd3 : d.Close ≤ d.Late := by unfold dOk at hd; simp only [Bool.and_eq_true, decide_eq_true_eq] at hd; omega
  unfold law13_EntryCloses
  rw [a1]; simp only [Option.bind_some]
  rw [b1]; simp only [Option.bind_some]
  rw [show (12 : Int) = ((12 : Nat) : Int) from rfl, c1]; simp only [Option.bind_some]
  rw [efold_s (Nat.le_refl 2000) (by omega)]; simp only [Option.bind_some]
  rw [k1]; simp only [Option.bind_some]
  rw [i64_of (by omega) (by omega)]
  rw [efold_s (Nat.le_refl 2000) (by omega)]; simp only [Option.bind_some]
  rw [efold_s (Nat.le_refl 2000) (by omega)]; simp only [Option.bind_some]
  have hs : ∀ u, foldE l d u = foldS d u (evL (·.Stamp) l) [] [] := fun u => foldE_small (by omega) hd
  have hcode : ∀ u, (foldE l d u).2.2 = 0 := fun u => by rw [hs]; exact foldS_code
  have heq : (foldE l d (d.Late + k)).1 = (foldE l d d.Late).1 := by rw [hs, hs]; exact foldS_late (by omega) (by omega)
  have hin : ∀ x ∈ (foldE l d d.Close).1, x.Late = false := by
    rw [hs]
    exact foldS_inv (I := fun l => ∀ x ∈ l, x.Late = false) (by simp) fun e _ he l hl h0 => step_inTime he hl h0
  have q1 : (foldE l d d.Late).1.length ≤ 300 := foldE_vl.len
  have q2 : (foldE l d d.Close).1.length ≤ 300 := foldE_vl.len
  have g1 := hcode d.Late
  have g2 := hcode (d.Late + k)
  have g3 := hcode d.Close
  revert heq hin q1 q2 g1 g2 g3
  generalize foldE l d d.Late = A
  generalize foldE l d (d.Late + k) = B
  generalize foldE l d d.Close = C
  intro heq hin q1 q2 g1 g2 g3
  have key : ∀ (s p : List GEnrolment) (n : Nat), C.1 = p ++ s → s.length < n → law13_EntryCloses_L1 2000 A B C n (p.length : Int) = some true := by
    intro s
    induction s with
    | nil => intro p n hp hn; cases n with
      | zero => omega
      | succ n =>
        have : C.1 = p := by simpa using hp
        rw [← this]
        simp only [law13_EntryCloses_L1, law13_EntryCloses_L1_B, Int.lt_irrefl, decide_false, Bool.false_eq_true, if_false, g1, g2, g3, beq_self_eq_true, if_true, heq]
        rw [same_s (by omega) (by omega)]
        simp only [Option.bind_some, if_true, eawake_s (Nat.le_refl 2000)]
    | cons e s ih => intro p n hp hn; cases n with
      | zero => omega
      | succ n =>
        have hlen : p.length < 1000000 := by have := congrArg List.length hp; simp at this; omega
        have he := hin e (by rw [hp]; simp)
        have d1 : decide ((p.length : Int) < (C.1.length : Int)) = true := by rw [hp]; exact dlt p e s
        have i1 : idx C.1 (p.length : Int) = some e := by rw [hp]; exact idx_at p e s
        simp only [law13_EntryCloses_L1, law13_EntryCloses_L1_B, d1, if_true, i1, Option.bind_some, he, Bool.false_eq_true, if_false]
        rw [nxt p e (by omega)]
        exact ih (p ++ [e]) n (by rw [hp]; simp) (by simpa using hn)
  exact key C.1 [] 2000 rfl (by omega)
/- Find, Paper -/
def findS (l : List GEnrolment) (c q : Int) : GEnrolment × Bool := match l.find? (isE c q) with | some x => (x, true) | .none => (GEnrolment.mk (GEntry.mk 0 0 0) false, false)
theorem find_loop (c q : Int) : ∀ (s p : List GEnrolment) (n : Nat), (p ++ s).length < 1000000 → s.length < n → entry_Find_L1 (p ++ s) c q n (p.length : Int) = some (findS s c q) := by
  intro s
  induction s with
  | nil => intro p n hb hn; cases n with
    | zero => omega
    | succ n => simp only [entry_Find_L1, entry_Find_L1_B, dge, Bool.false_eq_true, if_false, findS, List.find?_nil]
  | cons x s ih => intro p n hb hn; cases n with
    | zero => omega
    | succ n =>
      have hl : p.length < 1000000 := by simp at hb; omega
      have hrec := ih (p ++ [x]) n (by simpa using hb) (by simpa using hn)
      rw [← snoc] at hrec
      simp only [entry_Find_L1, entry_Find_L1_B, dlt, idx_at, if_true, Option.bind_some]
      rw [nxt p x (by omega), hrec]
      have : findS (x :: s) c q = if ((x.Entry.Candidate == c) && (x.Entry.Paper == q)) = true then (x, true) else findS s c q := by
        unfold findS; rw [List.find?_cons]; unfold isE
        cases ((x.Entry.Candidate == c) && (x.Entry.Paper == q)) <;> simp
      rw [this]
      cases ((x.Entry.Candidate == c) && (x.Entry.Paper == q)) <;> simp
theorem find_s {F : Nat} {l : List GEnrolment} {c q : Int} (hb : l.length < 1000000) (hF : l.length < F) : entry_Find F l c q = some (findS l c q) := by
  have := find_loop c q l [] F (by simpa using hb) hF
  simpa [entry_Find] using this
theorem rfind_s {F : Nat} {l : List GEnrolment} {c q : Int} (hb : l.length < 1000000) (hF : l.length < F) : ref13_Find F l c q = some (findS l c q) := by
  unfold ref13_Find
  rw [index_s _ _ hb hF]
  simp only [Option.bind_some]
  cases h : l.findIdx? (isE c q) with
  | none =>
    have : l.find? (isE c q) = .none := by
      rw [List.findIdx?_eq_none_iff] at h
      rw [List.find?_eq_none]; intro x hx; simpa using h x hx
    simp [findS, this]
  | some i =>
    rw [List.findIdx?_eq_some_iff_getElem] at h
    obtain ⟨h1, h2, h3⟩ := h
    have : l.find? (isE c q) = some l[i] := by
      rw [List.find?_eq_some_iff_getElem]
      exact ⟨h2, i, h1, rfl, fun k hk => by simpa using h3 k hk⟩
    have d : decide ((i : Int) < 0) = false := by simp
    simp only [d, Bool.false_eq_true, if_false, idx_lt h1, Option.bind_some, findS, this]
theorem paper_loop (q : Int) : ∀ (s p : List GEnrolment) (n : Nat) (acc : List GEnrolment), (p ++ s).length < 1000000 → s.length < n → acc.length ≤ p.length → entry_Paper_L1 (p ++ s) q n (p.length : Int) acc = some (acc ++ s.filter fun x => x.Entry.Paper == q) := by
  intro s
  induction s with
  | nil => intro p n acc hb hn ha; cases n with
    | zero => omega
    | succ n => simp only [entry_Paper_L1, entry_Paper_L1_B, dge, Bool.false_eq_true, if_false, List.filter_nil]; simp
  | cons x s ih => intro p n acc hb hn ha; cases n with
    | zero => omega
    | succ n =>
      have hl : p.length < 1000000 := by simp at hb; omega
      simp only [entry_Paper_L1, entry_Paper_L1_B, dlt, idx_at, if_true, Option.bind_some]
      rw [nxt p x (by omega), snoc, List.filter_cons]
      cases (x.Entry.Paper == q) with
      | true =>
        simp only [if_true]
        rw [app_of (by simp; omega)]
        simp only [Option.bind_some]
        rw [ih (p ++ [x]) n _ (by simpa using hb) (by simpa using hn) (by simp; omega)]
        simp
      | false =>
        simp only [Bool.false_eq_true, if_false]
        exact ih (p ++ [x]) n _ (by simpa using hb) (by simpa using hn) (by simp; omega)
theorem rpaper_loop (q : Int) : ∀ (s p : List GEnrolment) (n : Nat) (acc : List GEnrolment), (p ++ s).length < 1000000 → s.length < n → acc.length ≤ p.length → ref13_Paper_L1 (p ++ s) q n (p.length : Int) acc = some (acc ++ s.filter fun x => x.Entry.Paper == q) := by
  intro s
  induction s with
  | nil => intro p n acc hb hn ha; cases n with
    | zero => omega
    | succ n => simp only [ref13_Paper_L1, ref13_Paper_L1_B, dge, Bool.false_eq_true, if_false, List.filter_nil]; simp
  | cons x s ih => intro p n acc hb hn ha; cases n with
    | zero => omega
    | succ n =>
      have hl : p.length < 1000000 := by simp at hb; omega
      simp only [ref13_Paper_L1, ref13_Paper_L1_B, dlt, idx_at, if_true, Option.bind_some]
      rw [nxt p x (by omega), snoc, List.filter_cons]
      cases (x.Entry.Paper == q) with
      | true =>
        simp only [if_true]
        rw [app_of (by simp; omega)]
        simp only [Option.bind_some]
        rw [ih (p ++ [x]) n _ (by simpa using hb) (by simpa using hn) (by simp; omega)]
        simp
      | false =>
        simp only [Bool.false_eq_true, if_false]
        exact ih (p ++ [x]) n _ (by simpa using hb) (by simpa using hn) (by simp; omega)
theorem paper_s {F : Nat} {l : List GEnrolment} {q : Int} (hb : l.length < 1000000) (hF : l.length < F) : entry_Paper F l q = some (l.filter fun x => x.Entry.Paper == q) ∧ ref13_Paper F l q = some (l.filter fun x => x.Entry.Paper == q) := by
  have h1 := paper_loop q l [] F [] (by simpa using hb) hF (by simp)
  have h2 := rpaper_loop q l [] F [] (by simpa using hb) hF (by simp)
  exact ⟨by simpa [entry_Paper] using h1, by simpa [ref13_Paper] using h2⟩
theorem law_EntryFinds (l : List GEnrolment) (t : List Int) (c q : Int) : ∃ F, law13_EntryFinds F l t c q = some true := by
  refine ⟨2000, ?_⟩
  unfold law13_EntryFinds
  by_cases h40 : l.length > 40
  · have : decide ((l.length : Int) > 40) = true := by simp; omega
    simp [this]
  · have : decide ((l.length : Int) > 40) = false := by rw [decide_eq_false_iff_not]; omega
    simp only [this, Bool.false_eq_true, if_false]
    obtain ⟨t0, a1, a2⟩ := new_s t
    obtain ⟨m, t2, c1, c2, c3⟩ := entryEvents_s (F := 2000) a2 10 0 (by omega) (by omega) (by omega)
    obtain ⟨x, x1, _⟩ := cut_s c 5 (by omega)
    obtain ⟨y, y1, _⟩ := cut_s q 3 (by omega)
    rw [a1]; simp only [Option.bind_some]
    rw [show (10 : Int) = ((10 : Nat) : Int) from rfl, c1]; simp only [Option.bind_some]
    rw [rfold_s (Nat.le_refl 2000) (by omega)]; simp only [Option.bind_some]
    have q1 : (foldE m (GDeadlines.mk 20 30) 30).1.length ≤ 300 := foldE_vl.len
    revert q1
    generalize foldE m (GDeadlines.mk 20 30) 30 = A
    intro q1
    have f1 := List.length_filter_le (fun x : GEnrolment => x.Entry.Paper == q) l
    have f2 := List.length_filter_le (fun x : GEnrolment => x.Entry.Paper == y) A.1
    rw [x1, y1]; simp only [Option.bind_some]
    rw [find_s (by omega) (by omega), rfind_s (by omega) (by omega), find_s (by omega) (by omega), rfind_s (by omega) (by omega)]
    simp only [Option.bind_some, decide_true, if_true, beq_self_eq_true]
    rw [(paper_s (F := 2000) (l := l) (q := q) (by omega) (by omega)).1, (paper_s (F := 2000) (l := l) (q := q) (by omega) (by omega)).2]
    simp only [Option.bind_some]
    rw [same_s (by omega) (by omega)]
    simp only [Option.bind_some, if_true]
    rw [(paper_s (F := 2000) (l := A.1) (q := y) (by omega) (by omega)).1, (paper_s (F := 2000) (l := A.1) (q := y) (by omega) (by omega)).2]
    simp only [Option.bind_some]
    rw [same_s (by omega) (by omega)]
    simp only [Option.bind_some, if_true, eawake_s (Nat.le_refl 2000)]
theorem find_sorted {l : List GEnrolment} (hs : SortE l) {x : GEnrolment} (hx : x ∈ l) : findS l x.Entry.Candidate x.Entry.Paper = (x, true) := by
  have : l.find? (isE x.Entry.Candidate x.Entry.Paper) = some x := by
    induction l with
    | nil => simp at hx
    | cons y r ih =>
      unfold SortE at hs
      rw [List.pairwise_cons] at hs
      rw [List.find?_cons]
      rcases List.mem_cons.1 hx with rfl | hx
      · simp [isE]
      · have h1 := hs.1 x hx
        rw [ltE_iff] at h1
        have : isE x.Entry.Candidate x.Entry.Paper y = false := by
          unfold isE
          cases h : ((y.Entry.Candidate == x.Entry.Candidate) && (y.Entry.Paper == x.Entry.Paper)) with
          | false => rfl
          | true => simp only [Bool.and_eq_true, beq_iff_eq] at h; omega
        rw [this]
        exact ih hs.2 hx
  simp [findS, this]
theorem law_EntryOnce (t : List Int) : ∃ F, law13_EntryOnce F t = some true := by
  refine ⟨2000, ?_⟩
  obtain ⟨t0, a1, a2⟩ := new_s t
  obtain ⟨d, t1, b1, b2, b3⟩ := deadlines_s a2 0 (by omega)
  obtain ⟨l, t2, c1, c2, c3⟩ := entryEvents_s (F := 2000) b2 14 6 (by omega) (by omega) (by omega)
  have hd := (b3 rfl).1
  unfold law13_EntryOnce
  rw [a1]; simp only [Option.bind_some]
  rw [b1]; simp only [Option.bind_some]
  rw [show (14 : Int) = ((14 : Nat) : Int) from rfl, c1]; simp only [Option.bind_some]
  rw [efold_s (Nat.le_refl 2000) (by omega)]; simp only [Option.bind_some]
  have hcode : (foldE l d 1000000).2.2 = 0 := by rw [foldE_small (by omega) hd]; exact foldS_code
  have hV : VL (foldE l d 1000000).1 := foldE_vl
  revert hcode hV
  generalize foldE l d 1000000 = A
  intro hcode hV
  have hl := hV.len
  have key : ∀ (s p : List GEnrolment) (n : Nat), A.1 = p ++ s → s.length < n → law13_EntryOnce_L1 2000 A n (p.length : Int) = some true := by
    intro s
    induction s with
    | nil => intro p n hp hn; cases n with
      | zero => omega
      | succ n =>
        have : A.1 = p := by simpa using hp
        rw [← this]
        simp only [law13_EntryOnce_L1, law13_EntryOnce_L1_B, Int.lt_irrefl, decide_false, Bool.false_eq_true, if_false, hcode, beq_self_eq_true, if_true, Option.bind_some, eawake_s (Nat.le_refl 2000)]
    | cons e s ih => intro p n hp hn; cases n with
      | zero => omega
      | succ n =>
        have hlen : p.length < 1000000 := by have := congrArg List.length hp; simp at this; omega
        have he : e ∈ A.1 := by rw [hp]; simp
        have d1 : decide ((p.length : Int) < (A.1.length : Int)) = true := by rw [hp]; exact dlt p e s
        have i1 : idx A.1 (p.length : Int) = some e := by rw [hp]; exact idx_at p e s
        simp only [law13_EntryOnce_L1, law13_EntryOnce_L1_B, d1, if_true, i1, Option.bind_some]
        rw [find_s (by omega) (by omega), find_sorted hV.sort he]
        simp only [Option.bind_some, Bool.not_true, Bool.false_eq_true, if_false, decide_true, refEntry_s, hV.ok e he]
        rw [nxt p e (by omega)]
        have hrec := ih (p ++ [e]) n (by rw [hp]; simp) (by simpa using hn)
        rw [hrec]
        cases hg : p.getLast? with
        | none =>
          have : p = [] := by simpa using hg
          subst this
          simp
        | some y =>
          obtain ⟨h1, h2⟩ := getLast_idx (s := e :: s) hg hlen
          rw [← hp] at h1
          have d2 : decide ((p.length : Int) > 0) = true := by simp; omega
          have hy : y ∈ p := List.mem_of_getLast? hg
          have hlt : ltE y.Entry e.Entry = true := by
            have hs := hV.sort
            unfold SortE at hs
            rw [hp, List.pairwise_append] at hs
            exact hs.2.2 y hy e (by simp)
          have hno : ((decide (y.Entry.Candidate > e.Entry.Candidate)) || ((y.Entry.Candidate == e.Entry.Candidate) && (decide (y.Entry.Paper ≥ e.Entry.Paper)))) = false := by
            rw [ltE_iff] at hlt
            cases h : ((decide (y.Entry.Candidate > e.Entry.Candidate)) || ((y.Entry.Candidate == e.Entry.Candidate) && (decide (y.Entry.Paper ≥ e.Entry.Paper)))) with
            | false => rfl
            | true => simp only [Bool.or_eq_true, Bool.and_eq_true, beq_iff_eq, decide_eq_true_eq] at h; omega
          simp only [d2, if_true, h1, Option.bind_some, hno, Bool.false_eq_true, if_false]
  exact key A.1 [] 2000 rfl (by omega)
/- many -/
def manyEv (n : Nat) : List GEntryEvent := (List.range n).map fun i : Nat => GEntryEvent.mk (GStamp.mk 0 1 i) 1 (GEntry.mk i 1 0) 0
def manyEn (n : Nat) : List GEnrolment := (List.range n).map fun i : Nat => GEnrolment.mk (GEntry.mk i 1 0) false
theorem manyEv_succ (n : Nat) : manyEv (n + 1) = manyEv n ++ [GEntryEvent.mk (GStamp.mk 0 1 n) 1 (GEntry.mk n 1 0) 0] := by simp [manyEv, List.range_succ]
theorem manyEn_succ (n : Nat) : manyEn (n + 1) = manyEn n ++ [GEnrolment.mk (GEntry.mk n 1 0) false] := by simp [manyEn, List.range_succ]
theorem manyEv_is {n : Nat} (hn : n ≤ 400) : evL (·.Stamp) (manyEv n) = manyEv n := by
  refine (evL_is (·.Stamp) (manyEv n)).unique ⟨?_, fun e => ?_⟩
  · unfold manyEv
    rw [List.pairwise_map]
    refine List.pairwise_lt_range.imp fun {a b} h => ?_
    refine cmpSt_lt.2 (.inr ⟨rfl, .inr ⟨rfl, ?_⟩⟩)
    show (a : Int) < b
    omega
  · unfold SetC
    constructor
    · intro he
      refine ⟨he, ?_, fun e' he' _ hs => ?_⟩
      · simp only [manyEv, List.mem_map, List.mem_range] at he
        obtain ⟨i, hi, rfl⟩ := he
        simp only [GStamp.good, Bool.and_eq_true, decide_eq_true_eq]; omega
      · simp only [manyEv, List.mem_map, List.mem_range] at he he'
        obtain ⟨i, hi, rfl⟩ := he
        obtain ⟨j, hj, rfl⟩ := he'
        have := hs.2; simp only at this
        have : j = i := by omega
        subst this; rfl
    · exact fun h => h.1
theorem manyEn_vl {n : Nat} (hn : n ≤ 300) : VL (manyEn n) := by
  refine ⟨by simp [manyEn]; omega, fun x hx => ?_, ?_⟩
  · simp only [manyEn, List.mem_map, List.mem_range] at hx
    obtain ⟨i, hi, rfl⟩ := hx
    simp only [vEntry, Bool.and_eq_true, decide_eq_true_eq]; omega
  · unfold SortE manyEn
    rw [List.pairwise_map]
    refine List.pairwise_lt_range.imp fun {a b} h => ?_
    rw [ltE_iff]; simp only; omega
theorem many_lo {n : Nat} {x : GEntry} (h : (n : Int) ≤ x.Candidate) : lo (manyEn n) x = manyEn n ∧ hi (manyEn n) x = [] := by
  have : ∀ y ∈ manyEn n, ltE y.Entry x = true := fun y hy => by
    simp only [manyEn, List.mem_map, List.mem_range] at hy
    obtain ⟨i, hi, rfl⟩ := hy
    rw [ltE_iff]; simp only; omega
  have h1 := List.takeWhile_append_of_pos (p := fun y : GEnrolment => ltE y.Entry x) (l₁ := manyEn n) (l₂ := []) this
  have h2 := List.dropWhile_append_of_pos (p := fun y : GEnrolment => ltE y.Entry x) (l₁ := manyEn n) (l₂ := []) this
  simp only [List.append_nil, List.takeWhile_nil, List.dropWhile_nil] at h1 h2
  exact ⟨h1, h2⟩
theorem many_step {n : Nat} {e : GEntryEvent} (hv : vEvent e = true) (hs : e.Stamp.Source = 0 ∨ e.Stamp.Source = e.Entry.Centre) (h0 : e.Stamp.Time = 0) (hk : e.Kind = 1) (hc : (n : Int) ≤ e.Entry.Candidate) : stepS (manyEn n) (GDeadlines.mk 1 2) e = if 300 ≤ n then ([], 3) else (manyEn n ++ [GEnrolment.mk e.Entry false], 0) := by
  obtain ⟨h1, h2⟩ := many_lo hc
  have h3 : atE (manyEn n) e.Entry = .none := by unfold atE; rw [h2]
  have hlen : (manyEn n).length = n := by simp [manyEn]
  unfold stepS
  have g1 : ¬ vEvent e = false := by simp [hv]
  have g2 : ¬ (e.Stamp.Source ≠ 0 ∧ e.Stamp.Source ≠ e.Entry.Centre) := by omega
  have g3 : ¬ (GDeadlines.mk 1 2).Late < e.Stamp.Time := by simp only; omega
  rw [if_neg g1, if_neg g2, if_neg g3, h3]
  simp only [hk, if_true, h1, h2, hlen]
  have : decide ((GDeadlines.mk 1 2).Close < e.Stamp.Time) = false := by simp only; simp; omega
  rw [h0] at this ⊢
  simp
theorem many_fold {r : List GRefusal} : ∀ (k n : Nat), n + k ≤ 300 → foldS (GDeadlines.mk 1 2) 5 ((List.range' n k).map fun i : Nat => GEntryEvent.mk (GStamp.mk 0 1 i) 1 (GEntry.mk i 1 0) 0) (manyEn n) r = (manyEn (n + k), r, 0)
  | 0, n, _ => by simp [foldS]
  | k + 1, n, h => by
    rw [List.range'_succ, List.map_cons]
    simp only [foldS]
    have hv : vEvent (GEntryEvent.mk (GStamp.mk 0 1 n) 1 (GEntry.mk n 1 0) 0) = true := by
      simp [vEvent, vEntry]; omega
    have hst := (many_step (n := n) hv (.inr rfl) rfl rfl (Int.le_refl _)).trans (if_neg (by omega))
    rw [if_neg (by decide), hst]
    simp only [ne_eq, not_true_eq_false, if_false, ← manyEn_succ]
    rw [many_fold k (n + 1) (by omega)]
    rw [show n + 1 + k = n + (k + 1) by omega]
theorem law_EntryMany (x : Int) : ∃ F, law13_EntryMany F x = some true := by
  refine ⟨2000, ?_⟩
  unfold law13_EntryMany
  obtain ⟨k, k1, k2, k3, _⟩ := cut_s x 6 (by omega)
  have k4 := k3 (by omega)
  obtain ⟨k, rfl⟩ : ∃ m : Nat, k = m := ⟨k.toNat, by omega⟩
  rw [k1]; simp only [Option.bind_some]
  have hi : i64 (297 + (k : Int)) = ((297 + k : Nat) : Int) := by rw [i64_of (by omega) (by omega)]; omega
  have hfold : entry_Fold 2000 (manyEv (297 + k)) (GDeadlines.mk 1 2) 5 = some (if 300 < 297 + k then ([], [], 3) else (manyEn (297 + k), [], 0)) := by
    have hl : (manyEv (297 + k)).length = 297 + k := by simp [manyEv]
    rw [efold_s (Nat.le_refl 2000) (by omega)]
    congr 1
    unfold foldE
    rw [if_neg (by decide)]
    unfold canonEv
    rw [manyEv_is (by omega), hl]
    by_cases h : 300 < 297 + k
    · rw [if_pos h, if_pos h]; simp
    · rw [if_neg h, if_neg h]
      simp only [ne_eq, not_true_eq_false, if_false]
      have := many_fold (r := []) (297 + k) 0 (by omega)
      rw [Nat.zero_add] at this
      rw [← this]
      simp [manyEv, manyEn, List.range_eq_range']
  have happ : entry_Apply 2000 (manyEn (297 + k)) (GDeadlines.mk 1 2) (GEntryEvent.mk (GStamp.mk 0 0 0) 1 (GEntry.mk 9000 1 0) 0) = some (if 300 < 297 + k then ([], 1) else if 297 + k = 300 then ([], 3) else (manyEn (297 + k) ++ [GEnrolment.mk (GEntry.mk 9000 1 0) false], 0)) := by
    have hl : (manyEn (297 + k)).length = 297 + k := by simp [manyEn]
    rw [apply_s (by omega) (by omega) (by omega)]
    congr 1
    unfold applyS
    by_cases h : 300 < 297 + k
    · rw [if_pos h, if_neg]
      rintro ⟨h1, _⟩
      have := (validB_iff.1 h1).len; omega
    · rw [if_neg h, if_pos ⟨validB_iff.2 (manyEn_vl (by omega)), by decide⟩, many_step (by decide) (.inl rfl) rfl rfl (by simp only; omega)]
      by_cases h3 : 297 + k = 300
      · rw [if_pos (by omega), if_pos h3]
      · rw [if_neg (by omega), if_neg h3]
  have key : ∀ (j n i : Nat), i + j = 297 + k → j < n → law13_EntryMany_L1 2000 k n (i : Int) (manyEv i) (manyEn i) = some true := by
    intro j
    induction j with
    | zero => intro n i hij hn; cases n with
      | zero => omega
      | succ n =>
        have hik : i = 297 + k := by omega
        have hl : (manyEn (297 + k)).length = 297 + k := by simp [manyEn]
        subst hik
        simp only [law13_EntryMany_L1, law13_EntryMany_L1_B, hi, Int.lt_irrefl, decide_false, Bool.false_eq_true, if_false, hfold, happ, Option.bind_some]
        by_cases h : 300 < 297 + k
        · have d : decide (((297 + k : Nat) : Int) > 300) = true := by simp only [decide_eq_true_eq]; omega
          simp only [d, h, if_true, beq_self_eq_true, List.length_nil, Int.ofNat_zero, Option.bind_some, eawake_s (Nat.le_refl 2000)]
        · have d : decide (((297 + k : Nat) : Int) > 300) = false := by rw [decide_eq_false_iff_not]; omega
          simp only [d, h, if_false, Bool.false_eq_true, bne_self_eq_false]
          rw [same_s (by omega) (by omega)]
          simp only [Option.bind_some, Bool.not_true, Bool.false_eq_true, if_false]
          by_cases h3 : 297 + k = 300
          · have d3 : (((297 + k : Nat) : Int) == 300) = true := by rw [h3]; rfl
            rw [if_pos h3]
            simp only [d3, if_true, beq_self_eq_true, Option.bind_some, eawake_s (Nat.le_refl 2000)]
          · have d3 : (((297 + k : Nat) : Int) == 300) = false := by simp; omega
            simp only [d3, h3, if_false, Bool.false_eq_true, beq_self_eq_true, if_true]
            rw [i64_of (by omega) (by omega)]
            have d4 : (((manyEn (297 + k) ++ [GEnrolment.mk (GEntry.mk 9000 1 0) false]).length : Int) == ((297 + k : Nat) : Int) + 1) = true := by simp [hl]
            simp only [d4, if_true, Option.bind_some, eawake_s (Nat.le_refl 2000)]
    | succ j ih => intro n i hij hn; cases n with
      | zero => omega
      | succ n =>
        have d : decide ((i : Int) < ((297 + k : Nat) : Int)) = true := by simp only [decide_eq_true_eq]; omega
        have l1 : (manyEv i).length = i := by simp [manyEv]
        have l2 : (manyEn i).length = i := by simp [manyEn]
        simp only [law13_EntryMany_L1, law13_EntryMany_L1_B, hi, d, if_true]
        rw [app_of (by simp; omega), Option.bind_some, app_of (by simp; omega), Option.bind_some, nxtN (by omega), ← manyEv_succ, ← manyEn_succ]
        exact ih n (i + 1) (by omega) (by omega)
  exact key (297 + k) 2000 0 (by omega) (by omega)
end Go.Sh
