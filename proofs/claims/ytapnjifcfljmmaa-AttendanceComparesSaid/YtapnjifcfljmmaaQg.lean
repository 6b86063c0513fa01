/- Plain laws, part 7: the canonical events of a list of any type: a matter of the set alone. -/
import Derived.Test.YtapnjifcfljmmaaQf
set_option linter.unusedVariables false
set_option linter.unusedSimpArgs false
namespace Go.Sh
open Go.L

/-- e counts in l: it is there, valid, and every valid event of its identity is equal to it -/
def SetC {E : Type} (st : E → GStamp) (l : List E) (e : E) : Prop := e ∈ l ∧ (st e).good = true ∧ ∀ e' ∈ l, (st e').good = true → sid (st e') (st e) → e' = e
structure IsEv {E : Type} (st : E → GStamp) (l C : List E) : Prop where
  sorted : C.Pairwise fun a b => cmpSt (st a) (st b) < 0
  mem : ∀ e, e ∈ C ↔ SetC st l e
theorem IsEv.unique {E : Type} {st : E → GStamp} {l C D : List E} (h : IsEv st l C) (h' : IsEv st l D) : C = D :=
  sorted_ext (R := fun a b => cmpSt (st a) (st b) < 0) (fun a h => by rw [cmpSt_lt] at h; omega) (fun a b c h1 h2 => by rw [cmpSt_lt] at *; omega) h.sorted h'.sorted fun e => by rw [h.mem, h'.mem]
theorem SetC.congr {E : Type} {st : E → GStamp} {l m : List E} (h : ∀ e, e ∈ l ↔ e ∈ m) (e : E) : SetC st l e ↔ SetC st m e := by
  unfold SetC; simp only [h]
theorem IsEv.congr {E : Type} {st : E → GStamp} {l m C : List E} (h : ∀ e, e ∈ l ↔ e ∈ m) (hC : IsEv st l C) : IsEv st m C :=
  ⟨hC.sorted, fun e => by rw [hC.mem, SetC.congr h]⟩
/-- classes that tell the events of one stamp apart as far as it is needed -/
structure ClsOk {E : Type} (st : E → GStamp) (l : List E) (cl : List Int) : Prop where
  len : l.length = cl.length
  iff : ∀ (i : Nat) (x : E) (c : Int), l[i]? = some x → cl[i]? = some c →
    ((∀ (k : Nat) (y : E) (d : Int), l[k]? = some y → cl[k]? = some d → st y = st x → d = c) ↔ (∀ y ∈ l, st y = st x → y = x))
theorem stamp_ext {x y : GStamp} (h1 : x.Time = y.Time) (h2 : x.Source = y.Source) (h3 : x.Seq = y.Seq) : x = y := by
  cases x; cases y; simp_all
theorem counts_set {E : Type} {st : E → GStamp} {l : List E} {cl : List Int} (h : ClsOk st l cl) {i : Nat} {x : E} (hx : l[i]? = some x) :
    counts (l.map st) cl i ↔ SetC st l x ∧ ∀ k, k < i → l[k]? ≠ some x := by
  have hi : i < l.length := (List.getElem?_eq_some_iff.1 hx).1
  have hi' : i < cl.length := by have := h.len; omega
  obtain ⟨c, hc⟩ : ∃ c, cl[i]? = some c := ⟨cl[i], by simp [hi']⟩
  have key := h.iff i x c hx hc
  have hix : (l.map st)[i]? = some (st x) := by simp [hx]
  have hcl : ∀ (k : Nat) (y : E), l[k]? = some y → ∃ d, cl[k]? = some d := fun k y hy => by
    have : k < l.length := (List.getElem?_eq_some_iff.1 hy).1
    have hk : k < cl.length := by have := h.len; omega
    exact ⟨cl[k], by simp [hk]⟩
  constructor
  · rintro ⟨⟨x', h1, h2⟩, h3⟩
    rw [hix] at h1; cases h1
    have hall : ∀ (k : Nat) (y : E) (d : Int), l[k]? = some y → cl[k]? = some d → (st y).good = true → sid (st y) (st x) → (st y).Time = (st x).Time ∧ d = c := fun k y d hy hd hg hs => by
      have hk : (l.map st)[k]? = some (st y) := by simp [hy]
      have := (h3 k ⟨st y, hk, hg⟩).1
      apply Classical.byContradiction
      intro hn
      refine this ⟨st x, st y, c, d, hix, hk, hc, hd, ⟨hs.1.symm, hs.2.symm⟩, ?_⟩
      by_cases ht : (st x).Time = (st y).Time
      · exact .inr fun hcd => hn ⟨ht.symm, hcd.symm⟩
      · exact .inl ht
    have heq : ∀ y ∈ l, st y = st x → y = x := key.1 fun k y d hy hd hs => (hall k y d hy hd (by rw [hs]; exact h2) (by rw [hs]; exact ⟨rfl, rfl⟩)).2
    refine ⟨⟨List.mem_of_getElem? hx, h2, fun y hy hg hs => ?_⟩, fun k hk hkx => ?_⟩
    · obtain ⟨k, hk⟩ := List.getElem?_of_mem hy
      obtain ⟨d, hd⟩ := hcl k y hk
      exact heq y hy (stamp_ext (hall k y d hk hd hg hs).1 hs.1 hs.2)
    · have hkk : (l.map st)[k]? = some (st x) := by simp [hkx]
      exact (h3 k ⟨st x, hkk, h2⟩).2 hk (by rw [hkk, hix])
  · rintro ⟨⟨h1, h2, h3⟩, h4⟩
    refine ⟨⟨st x, hix, h2⟩, fun k hk => ⟨?_, fun hki he => ?_⟩⟩
    · rintro ⟨x', y', c', d, a1, a2, a3, a4, a5, a6⟩
      rw [hix] at a1; cases a1
      rw [hc] at a3; cases a3
      simp only [List.getElem?_map, Option.map_eq_some_iff] at a2
      obtain ⟨y, hy, rfl⟩ := a2
      have hgy : (st y).good = true := by
        obtain ⟨z, b1, b2⟩ := hk
        simp only [List.getElem?_map, hy, Option.map_some, Option.some.injEq] at b1
        rw [b1]; exact b2
      have hyx : y = x := h3 y (List.mem_of_getElem? hy) hgy ⟨a5.1.symm, a5.2.symm⟩
      subst hyx
      rcases a6 with a6 | a6
      · exact a6 rfl
      · refine a6 (key.2 (fun z hz hzx => h3 z hz (by rw [hzx]; exact h2) (by rw [hzx]; exact ⟨rfl, rfl⟩)) k y d hy a4 rfl).symm
    · obtain ⟨z, b1, b2⟩ := hk
      rw [b1, hix] at he
      cases he
      simp only [List.getElem?_map, Option.map_eq_some_iff] at b1
      obtain ⟨y, hy, hyx⟩ := b1
      have : y = x := h3 y (List.mem_of_getElem? hy) (by rw [hyx]; exact h2) (by rw [hyx]; exact ⟨rfl, rfl⟩)
      subst this
      exact h4 k hki hy
/-- the first place of a member -/
theorem first_place {E : Type} [DecidableEq E] {x : E} : ∀ {l : List E}, x ∈ l → ∃ i : Nat, l[i]? = some x ∧ ∀ k, k < i → l[k]? ≠ some x
  | [], h => by simp at h
  | y :: r, h => by
    by_cases hxy : y = x
    · exact ⟨0, by simp [hxy], by omega⟩
    · have hr : x ∈ r := by rcases List.mem_cons.1 h with h | h
                            · exact absurd h.symm hxy
                            · exact h
      obtain ⟨i, h1, h2⟩ := first_place hr
      refine ⟨i + 1, by simpa using h1, fun k hk => ?_⟩
      cases k with
      | zero => simpa using hxy
      | succ k => simpa using h2 k (by omega)
/-- the events at some indices -/
def pickL {E : Type} (l : List E) (a : List Int) : List E := a.filterMap fun i => l[i.toNat]?
theorem pickL_len {E : Type} {l : List E} : ∀ {a : List Int}, (∀ i ∈ a, i.toNat < l.length) → (pickL l a).length = a.length
  | [], _ => rfl
  | i :: a, h => by
    have hi := h i (by simp)
    have := pickL_len (l := l) (a := a) fun j hj => h j (by simp [hj])
    simp only [pickL] at this
    simp [pickL, hi, this]
theorem isEv_of {E : Type} [DecidableEq E] {st : E → GStamp} {l : List E} {cl : List Int} (h : ClsOk st l cl) {a : List Int} (ha : IsCanon (l.map st) cl a) : IsEv st l (pickL l a) := by
  have hlt : ∀ i ∈ a, i.toNat < l.length := fun i hi => by have := counts_lt ((ha.mem i).1 hi).2; simpa using this
  refine ⟨?_, fun e => ?_⟩
  · unfold pickL
    rw [List.pairwise_filterMap]
    refine List.Pairwise.imp_of_mem (fun {i j} hi hj hij => ?_) ha.sorted
    intro x hx y hy
    obtain ⟨p, q, h1, h2, h3⟩ := hij
    simp only [List.getElem?_map, Option.map_eq_some_iff] at h1 h2
    obtain ⟨x', h4, rfl⟩ := h1
    obtain ⟨y', h5, rfl⟩ := h2
    simp_all
  · simp only [pickL, List.mem_filterMap]
    constructor
    · rintro ⟨i, hi, hx⟩
      exact ((counts_set h hx).1 ((ha.mem i).1 hi).2).1
    · intro he
      obtain ⟨i, h1, h2⟩ := first_place he.1
      exact ⟨(i : Int), (ha.mem _).2 ⟨by omega, by simpa using (counts_set h h1).2 ⟨he, h2⟩⟩, by simpa using h1⟩
/-- the first equal event: the document's classes -/
def clsR {E : Type} [DecidableEq E] (l : List E) : List Int := l.map fun x => (l.findIdx (fun y => decide (y = x)) : Int)
theorem clsR_ok {E : Type} [DecidableEq E] (st : E → GStamp) (l : List E) : ClsOk st l (clsR l) := by
  refine ⟨by simp [clsR], fun i x c hx hc => ?_⟩
  have hcx : c = (l.findIdx (fun y => decide (y = x)) : Int) := by simp [clsR, hx] at hc; exact hc.symm
  constructor
  · intro h y hy hs
    obtain ⟨k, hk⟩ := List.getElem?_of_mem hy
    have := h k y (l.findIdx (fun z => decide (z = y)) : Int) hk (by simp [clsR, hk]) hs
    rw [hcx] at this
    have hf : l.findIdx (fun z => decide (z = y)) = l.findIdx (fun z => decide (z = x)) := by omega
    have hlt : l.findIdx (fun z => decide (z = x)) < l.length := List.findIdx_lt_length_of_exists ⟨x, List.mem_of_getElem? hx, by simp⟩
    have e1 := List.findIdx_getElem (xs := l) (p := fun z => decide (z = x)) (w := hlt)
    have hlt2 : l.findIdx (fun z => decide (z = y)) < l.length := by rw [hf]; exact hlt
    have e2 := List.findIdx_getElem (xs := l) (p := fun z => decide (z = y)) (w := hlt2)
    simp only [decide_eq_true_eq] at e1 e2
    rw [← e1, ← e2]
    simp only [hf]
  · intro h k y d hy hd hs
    have := h y (List.mem_of_getElem? hy) hs
    subst this
    simp [clsR, hy] at hd
    rw [hcx, ← hd]
/-- 0 for an event that is equal to the first one of its stamp, or else 1: the program's classes -/
def clsP {E : Type} [DecidableEq E] (st : E → GStamp) (l : List E) : List Int := l.map fun x => if l.find? (fun y => decide (st y = st x)) = some x then 0 else 1
theorem clsP_ok {E : Type} [DecidableEq E] (st : E → GStamp) (l : List E) : ClsOk st l (clsP st l) := by
  refine ⟨by simp [clsP], fun i x c hx hc => ?_⟩
  have hcx : c = if l.find? (fun y => decide (st y = st x)) = some x then 0 else 1 := by simp [clsP, hx] at hc; exact hc.symm
  obtain ⟨f, hf⟩ : ∃ f, l.find? (fun y => decide (st y = st x)) = some f := by
    cases h : l.find? (fun y => decide (st y = st x)) with
    | none => rw [List.find?_eq_none] at h; exact absurd (h x (List.mem_of_getElem? hx)) (by simp)
    | some f => exact ⟨f, rfl⟩
  have hfs : st f = st x := by simpa using List.find?_some hf
  have hfm : f ∈ l := List.mem_of_find?_eq_some hf
  have hfc : ∀ y, st y = st x → l.find? (fun z => decide (st z = st y)) = some f := fun y hy => by rw [hy]; exact hf
  constructor
  · intro h
    obtain ⟨k, hk⟩ := List.getElem?_of_mem hfm
    have h0 := h k f 0 hk (by simp [clsP, hk, hfc f hfs]) hfs
    have hall : ∀ y ∈ l, st y = st x → y = f := fun y hy hs => by
      obtain ⟨j, hj⟩ := List.getElem?_of_mem hy
      have := h j y _ hj (by simp only [clsP, List.getElem?_map, hj, Option.map_some]; rfl) hs
      rw [← h0, hfc y hs] at this
      by_cases he : f = y
      · exact he.symm
      · rw [if_neg (by simpa using he)] at this; omega
    intro y hy hs
    rw [hall y hy hs, hall x (List.mem_of_getElem? hx) rfl]
  · intro h k y d hy hd hs
    have := h y (List.mem_of_getElem? hy) hs
    subst this
    simp only [clsP, List.getElem?_map, hy, Option.map_some, Option.some.injEq] at hd
    rw [hcx, ← hd]
/-- the canonical events -/
def evL {E : Type} [DecidableEq E] (st : E → GStamp) (l : List E) : List E := pickL l (canonL (l.map st) (clsR l))
theorem evL_is {E : Type} [DecidableEq E] (st : E → GStamp) (l : List E) : IsEv st l (evL st l) := isEv_of (clsR_ok st l) (canonL_is _ _)
theorem evL_of {E : Type} [DecidableEq E] {st : E → GStamp} {l : List E} {cl : List Int} (h : ClsOk st l cl) : pickL l (canonL (l.map st) cl) = evL st l :=
  (isEv_of h (canonL_is _ _)).unique (evL_is st l)
theorem canonL_lt {l : List GStamp} {cl : List Int} {i : Int} (h : i ∈ canonL l cl) : 0 ≤ i ∧ i.toNat < l.length := by
  have := ((canonL_is l cl).mem i).1 h; exact ⟨this.1, counts_lt this.2⟩
theorem evL_len {E : Type} [DecidableEq E] {st : E → GStamp} {l : List E} {cl : List Int} (h : ClsOk st l cl) : (canonL (l.map st) cl).length = (evL st l).length := by
  rw [← evL_of h, pickL_len]
  intro i hi; have := (canonL_lt hi).2; simpa using this
theorem canonS_ev {E : Type} [DecidableEq E] {st : E → GStamp} {l : List E} {cl : List Int} (h : ClsOk st l cl) : canonS (l.map st) cl = if 300 < (evL st l).length then ([], 3) else (canonL (l.map st) cl, 0) := by
  have h1 := h.len
  unfold canonS
  rw [if_neg (by simpa using h1), evL_len h]
theorem isort_len {α : Type} {lt : α → α → Bool} (l : List α) : (isort lt l).length = l.length := perm_isort.length_eq
theorem canonL_len (l : List GStamp) (cl : List Int) : (canonL l cl).length ≤ l.length := by
  unfold canonL
  rw [isort_len, List.length_map]
  have := List.length_filter_le (countsB l cl) (List.range l.length)
  simpa using this
theorem evL_le {E : Type} [DecidableEq E] (st : E → GStamp) (l : List E) : (evL st l).length ≤ l.length := by
  rw [← evL_len (clsR_ok st l)]
  have := canonL_len (l.map st) (clsR l)
  simpa using this
/-- what a canonical list looks like -/
def canonEv {E : Type} [DecidableEq E] (st : E → GStamp) (l : List E) : List E × Int := if 300 < (evL st l).length then ([], 3) else (evL st l, 0)
theorem canonEv_congr {E : Type} [DecidableEq E] {st : E → GStamp} {l m : List E} (h : ∀ e, e ∈ l ↔ e ∈ m) : canonEv st l = canonEv st m := by
  have : evL st l = evL st m := ((evL_is st l).congr h).unique (evL_is st m)
  unfold canonEv; rw [this]
theorem canonEv_small {E : Type} [DecidableEq E] {st : E → GStamp} {l : List E} (h : l.length ≤ 300) : canonEv st l = (evL st l, 0) := by
  unfold canonEv; rw [if_neg (by have := evL_le st l; omega)]
end Go.Sh
